/- sixty: two texts are the same just if their bytes are: the walk -/
import Derived.Test.YthogbbigglmapaaW7
import Derived.Test.YthogbbigglmapaaQuiet
namespace Go.Proofs.Ythogbbigglmapaa
open Go.RowKit
set_option linter.unusedSimpArgs false in
set_option maxRecDepth 100000 in
set_option maxHeartbeats 800000 in
theorem SixtyOrder_walk (a : Option Addr) (n c : Nat) (l : List (BitVec 8)) (a' : Option Addr) (n' c' : Nat) (l' : List (BitVec 8)) (w : World) (h : Rd8 w a n c l) (h' : Rd8 w a' n' c' l') :
    Calls Try.prog 10 #[.slice a n c, .slice a' n' c'] w fun e w' => e = .returned (.bool true) ∧ Below w.heap.size w w' := by
  have L := Lib.hid h
  have L' := Lib.hid h'
  have N := Lib.hid h.1
  have N' := Lib.hid h'.1
  clear h h'
  obtain ⟨D, hD⟩ : ∃ D, D = (l == l') := ⟨_, rfl⟩
  have e1 : ((str l).toList == (str l').toList) = D := by rw [str_beq, hD]
  have e2 : ((str (enc l)).toList == (str (enc l')).toList) = D := by
    rw [str_beq, hD, Bool.eq_iff_iff, beq_iff_eq, beq_iff_eq]
    exact ⟨enc_inj, fun h => by rw [h]⟩
  clear hD
  go_enter Try.func10, Try.ntmps10
  by_cases hn : n ≤ 300
  · have n1 : ¬ (300 : Int) < (n : Int) := by omega
    by_cases hn' : n' ≤ 300
    · have n2 : ¬ (300 : Int) < (n' : Int) := by omega
      go_upto_region 3 with fail
      refine wp_region_still (by kernel_rfl) (by kernel_rfl) (fun C hC0 hCb hCn K' hK' => ?_)
      have S1 : ∀ w1, C w1 → (convert 22 9 (.slice a n c)).run Try.prog w1 = .ok (.string (str l)) w1 := fun w1 h => run_str (P := Try.prog) w1 22 9 5 _ _ _ l Try.underlying22 Try.underlying9 Try.underlying5 (L.out.drew.below (hCb w1 h))
      have S2 : ∀ w1, C w1 → (convert 22 9 (.slice a' n' c')).run Try.prog w1 = .ok (.string (str l')) w1 := fun w1 h => run_str (P := Try.prog) w1 22 9 5 _ _ _ l' Try.underlying22 Try.underlying9 Try.underlying5 (L'.out.drew.below (hCb w1 h))
      repeat
        first
          | ((with_reducible refine q_obl (v := ?_) (a' := ?_) ?_ (fun _ hcw => ?_) ?_ ?_); rotate_left; rotate_left; (focus (exact rfl)); (focus (have f := S1 _ hcw; have f' := S2 _ hcw; go_simp; (try go_bits); exact rfl)); (focus (simp only [Act.put, List.setIfInBounds_toArray, List.set_cons_succ, List.set_cons_zero, Act.eval, Array.getD_eq_getD_getElem?, List.getElem?_toArray, List.getElem?_cons_succ, List.getElem?_cons_zero, Option.getD_some]; exact rfl)))
          | ((with_reducible refine q_skip (a' := ?_) ?_ ?_ ?_); rotate_left; (focus (exact rfl)); (focus (simp only [Act.put, List.setIfInBounds_toArray, List.set_cons_succ, List.set_cons_zero, Act.eval, Array.getD_eq_getD_getElem?, List.getElem?_toArray, List.getElem?_cons_succ, List.getElem?_cons_zero, Option.getD_some]; exact rfl)))
      ((with_reducible refine q_callB hCn (v := ?_) (a' := ?_) ?_ (fun wq hcw => ?_) ?_ ?_); rotate_left; rotate_left)
      · exact rfl
      · go_simp
        refine entersB_of ?_
        exact sixEncode_any l a n c wq (L.out.drew.below (hCb wq hcw)) (by omega)
      · (simp only [Act.put, List.setIfInBounds_toArray, List.set_cons_succ, List.set_cons_zero, Act.eval, Array.getD_eq_getD_getElem?, List.getElem?_toArray, List.getElem?_cons_succ, List.getElem?_cons_zero, Option.getD_some]; exact rfl)
      repeat
        first
          | ((with_reducible refine q_obl (v := ?_) (a' := ?_) ?_ (fun _ hcw => ?_) ?_ ?_); rotate_left; rotate_left; (focus (exact rfl)); (focus (have f := S1 _ hcw; have f' := S2 _ hcw; go_simp; (try go_bits); exact rfl)); (focus (simp only [Act.put, List.setIfInBounds_toArray, List.set_cons_succ, List.set_cons_zero, Act.eval, Array.getD_eq_getD_getElem?, List.getElem?_toArray, List.getElem?_cons_succ, List.getElem?_cons_zero, Option.getD_some]; exact rfl)))
          | ((with_reducible refine q_skip (a' := ?_) ?_ ?_ ?_); rotate_left; (focus (exact rfl)); (focus (simp only [Act.put, List.setIfInBounds_toArray, List.set_cons_succ, List.set_cons_zero, Act.eval, Array.getD_eq_getD_getElem?, List.getElem?_toArray, List.getElem?_cons_succ, List.getElem?_cons_zero, Option.getD_some]; exact rfl)))
      ((with_reducible refine q_callB hCn (v := ?_) (a' := ?_) ?_ (fun wq hcw => ?_) ?_ ?_); rotate_left; rotate_left)
      · exact rfl
      · go_simp
        refine entersB_of ?_
        exact sixEncode_any l' a' n' c' wq (L'.out.drew.below (hCb wq hcw)) (by omega)
      · (simp only [Act.put, List.setIfInBounds_toArray, List.set_cons_succ, List.set_cons_zero, Act.eval, Array.getD_eq_getD_getElem?, List.getElem?_toArray, List.getElem?_cons_succ, List.getElem?_cons_zero, Option.getD_some]; exact rfl)
      repeat
        first
          | ((with_reducible refine q_obl (v := ?_) (a' := ?_) ?_ (fun _ hcw => ?_) ?_ ?_); rotate_left; rotate_left; (focus (exact rfl)); (focus (have f := S1 _ hcw; have f' := S2 _ hcw; go_simp; (try go_bits); exact rfl)); (focus (simp only [Act.put, List.setIfInBounds_toArray, List.set_cons_succ, List.set_cons_zero, Act.eval, Array.getD_eq_getD_getElem?, List.getElem?_toArray, List.getElem?_cons_succ, List.getElem?_cons_zero, Option.getD_some]; exact rfl)))
          | ((with_reducible refine q_skip (a' := ?_) ?_ ?_ ?_); rotate_left; (focus (exact rfl)); (focus (simp only [Act.put, List.setIfInBounds_toArray, List.set_cons_succ, List.set_cons_zero, Act.eval, Array.getD_eq_getD_getElem?, List.getElem?_toArray, List.getElem?_cons_succ, List.getElem?_cons_zero, Option.getD_some]; exact rfl)))
      ((with_reducible refine q_callB hCn (v := ?_) (a' := ?_) ?_ (fun wq hcw => ?_) ?_ ?_); rotate_left; rotate_left)
      · exact rfl
      · go_simp
        refine entersB_of ?_
        exact sixAwake_any wq
      · (simp only [Act.put, List.setIfInBounds_toArray, List.set_cons_succ, List.set_cons_zero, Act.eval, Array.getD_eq_getD_getElem?, List.getElem?_toArray, List.getElem?_cons_succ, List.getElem?_cons_zero, Option.getD_some]; exact rfl)
      repeat
        first
          | ((with_reducible refine q_obl (v := ?_) (a' := ?_) ?_ (fun _ hcw => ?_) ?_ ?_); rotate_left; rotate_left; (focus (exact rfl)); (focus (have f := S1 _ hcw; have f' := S2 _ hcw; go_simp; (try go_bits); exact rfl)); (focus (simp only [Act.put, List.setIfInBounds_toArray, List.set_cons_succ, List.set_cons_zero, Act.eval, Array.getD_eq_getD_getElem?, List.getElem?_toArray, List.getElem?_cons_succ, List.getElem?_cons_zero, Option.getD_some]; exact rfl)))
          | ((with_reducible refine q_skip (a' := ?_) ?_ ?_ ?_); rotate_left; (focus (exact rfl)); (focus (simp only [Act.put, List.setIfInBounds_toArray, List.set_cons_succ, List.set_cons_zero, Act.eval, Array.getD_eq_getD_getElem?, List.getElem?_toArray, List.getElem?_cons_succ, List.getElem?_cons_zero, Option.getD_some]; exact rfl)))
      refine q_nil ?_
      intro w5 hw5
      refine hK' _ _ ?_
      have hB5 := (Below.refl w.heap.size w).drew.trans (hCb w5 hw5)
      clear S1 S2 hC0 hCb hCn e1 e2
      go_wp2
      go_ret
      exact ⟨rfl, hB5⟩
    · have n2 : (300 : Int) < (n' : Int) := by omega
      go_wp2
      go_ret
      exact ⟨rfl, Below.refl _ _⟩
  · have n1 : (300 : Int) < (n : Int) := by omega
    go_wp2
    go_ret
    exact ⟨rfl, Below.refl _ _⟩
end Go.Proofs.Ythogbbigglmapaa
