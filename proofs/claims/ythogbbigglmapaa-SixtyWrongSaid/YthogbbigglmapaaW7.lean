/- sixty: texts go on; two texts: the walks -/
import Derived.Test.YthogbbigglmapaaSixP
import Derived.Test.YthogbbigglmapaaSix4
import Derived.Test.YthogbbigglmapaaApp
import Derived.Test.YthogbbigglmapaaText4
namespace Go.Proofs.Ythogbbigglmapaa
open Go.RowKit
theorem str_append (a b : List (BitVec 8)) : str a ++ str b = str (a ++ b) := by
  unfold str
  apply ByteArray.ext
  simp
set_option linter.unusedSimpArgs false in
set_option maxRecDepth 100000 in
set_option maxHeartbeats 800000 in
theorem SixtyJoins_walk (a : Option Addr) (n c : Nat) (l : List (BitVec 8)) (a' : Option Addr) (n' c' : Nat) (l' : List (BitVec 8)) (w : World) (h : Rd8 w a n c l) (h' : Rd8 w a' n' c' l') :
    Calls Try.prog 7 #[.slice a n c, .slice a' n' c'] w fun e w' => e = .returned (.bool true) ∧ Below w.heap.size w w' := by
  have L := Lib.hid h
  have L' := Lib.hid h'
  have N := Lib.hid h.1
  have N' := Lib.hid h'.1
  clear h h'
  go_enter Try.func7, Try.ntmps7
  by_cases hn : n ≤ 300
  · have n1 : ¬ (300 : Int) < (n : Int) := by omega
    by_cases hn' : n' ≤ 300
    · have n2 : ¬ (300 : Int) < (n' : Int) := by omega
      by_cases h3 : n % 3 = 0
      · have n3 : (n : Int).tmod 3 = 0 := by rw [Int.tmod_eq_emod_of_nonneg (by omega)]; omega
        have n4 : (n : Int) % 3 = 0 := by omega
        have hj : enc (l ++ l') = enc l ++ enc l' := enc_append l l' (by rw [N.out]; exact h3)
        have HJ := Lib.hid hj
        have hs : ¬ (9223372036854775807 < (str (enc l)).size + (str (enc l')).size) := by
          rw [str_size, str_size, enc_length, enc_length, N.out, N'.out]
          split <;> split <;> omega
        clear hj
        go_upto_region 3 with fail
        refine wp_region_plain2 [2,0,2,0,2,2,0,2,0,2,0,0,0,2,0,0] rfl (fun K2 hK2 => ?_)
        refine z_build0 (B := w.heap.size) (Nat.le_refl _) Try.underlying22 info8 (fun w1 v1 ho1 hb1 => ?_)
        simp only [Act.put, List.setIfInBounds_toArray, List.set_cons_succ, List.set_cons_zero]
        repeat
          first
            | ((with_reducible refine z_move (a' := ?_) ?_ ?_); rotate_left; · (simp only [Act.put, List.setIfInBounds_toArray, List.set_cons_succ, List.set_cons_zero, Act.eval, Array.getD_eq_getD_getElem?, List.getElem?_toArray, List.getElem?_cons_succ, List.getElem?_cons_zero, Option.getD_some]; exact rfl))
            | ((with_reducible refine z_assign (a' := ?_) ?_ ?_); rotate_left; · (simp only [Act.put, List.setIfInBounds_toArray, List.set_cons_succ, List.set_cons_zero, Act.eval, Array.getD_eq_getD_getElem?, List.getElem?_toArray, List.getElem?_cons_succ, List.getElem?_cons_zero, Option.getD_some]; exact rfl))
            | ((with_reducible refine z_obl (v := ?_) (a' := ?_) rfl (fun _ => ?_) ?_ ?_); rotate_left; rotate_left; (focus (go_simp; (try go_bits); exact rfl)); (focus (simp only [Act.put, List.setIfInBounds_toArray, List.set_cons_succ, List.set_cons_zero, Act.eval, Array.getD_eq_getD_getElem?, List.getElem?_toArray, List.getElem?_cons_succ, List.getElem?_cons_zero, Option.getD_some]; exact rfl)))
            | ((with_reducible refine z_read (v := ?_) (a' := ?_) rfl ?_ ?_ ?_); rotate_left; rotate_left; (focus (go_simp; (try go_bits); exact rfl)); (focus (simp only [Act.put, List.setIfInBounds_toArray, List.set_cons_succ, List.set_cons_zero, Act.eval, Array.getD_eq_getD_getElem?, List.getElem?_toArray, List.getElem?_cons_succ, List.getElem?_cons_zero, Option.getD_some]; exact rfl)))
        refine z_append8 ho1 (L.out.below hb1) rfl rfl Try.underlying22 info8 (by simp; omega) hb1.size (fun w2 v2 o2 g2 b2 => ?_)
        simp only [Act.put, List.setIfInBounds_toArray, List.set_cons_succ, List.set_cons_zero]
        rw [List.nil_append] at o2
        have d2 := hb1.trans b2
        repeat
          first
            | ((with_reducible refine z_move (a' := ?_) ?_ ?_); rotate_left; · (simp only [Act.put, List.setIfInBounds_toArray, List.set_cons_succ, List.set_cons_zero, Act.eval, Array.getD_eq_getD_getElem?, List.getElem?_toArray, List.getElem?_cons_succ, List.getElem?_cons_zero, Option.getD_some]; exact rfl))
            | ((with_reducible refine z_assign (a' := ?_) ?_ ?_); rotate_left; · (simp only [Act.put, List.setIfInBounds_toArray, List.set_cons_succ, List.set_cons_zero, Act.eval, Array.getD_eq_getD_getElem?, List.getElem?_toArray, List.getElem?_cons_succ, List.getElem?_cons_zero, Option.getD_some]; exact rfl))
            | ((with_reducible refine z_obl (v := ?_) (a' := ?_) rfl (fun _ => ?_) ?_ ?_); rotate_left; rotate_left; (focus (go_simp; (try go_bits); exact rfl)); (focus (simp only [Act.put, List.setIfInBounds_toArray, List.set_cons_succ, List.set_cons_zero, Act.eval, Array.getD_eq_getD_getElem?, List.getElem?_toArray, List.getElem?_cons_succ, List.getElem?_cons_zero, Option.getD_some]; exact rfl)))
            | ((with_reducible refine z_read (v := ?_) (a' := ?_) rfl ?_ ?_ ?_); rotate_left; rotate_left; (focus (go_simp; (try go_bits); exact rfl)); (focus (simp only [Act.put, List.setIfInBounds_toArray, List.set_cons_succ, List.set_cons_zero, Act.eval, Array.getD_eq_getD_getElem?, List.getElem?_toArray, List.getElem?_cons_succ, List.getElem?_cons_zero, Option.getD_some]; exact rfl)))
        refine z_append8 o2 (L'.out.below d2) rfl rfl Try.underlying22 info8 (by rw [N.out]; omega) d2.size (fun w3 v3 o3 g3 b3 => ?_)
        simp only [Act.put, List.setIfInBounds_toArray, List.set_cons_succ, List.set_cons_zero]
        have d3 := d2.trans b3
        obtain ⟨a3, c3, rfl, hr3, _⟩ := o3.rd
        obtain ⟨N2, hN2⟩ : ∃ q, q = (l ++ l').length := ⟨_, rfl⟩
        rw [← hN2] at hr3 ⊢
        have hN3 : N2 ≤ 1000000000 := by rw [hN2, List.length_append, N.out, N'.out]; omega
        clear hN2
        (with_reducible refine z_callw rfl ?_)
        go_simp
        refine entersW_of ?_
        refine (sixEncode_any (l ++ l') a3 N2 c3 w3 hr3 hN3).mono ?_
        rintro e w4 ⟨rfl, hb4⟩
        refine ⟨_, rfl, ?_⟩
        try simp only [Act.put, List.setIfInBounds_toArray, List.set_cons_succ, List.set_cons_zero]
        have d4 := d3.trans (hb4.mono d3.size)
        repeat
          first
            | ((with_reducible refine z_move (a' := ?_) ?_ ?_); rotate_left; · (simp only [Act.put, List.setIfInBounds_toArray, List.set_cons_succ, List.set_cons_zero, Act.eval, Array.getD_eq_getD_getElem?, List.getElem?_toArray, List.getElem?_cons_succ, List.getElem?_cons_zero, Option.getD_some]; exact rfl))
            | ((with_reducible refine z_assign (a' := ?_) ?_ ?_); rotate_left; · (simp only [Act.put, List.setIfInBounds_toArray, List.set_cons_succ, List.set_cons_zero, Act.eval, Array.getD_eq_getD_getElem?, List.getElem?_toArray, List.getElem?_cons_succ, List.getElem?_cons_zero, Option.getD_some]; exact rfl))
            | ((with_reducible refine z_obl (v := ?_) (a' := ?_) rfl (fun _ => ?_) ?_ ?_); rotate_left; rotate_left; (focus (go_simp; (try go_bits); exact rfl)); (focus (simp only [Act.put, List.setIfInBounds_toArray, List.set_cons_succ, List.set_cons_zero, Act.eval, Array.getD_eq_getD_getElem?, List.getElem?_toArray, List.getElem?_cons_succ, List.getElem?_cons_zero, Option.getD_some]; exact rfl)))
            | ((with_reducible refine z_read (v := ?_) (a' := ?_) rfl ?_ ?_ ?_); rotate_left; rotate_left; (focus (go_simp; (try go_bits); exact rfl)); (focus (simp only [Act.put, List.setIfInBounds_toArray, List.set_cons_succ, List.set_cons_zero, Act.eval, Array.getD_eq_getD_getElem?, List.getElem?_toArray, List.getElem?_cons_succ, List.getElem?_cons_zero, Option.getD_some]; exact rfl)))
        (with_reducible refine z_callw rfl ?_)
        go_simp
        refine entersW_of ?_
        refine (sixEncode_any l a n c w4 (L.out.below d4) (by omega)).mono ?_
        rintro e w5 ⟨rfl, hb5⟩
        refine ⟨_, rfl, ?_⟩
        try simp only [Act.put, List.setIfInBounds_toArray, List.set_cons_succ, List.set_cons_zero]
        have d5 := d4.trans (hb5.mono d4.size)
        repeat
          first
            | ((with_reducible refine z_move (a' := ?_) ?_ ?_); rotate_left; · (simp only [Act.put, List.setIfInBounds_toArray, List.set_cons_succ, List.set_cons_zero, Act.eval, Array.getD_eq_getD_getElem?, List.getElem?_toArray, List.getElem?_cons_succ, List.getElem?_cons_zero, Option.getD_some]; exact rfl))
            | ((with_reducible refine z_assign (a' := ?_) ?_ ?_); rotate_left; · (simp only [Act.put, List.setIfInBounds_toArray, List.set_cons_succ, List.set_cons_zero, Act.eval, Array.getD_eq_getD_getElem?, List.getElem?_toArray, List.getElem?_cons_succ, List.getElem?_cons_zero, Option.getD_some]; exact rfl))
            | ((with_reducible refine z_obl (v := ?_) (a' := ?_) rfl (fun _ => ?_) ?_ ?_); rotate_left; rotate_left; (focus (go_simp; (try go_bits); exact rfl)); (focus (simp only [Act.put, List.setIfInBounds_toArray, List.set_cons_succ, List.set_cons_zero, Act.eval, Array.getD_eq_getD_getElem?, List.getElem?_toArray, List.getElem?_cons_succ, List.getElem?_cons_zero, Option.getD_some]; exact rfl)))
            | ((with_reducible refine z_read (v := ?_) (a' := ?_) rfl ?_ ?_ ?_); rotate_left; rotate_left; (focus (go_simp; (try go_bits); exact rfl)); (focus (simp only [Act.put, List.setIfInBounds_toArray, List.set_cons_succ, List.set_cons_zero, Act.eval, Array.getD_eq_getD_getElem?, List.getElem?_toArray, List.getElem?_cons_succ, List.getElem?_cons_zero, Option.getD_some]; exact rfl)))
        (with_reducible refine z_callw rfl ?_)
        go_simp
        refine entersW_of ?_
        refine (sixEncode_any l' a' n' c' w5 (L'.out.below d5) (by omega)).mono ?_
        rintro e w6 ⟨rfl, hb6⟩
        refine ⟨_, rfl, ?_⟩
        try simp only [Act.put, List.setIfInBounds_toArray, List.set_cons_succ, List.set_cons_zero]
        have d6 := d5.trans (hb6.mono d5.size)
        rw [HJ.out, ← str_append]
        repeat
          first
            | ((with_reducible refine z_move (a' := ?_) ?_ ?_); rotate_left; · (simp only [Act.put, List.setIfInBounds_toArray, List.set_cons_succ, List.set_cons_zero, Act.eval, Array.getD_eq_getD_getElem?, List.getElem?_toArray, List.getElem?_cons_succ, List.getElem?_cons_zero, Option.getD_some]; exact rfl))
            | ((with_reducible refine z_assign (a' := ?_) ?_ ?_); rotate_left; · (simp only [Act.put, List.setIfInBounds_toArray, List.set_cons_succ, List.set_cons_zero, Act.eval, Array.getD_eq_getD_getElem?, List.getElem?_toArray, List.getElem?_cons_succ, List.getElem?_cons_zero, Option.getD_some]; exact rfl))
            | ((with_reducible refine z_obl (v := ?_) (a' := ?_) rfl (fun _ => ?_) ?_ ?_); rotate_left; rotate_left; (focus (go_simp; (try go_bits); exact rfl)); (focus (simp only [Act.put, List.setIfInBounds_toArray, List.set_cons_succ, List.set_cons_zero, Act.eval, Array.getD_eq_getD_getElem?, List.getElem?_toArray, List.getElem?_cons_succ, List.getElem?_cons_zero, Option.getD_some]; exact rfl)))
            | ((with_reducible refine z_read (v := ?_) (a' := ?_) rfl ?_ ?_ ?_); rotate_left; rotate_left; (focus (go_simp; (try go_bits); exact rfl)); (focus (simp only [Act.put, List.setIfInBounds_toArray, List.set_cons_succ, List.set_cons_zero, Act.eval, Array.getD_eq_getD_getElem?, List.getElem?_toArray, List.getElem?_cons_succ, List.getElem?_cons_zero, Option.getD_some]; exact rfl)))
            | ((with_reducible refine z_oblG (v := ?_) (a' := ?_) ?_ (fun _ => ?_) ?_ ?_); rotate_left; rotate_left; (focus (exact rfl)); (focus (go_simp; (try go_bits); exact rfl)); (focus (simp only [Act.put, List.setIfInBounds_toArray, List.set_cons_succ, List.set_cons_zero, Act.eval, Array.getD_eq_getD_getElem?, List.getElem?_toArray, List.getElem?_cons_succ, List.getElem?_cons_zero, Option.getD_some]; exact rfl)))
            | ((with_reducible refine z_readG (v := ?_) (a' := ?_) ?_ ?_ ?_ ?_); rotate_left; rotate_left; (focus (exact rfl)); (focus (go_simp; (try go_bits); exact rfl)); (focus (simp only [Act.put, List.setIfInBounds_toArray, List.set_cons_succ, List.set_cons_zero, Act.eval, Array.getD_eq_getD_getElem?, List.getElem?_toArray, List.getElem?_cons_succ, List.getElem?_cons_zero, Option.getD_some]; exact rfl)))
        (with_reducible refine z_callwG ?_ ?_)
        · exact rfl
        go_simp
        refine entersW_of ?_
        refine (sixAwake_any _).mono ?_
        rintro e w7 ⟨rfl, hb7⟩
        refine ⟨_, rfl, ?_⟩
        try simp only [Act.put, List.setIfInBounds_toArray, List.set_cons_succ, List.set_cons_zero]
        repeat
          first
            | ((with_reducible refine z_move (a' := ?_) ?_ ?_); rotate_left; · (simp only [Act.put, List.setIfInBounds_toArray, List.set_cons_succ, List.set_cons_zero, Act.eval, Array.getD_eq_getD_getElem?, List.getElem?_toArray, List.getElem?_cons_succ, List.getElem?_cons_zero, Option.getD_some]; exact rfl))
            | ((with_reducible refine z_assign (a' := ?_) ?_ ?_); rotate_left; · (simp only [Act.put, List.setIfInBounds_toArray, List.set_cons_succ, List.set_cons_zero, Act.eval, Array.getD_eq_getD_getElem?, List.getElem?_toArray, List.getElem?_cons_succ, List.getElem?_cons_zero, Option.getD_some]; exact rfl))
            | ((with_reducible refine z_obl (v := ?_) (a' := ?_) rfl (fun _ => ?_) ?_ ?_); rotate_left; rotate_left; (focus (go_simp; (try go_bits); exact rfl)); (focus (simp only [Act.put, List.setIfInBounds_toArray, List.set_cons_succ, List.set_cons_zero, Act.eval, Array.getD_eq_getD_getElem?, List.getElem?_toArray, List.getElem?_cons_succ, List.getElem?_cons_zero, Option.getD_some]; exact rfl)))
            | ((with_reducible refine z_read (v := ?_) (a' := ?_) rfl ?_ ?_ ?_); rotate_left; rotate_left; (focus (go_simp; (try go_bits); exact rfl)); (focus (simp only [Act.put, List.setIfInBounds_toArray, List.set_cons_succ, List.set_cons_zero, Act.eval, Array.getD_eq_getD_getElem?, List.getElem?_toArray, List.getElem?_cons_succ, List.getElem?_cons_zero, Option.getD_some]; exact rfl)))
            | ((with_reducible refine z_oblG (v := ?_) (a' := ?_) ?_ (fun _ => ?_) ?_ ?_); rotate_left; rotate_left; (focus (exact rfl)); (focus (go_simp; (try go_bits); exact rfl)); (focus (simp only [Act.put, List.setIfInBounds_toArray, List.set_cons_succ, List.set_cons_zero, Act.eval, Array.getD_eq_getD_getElem?, List.getElem?_toArray, List.getElem?_cons_succ, List.getElem?_cons_zero, Option.getD_some]; exact rfl)))
            | ((with_reducible refine z_readG (v := ?_) (a' := ?_) ?_ ?_ ?_ ?_); rotate_left; rotate_left; (focus (exact rfl)); (focus (go_simp; (try go_bits); exact rfl)); (focus (simp only [Act.put, List.setIfInBounds_toArray, List.set_cons_succ, List.set_cons_zero, Act.eval, Array.getD_eq_getD_getElem?, List.getElem?_toArray, List.getElem?_cons_succ, List.getElem?_cons_zero, Option.getD_some]; exact rfl)))
        refine z_nil (hK2 _ _ ?_)
        go_wp2
        go_ret
        exact ⟨rfl, d6.trans (hb7.mono d6.size)⟩
      · have n3 : ¬ (n : Int).tmod 3 = 0 := by rw [Int.tmod_eq_emod_of_nonneg (by omega)]; omega
        have n4 : ¬ (n : Int) % 3 = 0 := by omega
        go_wp2
        go_ret
        exact ⟨rfl, Below.refl _ _⟩
    · have n2 : (300 : Int) < (n' : Int) := by omega
      go_wp2
      go_ret
      exact ⟨rfl, Below.refl _ _⟩
  · have n1 : (300 : Int) < (n : Int) := by omega
    go_wp2
    go_ret
    exact ⟨rfl, Below.refl _ _⟩
end Go.Proofs.Ythogbbigglmapaa
