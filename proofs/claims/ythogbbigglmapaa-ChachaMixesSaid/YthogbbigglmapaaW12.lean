/- chacha: any quarter, any state mixed: the walk -/
import Derived.Test.YthogbbigglmapaaRef4
import Derived.Test.YthogbbigglmapaaCha7
import Derived.Test.YthogbbigglmapaaEq
import Derived.Test.YthogbbigglmapaaQuiet
namespace Go.Proofs.Ythogbbigglmapaa
open Go.RowKit
set_option linter.unusedSimpArgs false in
set_option maxRecDepth 100000 in
set_option maxHeartbeats 1600000 in
theorem ChachaMixes_walk (s : List (BitVec 32)) (r : Int) (w : World) (hs : s.length = 16) (_hr : (Lit.int .i64 r).wf = true) :
    Calls Try.prog 12 #[.agg (A32 s), .int .i64 r] w fun e w' => e = .returned (.bool true) ∧ Below w.heap.size w w' := by
  obtain ⟨W, hW⟩ : ∃ W, w.alloc (.cells (A32 s) 38) = W := ⟨_, rfl⟩
  obtain ⟨b0, hb, hz⟩ := new1 _ _ _ _ hW
  have K0 := Lib.hid b0
  have B0 := Lib.hid hb
  have HS := Lib.hid hs
  have c0 := b0.cell32 hs 0 (by omega)
  have c1 := b0.cell32 hs 1 (by omega)
  have c2 := b0.cell32 hs 2 (by omega)
  have c3 := b0.cell32 hs 3 (by omega)
  clear b0 hb hz _hr hs
  go_enter Try.func12, Try.ntmps12
  go_wp2_with fail
  refine (quarter_any (nth s 0) (nth s 1) (nth s 2) (nth s 3) W).mono ?_
  rintro e w1 ⟨rfl, rfl⟩
  go_wp2_with fail
  refine (refQuarter_any (nth s 0) (nth s 1) (nth s 2) (nth s 3) W).mono ?_
  rintro e w1 ⟨rfl, hb1⟩
  have K1 := Lib.hid (K0.out.belowAll hb1)
  have B1 := Lib.hid (B0.out.trans (hb1.mono B0.out.size))
  clear hW hb1 K0 B0 c0 c1 c2 c3
  have r0 := K1.out.row
  have hs := HS.out
  go_wp2_with fail
  by_cases h : r = 8 ∨ r = 12 ∨ r = 20
  · refine (Mix_yes s r w1 HS.out h).mono ?_
    rintro e w2 ⟨rfl, hb2⟩
    obtain ⟨p, hp⟩ : ∃ p, p = mixTo s (r.toNat / 2) := ⟨_, rfl⟩
    have hpl : p.length = 16 := by rw [hp, mixTo_length, hs]
    rw [← hp]
    have HP := Lib.hid hp
    have K2 := Lib.hid ((K1.out.belowAll hb2).alloc (.cells (A32 p) 39))
    have P2 := Lib.hid (Blk.new w2 39 (A32 p))
    have hB2 := B1.out.trans (hb2.mono B1.out.size)
    have B2 := Lib.hid (hB2.alloc hB2.size (.cells (A32 p) 39))
    clear hp hb2 hB2 K1 B1 r0
    go_wp2_with fail
    refine (right_any r _).mono ?_
    rintro e w3 ⟨rfl, rfl⟩
    rw [decide_eq_true h]
    go_upto_region 7 with fail
    generalize w2.alloc (.cells (A32 p) 39) = W2 at *
    generalize w2.heap.size = pP at *
    refine wp_region_still (by kernel_rfl) (by kernel_rfl) (fun C hC0 hCb hCn K' hK' => ?_)
    have R1 : ∀ w1, C w1 → rowAt w1 w.heap.size = A32 s := fun w1 h => (K2.out.drew.belowAll (hCb w1 h)).row
    have R2 : ∀ w1, C w1 → rowAt w1 pP = A32 p := fun w1 h => (P2.out.drew.belowAll (hCb w1 h)).row
    repeat
      first
        | ((with_reducible refine q_obl (v := ?_) (a' := ?_) ?_ (fun _ hcw => ?_) ?_ ?_); rotate_left; rotate_left; (focus (exact rfl)); (focus (have f := R1 _ hcw; have f' := R2 _ hcw; go_simp; (try go_bits); exact rfl)); (focus (simp only [Act.put, List.setIfInBounds_toArray, List.set_cons_succ, List.set_cons_zero, Act.eval, Array.getD_eq_getD_getElem?, List.getElem?_toArray, List.getElem?_cons_succ, List.getElem?_cons_zero, Option.getD_some]; exact rfl)))
        | ((with_reducible refine q_skip (a' := ?_) ?_ ?_ ?_); rotate_left; (focus (exact rfl)); (focus (simp only [Act.put, List.setIfInBounds_toArray, List.set_cons_succ, List.set_cons_zero, Act.eval, Array.getD_eq_getD_getElem?, List.getElem?_toArray, List.getElem?_cons_succ, List.getElem?_cons_zero, Option.getD_some]; exact rfl)))
    ((with_reducible refine q_callB hCn (v := ?_) (a' := ?_) ?_ (fun wq hcw => ?_) ?_ ?_); rotate_left; rotate_left)
    · exact rfl
    · go_simp
      refine entersB_of ?_
      exact refMix_any s r wq HS.out (by omega) (by omega)
    · (simp only [Act.put, List.setIfInBounds_toArray, List.set_cons_succ, List.set_cons_zero, Act.eval, Array.getD_eq_getD_getElem?, List.getElem?_toArray, List.getElem?_cons_succ, List.getElem?_cons_zero, Option.getD_some]; exact rfl)
    rw [← HP.out]
    repeat
      first
        | ((with_reducible refine q_obl (v := ?_) (a' := ?_) ?_ (fun _ hcw => ?_) ?_ ?_); rotate_left; rotate_left; (focus (exact rfl)); (focus (have f := R1 _ hcw; have f' := R2 _ hcw; go_simp; (try go_bits); exact rfl)); (focus (simp only [Act.put, List.setIfInBounds_toArray, List.set_cons_succ, List.set_cons_zero, Act.eval, Array.getD_eq_getD_getElem?, List.getElem?_toArray, List.getElem?_cons_succ, List.getElem?_cons_zero, Option.getD_some]; exact rfl)))
        | ((with_reducible refine q_skip (a' := ?_) ?_ ?_ ?_); rotate_left; (focus (exact rfl)); (focus (simp only [Act.put, List.setIfInBounds_toArray, List.set_cons_succ, List.set_cons_zero, Act.eval, Array.getD_eq_getD_getElem?, List.getElem?_toArray, List.getElem?_cons_succ, List.getElem?_cons_zero, Option.getD_some]; exact rfl)))
    ((with_reducible refine q_callB hCn (v := ?_) (a' := ?_) ?_ (fun wq hcw => ?_) ?_ ?_); rotate_left; rotate_left)
    · exact rfl
    · go_simp
      refine entersB_of ?_
      exact awake_any wq
    · (simp only [Act.put, List.setIfInBounds_toArray, List.set_cons_succ, List.set_cons_zero, Act.eval, Array.getD_eq_getD_getElem?, List.getElem?_toArray, List.getElem?_cons_succ, List.getElem?_cons_zero, Option.getD_some]; exact rfl)
    repeat
      first
        | ((with_reducible refine q_obl (v := ?_) (a' := ?_) ?_ (fun _ hcw => ?_) ?_ ?_); rotate_left; rotate_left; (focus (exact rfl)); (focus (have f := R1 _ hcw; have f' := R2 _ hcw; go_simp; (try go_bits); exact rfl)); (focus (simp only [Act.put, List.setIfInBounds_toArray, List.set_cons_succ, List.set_cons_zero, Act.eval, Array.getD_eq_getD_getElem?, List.getElem?_toArray, List.getElem?_cons_succ, List.getElem?_cons_zero, Option.getD_some]; exact rfl)))
        | ((with_reducible refine q_skip (a' := ?_) ?_ ?_ ?_); rotate_left; (focus (exact rfl)); (focus (simp only [Act.put, List.setIfInBounds_toArray, List.set_cons_succ, List.set_cons_zero, Act.eval, Array.getD_eq_getD_getElem?, List.getElem?_toArray, List.getElem?_cons_succ, List.getElem?_cons_zero, Option.getD_some]; exact rfl)))
    refine q_nil ?_
    intro w5 hw5
    refine hK' _ _ ?_
    have hB5 := B2.out.drew.trans ((hCb w5 hw5).mono B2.out.size)
    clear R1 R2 hC0 hCb hCn
    go_wp2
    go_ret
    exact ⟨rfl, hB5⟩
  · refine (Mix_no s r w1 h).mono ?_
    rintro e w2 ⟨rfl, hb2⟩
    have K2 := Lib.hid ((K1.out.belowAll hb2).alloc (.cells (A32 (zeros 32 16)) 39))
    have P2 := Lib.hid (Blk.new w2 39 (A32 (zeros 32 16)))
    have hB2 := B1.out.trans (hb2.mono B1.out.size)
    have B2 := Lib.hid (hB2.alloc hB2.size (.cells (A32 (zeros 32 16)) 39))
    clear hb2 hB2 K1 B1 r0
    go_wp2_with fail
    refine (right_any r _).mono ?_
    rintro e w3 ⟨rfl, rfl⟩
    rw [decide_eq_false h]
    generalize w2.alloc (.cells (A32 (zeros 32 16)) 39) = W2 at *
    generalize w2.heap.size = pP at *
    have r2 := P2.out.row
    go_wp2_with fail
    refine (awake_any _).mono ?_
    rintro e w4 ⟨rfl, hb4⟩
    go_wp2
    go_ret
    exact ⟨rfl, B2.out.trans (hb4.mono B2.out.size)⟩
end Go.Proofs.Ythogbbigglmapaa
