/- chacha: the first state, the block and the short one: the walk -/
import Derived.Test.YthogbbigglmapaaRef9
import Derived.Test.YthogbbigglmapaaCha7
import Derived.Test.YthogbbigglmapaaEq
import Derived.Test.YthogbbigglmapaaQuiet
import Derived.Test.YthogbbigglmapaaGrow
namespace Go.Proofs.Ythogbbigglmapaa
open Go.RowKit
theorem blockOf_len (key inp : List (BitVec 8)) (n : Nat) : (blockOf (startTo key inp 4) n).length = 64 := blockOf_length _ _ (startTo_length _ _ _)
theorem shortOf_len (key inp : List (BitVec 8)) (n : Nat) : (shortOf (mixTo (startTo key inp 4) n)).length = 32 := shortOf_length _ (by rw [mixTo_length, startTo_length])
set_option linter.unusedSimpArgs false in
set_option maxRecDepth 100000 in
set_option maxHeartbeats 1600000 in
theorem ChachaBlocks_walk (key inp : List (BitVec 8)) (r : Int) (w : World) (hk : key.length = 32) (hi : inp.length = 16) (_hr : (Lit.int .i64 r).wf = true) :
    Calls Try.prog 14 #[.agg (A8 key), .agg (A8 inp), .int .i64 r] w fun e w' => e = .returned (.bool true) ∧ Below w.heap.size w w' := by
  obtain ⟨W, hW⟩ : ∃ W, (w.alloc (.cells (A8 key) 35)).alloc (.cells (A8 inp) 36) = W := ⟨_, rfl⟩
  obtain ⟨b0, b1, hb, hz⟩ := new2 _ _ _ _ _ _ hW
  have K0 := Lib.hid b0
  have I0 := Lib.hid b1
  have B0 := Lib.hid hb
  have HK := Lib.hid hk
  have HI := Lib.hid hi
  have r0 := b0.row
  have r1 := b1.row
  clear b0 b1 hb hz _hr
  go_enter Try.func14, Try.ntmps14
  go_wp2_with fail
  clear hW
  by_cases h : r = 8 ∨ r = 12 ∨ r = 20
  · refine (blockC_yes key inp r W HK.out HI.out h).mono ?_
    rintro e w1 ⟨rfl, hb1⟩
    obtain ⟨X, hX⟩ : ∃ X, X = blockOf (startTo key inp 4) (r.toNat / 2) := ⟨_, rfl⟩
    have hXl : X.length = 64 := by rw [hX]; exact blockOf_len _ _ _
    rw [← hX]
    have HX := Lib.hid hX
    have K1 := Lib.hid ((K0.out.belowAll hb1).alloc (.cells (A8 X) 54))
    have I1 := Lib.hid ((I0.out.belowAll hb1).alloc (.cells (A8 X) 54))
    have X1 := Lib.hid (Blk.new w1 54 (A8 X))
    have hB1 := B0.out.trans (hb1.mono B0.out.size)
    have B1 := Lib.hid (hB1.alloc hB1.size (.cells (A8 X) 54))
    clear hX hb1 hB1 K0 I0 B0 r0 r1
    go_upto_region 2 with fail
    generalize w1.alloc (.cells (A8 X) 54) = W1 at *
    generalize w1.heap.size = pX at *
    have r0 := K1.out.row
    have r1 := I1.out.row
    go_wp2_with fail
    refine (short_yes key inp r W1 HK.out HI.out h).mono ?_
    rintro e w2 ⟨rfl, hb2⟩
    obtain ⟨Y, hY⟩ : ∃ Y, Y = shortOf (mixTo (startTo key inp 4) (r.toNat / 2)) := ⟨_, rfl⟩
    have hYl : Y.length = 32 := by rw [hY]; exact shortOf_len _ _ _
    rw [← hY]
    have HY := Lib.hid hY
    have K2 := Lib.hid ((K1.out.belowAll hb2).alloc (.cells (A8 Y) 35))
    have I2 := Lib.hid ((I1.out.belowAll hb2).alloc (.cells (A8 Y) 35))
    have X2 := Lib.hid ((X1.out.belowAll hb2).alloc (.cells (A8 Y) 35))
    have Y2 := Lib.hid (Blk.new w2 35 (A8 Y))
    have hB2 := B1.out.trans (hb2.mono B1.out.size)
    have B2 := Lib.hid (hB2.alloc hB2.size (.cells (A8 Y) 35))
    clear hY hb2 hB2 K1 I1 X1 B1 r0 r1
    go_upto_region 3 with fail
    generalize w2.alloc (.cells (A8 Y) 35) = W2 at *
    generalize w2.heap.size = pY at *
    refine wp_region_still (by kernel_rfl) (by kernel_rfl) (fun C hC0 hCb hCn K' hK' => ?_)
    have R1 : ∀ w1, C w1 → rowAt w1 w.heap.size = A8 key := fun w1 h => (K2.out.drew.belowAll (hCb w1 h)).row
    have R2 : ∀ w1, C w1 → rowAt w1 (w.heap.size + 1) = A8 inp := fun w1 h => (I2.out.drew.belowAll (hCb w1 h)).row
    repeat
      first
        | ((with_reducible refine q_obl (v := ?_) (a' := ?_) ?_ (fun _ hcw => ?_) ?_ ?_); rotate_left; rotate_left; (focus (exact rfl)); (focus (have f := R1 _ hcw; have f' := R2 _ hcw; go_simp; (try go_bits); exact rfl)); (focus (simp only [Act.put, List.setIfInBounds_toArray, List.set_cons_succ, List.set_cons_zero, Act.eval, Array.getD_eq_getD_getElem?, List.getElem?_toArray, List.getElem?_cons_succ, List.getElem?_cons_zero, Option.getD_some]; exact rfl)))
        | ((with_reducible refine q_skip (a' := ?_) ?_ ?_ ?_); rotate_left; (focus (exact rfl)); (focus (simp only [Act.put, List.setIfInBounds_toArray, List.set_cons_succ, List.set_cons_zero, Act.eval, Array.getD_eq_getD_getElem?, List.getElem?_toArray, List.getElem?_cons_succ, List.getElem?_cons_zero, Option.getD_some]; exact rfl)))
    ((with_reducible refine q_callB hCn (v := ?_) (a' := ?_) ?_ (fun wq hcw => ?_) ?_ ?_); rotate_left; rotate_left)
    · exact rfl
    · go_simp
      refine entersB_of ?_
      exact start_any key inp wq HK.out HI.out
    · (simp only [Act.put, List.setIfInBounds_toArray, List.set_cons_succ, List.set_cons_zero, Act.eval, Array.getD_eq_getD_getElem?, List.getElem?_toArray, List.getElem?_cons_succ, List.getElem?_cons_zero, Option.getD_some]; exact rfl)
    repeat
      first
        | ((with_reducible refine q_obl (v := ?_) (a' := ?_) ?_ (fun _ hcw => ?_) ?_ ?_); rotate_left; rotate_left; (focus (exact rfl)); (focus (have f := R1 _ hcw; have f' := R2 _ hcw; go_simp; (try go_bits); exact rfl)); (focus (simp only [Act.put, List.setIfInBounds_toArray, List.set_cons_succ, List.set_cons_zero, Act.eval, Array.getD_eq_getD_getElem?, List.getElem?_toArray, List.getElem?_cons_succ, List.getElem?_cons_zero, Option.getD_some]; exact rfl)))
        | ((with_reducible refine q_skip (a' := ?_) ?_ ?_ ?_); rotate_left; (focus (exact rfl)); (focus (simp only [Act.put, List.setIfInBounds_toArray, List.set_cons_succ, List.set_cons_zero, Act.eval, Array.getD_eq_getD_getElem?, List.getElem?_toArray, List.getElem?_cons_succ, List.getElem?_cons_zero, Option.getD_some]; exact rfl)))
    ((with_reducible refine q_callB hCn (v := ?_) (a' := ?_) ?_ (fun wq hcw => ?_) ?_ ?_); rotate_left; rotate_left)
    · exact rfl
    · go_simp
      refine entersB_of ?_
      exact refStart_any key inp wq HK.out HI.out
    · (simp only [Act.put, List.setIfInBounds_toArray, List.set_cons_succ, List.set_cons_zero, Act.eval, Array.getD_eq_getD_getElem?, List.getElem?_toArray, List.getElem?_cons_succ, List.getElem?_cons_zero, Option.getD_some]; exact rfl)
    have hsl : (startTo key inp 4).length = 16 := startTo_length _ _ _
    repeat
      first
        | ((with_reducible refine q_obl (v := ?_) (a' := ?_) ?_ (fun _ hcw => ?_) ?_ ?_); rotate_left; rotate_left; (focus (exact rfl)); (focus (have f := R1 _ hcw; have f' := R2 _ hcw; go_simp; (try go_bits); exact rfl)); (focus (simp only [Act.put, List.setIfInBounds_toArray, List.set_cons_succ, List.set_cons_zero, Act.eval, Array.getD_eq_getD_getElem?, List.getElem?_toArray, List.getElem?_cons_succ, List.getElem?_cons_zero, Option.getD_some]; exact rfl)))
        | ((with_reducible refine q_skip (a' := ?_) ?_ ?_ ?_); rotate_left; (focus (exact rfl)); (focus (simp only [Act.put, List.setIfInBounds_toArray, List.set_cons_succ, List.set_cons_zero, Act.eval, Array.getD_eq_getD_getElem?, List.getElem?_toArray, List.getElem?_cons_succ, List.getElem?_cons_zero, Option.getD_some]; exact rfl)))
    refine q_nil ?_
    intro w5 hw5
    refine hK' _ _ ?_
    have K5 := Lib.hid (K2.out.drew.belowAll (hCb w5 hw5))
    have I5 := Lib.hid (I2.out.drew.belowAll (hCb w5 hw5))
    have X5 := Lib.hid (X2.out.drew.belowAll (hCb w5 hw5))
    have Y5 := Lib.hid (Y2.out.drew.belowAll (hCb w5 hw5))
    have B5 := Lib.hid (B2.out.drew.trans ((hCb w5 hw5).mono B2.out.size))
    clear R1 R2 hC0 hCb hCn hsl hw5 K2 I2 X2 Y2 B2 hk hi
    go_wp2_with fail
    refine (right_any r _).mono ?_
    rintro e w6 ⟨rfl, rfl⟩
    rw [decide_eq_true h]
    go_upto_region 7 with fail
    refine wp_region_grow [0,0,0,0,0,2,1,0,0,0,0,0,0,2,0,0,0,0,0,0,0,2,0,0] (by kernel_rfl) (by kernel_rfl) (fun C hC0 hCb K' hK' => ?_)
    have R1 : ∀ w1, C w1 → rowAt w1 w.heap.size = A8 key := fun w1 h => (K5.out.drew.belowAll (hCb w1 h)).row
    have R2 : ∀ w1, C w1 → rowAt w1 (w.heap.size + 1) = A8 inp := fun w1 h => (I5.out.drew.belowAll (hCb w1 h)).row
    have R3 : ∀ w1, C w1 → rowAt w1 pY = A8 Y := fun w1 h => (Y5.out.drew.belowAll (hCb w1 h)).row
    have S1 : ∀ w1, C w1 → (convert 22 9 (.slice (some ⟨pX, 0, none⟩) 64 64)).run Try.prog w1 = .ok (.string (str X)) w1 := fun w1 h => by
      have rx := (X5.out.drew.belowAll (hCb w1 h)).rd8 64 (by omega) (by rw [hXl]; unfold maxLen; omega)
      rw [List.take_of_length_le (by omega), hXl] at rx
      exact run_str w1 _ _ 5 _ _ _ _ Try.underlying22 Try.underlying9 Try.underlying5 rx
    have hk := HK.out
    have hi := HI.out
    repeat
      first
        | ((with_reducible refine g_obl (v := ?_) (a' := ?_) ?_ (fun _ hcw => ?_) ?_ ?_); rotate_left; rotate_left; (focus (exact rfl)); (focus (have f1 := R1 _ hcw; have f2 := R2 _ hcw; have f3 := R3 _ hcw; have f4 := S1 _ hcw; go_simp; (try go_bits); exact rfl)); (focus (simp only [Act.put, List.setIfInBounds_toArray, List.set_cons_succ, List.set_cons_zero, Act.eval, Array.getD_eq_getD_getElem?, List.getElem?_toArray, List.getElem?_cons_succ, List.getElem?_cons_zero, Option.getD_some]; exact rfl)))
        | ((with_reducible refine g_read (v := ?_) (a' := ?_) ?_ (fun _ hbw => ?_) ?_ ?_); rotate_left; rotate_left; (focus (exact rfl)); (focus (skip; go_simp; (try go_bits); exact rfl)); (focus (simp only [Act.put, List.setIfInBounds_toArray, List.set_cons_succ, List.set_cons_zero, Act.eval, Array.getD_eq_getD_getElem?, List.getElem?_toArray, List.getElem?_cons_succ, List.getElem?_cons_zero, Option.getD_some]; exact rfl)))
        | ((with_reducible refine g_skip (a' := ?_) ?_ ?_ ?_); rotate_left; (focus (exact rfl)); (focus (simp only [Act.put, List.setIfInBounds_toArray, List.set_cons_succ, List.set_cons_zero, Act.eval, Array.getD_eq_getD_getElem?, List.getElem?_toArray, List.getElem?_cons_succ, List.getElem?_cons_zero, Option.getD_some]; exact rfl)))
    (with_reducible refine g_call ?_ ?_)
    · exact rfl
    go_simp
    refine entersW_of ?_
    refine (refBlock_any key inp r w5.drew hk hi (by omega) (by omega)).mono ?_
    rintro e w7 ⟨v7, rfl, o7, b7⟩
    refine ⟨_, rfl, b7, ?_⟩
    try simp only [Act.put, List.setIfInBounds_toArray, List.set_cons_succ, List.set_cons_zero]
    rw [← HX.out] at o7
    obtain ⟨a7, c7, rfl, hr7, _⟩ := o7.rd
    rw [hXl] at hr7 ⊢
    have S2 : ∀ w1, Below w7.heap.size w7 w1 → (convert 22 9 (.slice a7 64 c7)).run Try.prog w1 = .ok (.string (str X)) w1 := fun w1 h =>
      run_str w1 _ _ 5 _ _ _ _ Try.underlying22 Try.underlying9 Try.underlying5 (hr7.below h)
    repeat
      first
        | ((with_reducible refine g_obl (v := ?_) (a' := ?_) ?_ (fun _ hcw => ?_) ?_ ?_); rotate_left; rotate_left; (focus (exact rfl)); (focus (have f1 := R1 _ hcw; have f2 := R2 _ hcw; have f3 := R3 _ hcw; go_simp; (try go_bits); exact rfl)); (focus (simp only [Act.put, List.setIfInBounds_toArray, List.set_cons_succ, List.set_cons_zero, Act.eval, Array.getD_eq_getD_getElem?, List.getElem?_toArray, List.getElem?_cons_succ, List.getElem?_cons_zero, Option.getD_some]; exact rfl)))
        | ((with_reducible refine g_read (v := ?_) (a' := ?_) ?_ (fun _ hbw => ?_) ?_ ?_); rotate_left; rotate_left; (focus (exact rfl)); (focus (have f4 := S2 _ hbw; go_simp; (try go_bits); exact rfl)); (focus (simp only [Act.put, List.setIfInBounds_toArray, List.set_cons_succ, List.set_cons_zero, Act.eval, Array.getD_eq_getD_getElem?, List.getElem?_toArray, List.getElem?_cons_succ, List.getElem?_cons_zero, Option.getD_some]; exact rfl)))
        | ((with_reducible refine g_skip (a' := ?_) ?_ ?_ ?_); rotate_left; (focus (exact rfl)); (focus (simp only [Act.put, List.setIfInBounds_toArray, List.set_cons_succ, List.set_cons_zero, Act.eval, Array.getD_eq_getD_getElem?, List.getElem?_toArray, List.getElem?_cons_succ, List.getElem?_cons_zero, Option.getD_some]; exact rfl)))
    (with_reducible refine g_call ?_ ?_)
    · exact rfl
    go_simp
    refine entersW_of ?_
    refine (refShort_any key inp r w7 hk hi (by omega) (by omega)).mono ?_
    rintro e w8 ⟨rfl, b8⟩
    refine ⟨_, rfl, b8, ?_⟩
    try simp only [Act.put, List.setIfInBounds_toArray, List.set_cons_succ, List.set_cons_zero]
    rw [← HY.out]
    repeat
      first
        | ((with_reducible refine g_obl (v := ?_) (a' := ?_) ?_ (fun _ hcw => ?_) ?_ ?_); rotate_left; rotate_left; (focus (exact rfl)); (focus (have f1 := R1 _ hcw; have f2 := R2 _ hcw; have f3 := R3 _ hcw; go_simp; (try go_bits); exact rfl)); (focus (simp only [Act.put, List.setIfInBounds_toArray, List.set_cons_succ, List.set_cons_zero, Act.eval, Array.getD_eq_getD_getElem?, List.getElem?_toArray, List.getElem?_cons_succ, List.getElem?_cons_zero, Option.getD_some]; exact rfl)))
        | ((with_reducible refine g_read (v := ?_) (a' := ?_) ?_ (fun _ hbw => ?_) ?_ ?_); rotate_left; rotate_left; (focus (exact rfl)); (focus (skip; go_simp; (try go_bits); exact rfl)); (focus (simp only [Act.put, List.setIfInBounds_toArray, List.set_cons_succ, List.set_cons_zero, Act.eval, Array.getD_eq_getD_getElem?, List.getElem?_toArray, List.getElem?_cons_succ, List.getElem?_cons_zero, Option.getD_some]; exact rfl)))
        | ((with_reducible refine g_skip (a' := ?_) ?_ ?_ ?_); rotate_left; (focus (exact rfl)); (focus (simp only [Act.put, List.setIfInBounds_toArray, List.set_cons_succ, List.set_cons_zero, Act.eval, Array.getD_eq_getD_getElem?, List.getElem?_toArray, List.getElem?_cons_succ, List.getElem?_cons_zero, Option.getD_some]; exact rfl)))
    (with_reducible refine g_call ?_ ?_)
    · exact rfl
    go_simp
    refine entersW_of ?_
    refine (awake_any w8).mono ?_
    rintro e w9 ⟨rfl, b9⟩
    refine ⟨_, rfl, b9, ?_⟩
    try simp only [Act.put, List.setIfInBounds_toArray, List.set_cons_succ, List.set_cons_zero]
    repeat
      first
        | ((with_reducible refine g_obl (v := ?_) (a' := ?_) ?_ (fun _ hcw => ?_) ?_ ?_); rotate_left; rotate_left; (focus (exact rfl)); (focus (skip; go_simp; (try go_bits); exact rfl)); (focus (simp only [Act.put, List.setIfInBounds_toArray, List.set_cons_succ, List.set_cons_zero, Act.eval, Array.getD_eq_getD_getElem?, List.getElem?_toArray, List.getElem?_cons_succ, List.getElem?_cons_zero, Option.getD_some]; exact rfl)))
        | ((with_reducible refine g_read (v := ?_) (a' := ?_) ?_ (fun _ hbw => ?_) ?_ ?_); rotate_left; rotate_left; (focus (exact rfl)); (focus (skip; go_simp; (try go_bits); exact rfl)); (focus (simp only [Act.put, List.setIfInBounds_toArray, List.set_cons_succ, List.set_cons_zero, Act.eval, Array.getD_eq_getD_getElem?, List.getElem?_toArray, List.getElem?_cons_succ, List.getElem?_cons_zero, Option.getD_some]; exact rfl)))
        | ((with_reducible refine g_skip (a' := ?_) ?_ ?_ ?_); rotate_left; (focus (exact rfl)); (focus (simp only [Act.put, List.setIfInBounds_toArray, List.set_cons_succ, List.set_cons_zero, Act.eval, Array.getD_eq_getD_getElem?, List.getElem?_toArray, List.getElem?_cons_succ, List.getElem?_cons_zero, Option.getD_some]; exact rfl)))
    refine g_nil ?_
    refine hK' _ _ ?_
    have hB5 := ((B5.out.drew.trans (b7.mono B5.out.size)).trans (b8.mono (Nat.le_trans B5.out.size b7.size))).trans (b9.mono (Nat.le_trans (Nat.le_trans B5.out.size b7.size) b8.size))
    clear R1 R2 R3 S1 S2 hC0 hCb o7 hr7 b7 b8 b9
    go_wp2
    go_ret
    exact ⟨rfl, hB5⟩
  · refine (blockC_no key inp r W h).mono ?_
    rintro e w1 ⟨rfl, hb1⟩
    have K1 := Lib.hid ((K0.out.belowAll hb1).alloc (.cells (A8 (zeros 8 64)) 54))
    have I1 := Lib.hid ((I0.out.belowAll hb1).alloc (.cells (A8 (zeros 8 64)) 54))
    have X1 := Lib.hid (Blk.new w1 54 (A8 (zeros 8 64)))
    have hB1 := B0.out.trans (hb1.mono B0.out.size)
    have B1 := Lib.hid (hB1.alloc hB1.size (.cells (A8 (zeros 8 64)) 54))
    clear hb1 hB1 K0 I0 B0 r0 r1
    go_upto_region 2 with fail
    generalize w1.alloc (.cells (A8 (zeros 8 64)) 54) = W1 at *
    generalize w1.heap.size = pX at *
    have r0 := K1.out.row
    have r1 := I1.out.row
    go_wp2_with fail
    refine (short_no key inp r W1 h).mono ?_
    rintro e w2 ⟨rfl, hb2⟩
    have K2 := Lib.hid ((K1.out.belowAll hb2).alloc (.cells (A8 (zeros 8 32)) 35))
    have I2 := Lib.hid ((I1.out.belowAll hb2).alloc (.cells (A8 (zeros 8 32)) 35))
    have X2 := Lib.hid ((X1.out.belowAll hb2).alloc (.cells (A8 (zeros 8 32)) 35))
    have Y2 := Lib.hid (Blk.new w2 35 (A8 (zeros 8 32)))
    have hB2 := B1.out.trans (hb2.mono B1.out.size)
    have B2 := Lib.hid (hB2.alloc hB2.size (.cells (A8 (zeros 8 32)) 35))
    clear hb2 hB2 K1 I1 X1 B1 r0 r1
    go_upto_region 3 with fail
    generalize w2.alloc (.cells (A8 (zeros 8 32)) 35) = W2 at *
    generalize w2.heap.size = pY at *
    refine wp_region_still (by kernel_rfl) (by kernel_rfl) (fun C hC0 hCb hCn K' hK' => ?_)
    have R1 : ∀ w1, C w1 → rowAt w1 w.heap.size = A8 key := fun w1 h => (K2.out.drew.belowAll (hCb w1 h)).row
    have R2 : ∀ w1, C w1 → rowAt w1 (w.heap.size + 1) = A8 inp := fun w1 h => (I2.out.drew.belowAll (hCb w1 h)).row
    repeat
      first
        | ((with_reducible refine q_obl (v := ?_) (a' := ?_) ?_ (fun _ hcw => ?_) ?_ ?_); rotate_left; rotate_left; (focus (exact rfl)); (focus (have f := R1 _ hcw; have f' := R2 _ hcw; go_simp; (try go_bits); exact rfl)); (focus (simp only [Act.put, List.setIfInBounds_toArray, List.set_cons_succ, List.set_cons_zero, Act.eval, Array.getD_eq_getD_getElem?, List.getElem?_toArray, List.getElem?_cons_succ, List.getElem?_cons_zero, Option.getD_some]; exact rfl)))
        | ((with_reducible refine q_skip (a' := ?_) ?_ ?_ ?_); rotate_left; (focus (exact rfl)); (focus (simp only [Act.put, List.setIfInBounds_toArray, List.set_cons_succ, List.set_cons_zero, Act.eval, Array.getD_eq_getD_getElem?, List.getElem?_toArray, List.getElem?_cons_succ, List.getElem?_cons_zero, Option.getD_some]; exact rfl)))
    ((with_reducible refine q_callB hCn (v := ?_) (a' := ?_) ?_ (fun wq hcw => ?_) ?_ ?_); rotate_left; rotate_left)
    · exact rfl
    · go_simp
      refine entersB_of ?_
      exact start_any key inp wq HK.out HI.out
    · (simp only [Act.put, List.setIfInBounds_toArray, List.set_cons_succ, List.set_cons_zero, Act.eval, Array.getD_eq_getD_getElem?, List.getElem?_toArray, List.getElem?_cons_succ, List.getElem?_cons_zero, Option.getD_some]; exact rfl)
    repeat
      first
        | ((with_reducible refine q_obl (v := ?_) (a' := ?_) ?_ (fun _ hcw => ?_) ?_ ?_); rotate_left; rotate_left; (focus (exact rfl)); (focus (have f := R1 _ hcw; have f' := R2 _ hcw; go_simp; (try go_bits); exact rfl)); (focus (simp only [Act.put, List.setIfInBounds_toArray, List.set_cons_succ, List.set_cons_zero, Act.eval, Array.getD_eq_getD_getElem?, List.getElem?_toArray, List.getElem?_cons_succ, List.getElem?_cons_zero, Option.getD_some]; exact rfl)))
        | ((with_reducible refine q_skip (a' := ?_) ?_ ?_ ?_); rotate_left; (focus (exact rfl)); (focus (simp only [Act.put, List.setIfInBounds_toArray, List.set_cons_succ, List.set_cons_zero, Act.eval, Array.getD_eq_getD_getElem?, List.getElem?_toArray, List.getElem?_cons_succ, List.getElem?_cons_zero, Option.getD_some]; exact rfl)))
    ((with_reducible refine q_callB hCn (v := ?_) (a' := ?_) ?_ (fun wq hcw => ?_) ?_ ?_); rotate_left; rotate_left)
    · exact rfl
    · go_simp
      refine entersB_of ?_
      exact refStart_any key inp wq HK.out HI.out
    · (simp only [Act.put, List.setIfInBounds_toArray, List.set_cons_succ, List.set_cons_zero, Act.eval, Array.getD_eq_getD_getElem?, List.getElem?_toArray, List.getElem?_cons_succ, List.getElem?_cons_zero, Option.getD_some]; exact rfl)
    have hsl : (startTo key inp 4).length = 16 := startTo_length _ _ _
    repeat
      first
        | ((with_reducible refine q_obl (v := ?_) (a' := ?_) ?_ (fun _ hcw => ?_) ?_ ?_); rotate_left; rotate_left; (focus (exact rfl)); (focus (have f := R1 _ hcw; have f' := R2 _ hcw; go_simp; (try go_bits); exact rfl)); (focus (simp only [Act.put, List.setIfInBounds_toArray, List.set_cons_succ, List.set_cons_zero, Act.eval, Array.getD_eq_getD_getElem?, List.getElem?_toArray, List.getElem?_cons_succ, List.getElem?_cons_zero, Option.getD_some]; exact rfl)))
        | ((with_reducible refine q_skip (a' := ?_) ?_ ?_ ?_); rotate_left; (focus (exact rfl)); (focus (simp only [Act.put, List.setIfInBounds_toArray, List.set_cons_succ, List.set_cons_zero, Act.eval, Array.getD_eq_getD_getElem?, List.getElem?_toArray, List.getElem?_cons_succ, List.getElem?_cons_zero, Option.getD_some]; exact rfl)))
    refine q_nil ?_
    intro w5 hw5
    refine hK' _ _ ?_
    have X5 := (X2.out.drew.belowAll (hCb w5 hw5)).row
    have Y5 := (Y2.out.drew.belowAll (hCb w5 hw5)).row
    have B5 := Lib.hid (B2.out.drew.trans ((hCb w5 hw5).mono B2.out.size))
    clear R1 R2 hC0 hCb hCn hsl hw5 K2 I2 X2 Y2 B2 hk hi
    go_wp2_with fail
    refine (right_any r _).mono ?_
    rintro e w6 ⟨rfl, rfl⟩
    rw [decide_eq_false h]
    go_wp2_with fail
    refine (awake_any _).mono ?_
    rintro e w7 ⟨rfl, hb7⟩
    go_wp2
    go_ret
    exact ⟨rfl, B5.out.trans (hb7.mono B5.out.size)⟩
end Go.Proofs.Ythogbbigglmapaa
