/- ChachaHalf: the walk. -/
import Derived.Test.YthogbbigglmapaaCha7
import Derived.Test.YthogbbigglmapaaQuiet
import Derived.Test.YthogbbigglmapaaHalf
namespace Go.Proofs.Ythogbbigglmapaa
open Go.RowKit
set_option linter.unusedSimpArgs false in
set_option maxRecDepth 100000 in
theorem ChachaHalf_walk (key inp : List (BitVec 8)) (r : Int) (w : World) (hk : key.length = 32) (hi : inp.length = 16) (_hr : (Lit.int .i64 r).wf = true) :
    Calls Try.prog 15 #[.agg (A8 key), .agg (A8 inp), .int .i64 r] w fun e w' => e = .returned (.bool true) ∧ Below w.heap.size w w' := by
  go_enter Try.func15, Try.ntmps15
  by_cases h : r = 8 ∨ r = 12 ∨ r = 20
  · obtain ⟨S, hS⟩ : ∃ S, S = startTo key inp 4 := ⟨_, rfl⟩
    obtain ⟨B, hB⟩ : ∃ B, B = blockOf S (r.toNat / 2) := ⟨_, rfl⟩
    obtain ⟨H, hH⟩ : ∃ H, H = shortOf (mixTo S (r.toNat / 2)) := ⟨_, rfl⟩
    have hSl : S.length = 16 := by rw [hS, startTo_length]
    have hBl : B.length = 64 := by rw [hB, blockOf_length _ _ hSl]
    have hHl : H.length = 32 := by rw [hH, shortOf_length _ (by rw [mixTo_length, hSl])]
    have hlaw : ∀ i, i < 8 → word H (4 * i) = word B (4 * (if i < 4 then i else i + 8)) - nth S (if i < 4 then i else i + 8) := by
      intro i hi
      rw [hH, hB, word_short _ _ (by rw [mixTo_length, hSl]) hi, word_block _ _ _ hSl (by split <;> omega), BitVec.add_sub_cancel]
    have hcB := fun w => blockC_yes key inp r w hk hi h
    have hcH := fun w => short_yes key inp r w hk hi h
    have hcS := fun w => start_any key inp w hk hi
    rw [← hS] at hcB hcH hcS
    rw [← hB] at hcB
    rw [← hH] at hcH
    have LAW := Lib.hid hlaw
    clear hB hH hS hlaw
    go_wp2_with fail
    refine (right_any r _).mono ?_
    rintro e w0 ⟨rfl, hw⟩
    obtain ⟨k0, k1, hb, hz⟩ := new2 _ _ _ _ _ _ hw
    have hd : decide (r = 8 ∨ r = 12 ∨ r = 20) = true := decide_eq_true h
    rw [hd]
    have r0 := k0.row
    have r1 := k1.row
    clear hw
    go_wp2_with fail
    refine (hcB _).mono ?_
    rintro e w1 ⟨rfl, hb1⟩
    obtain ⟨W1, hW1⟩ : ∃ W1, w1.alloc (.cells (A8 B) 54) = W1 := ⟨_, rfl⟩
    have j0 := (k0.belowAll hb1).alloc (.cells (A8 B) 54)
    have j1 := (k1.belowAll hb1).alloc (.cells (A8 B) 54)
    have jB := Blk.new w1 54 (A8 B)
    have hb' := (hb.trans (hb1.mono hb.size)).alloc (Nat.le_trans hb.size hb1.size) (.cells (A8 B) 54)
    have s1 := hb1.size
    rw [hW1] at j0 j1 jB hb'
    have q0 := j0.row
    have q1 := j1.row
    have z1 : w1.heap.size < W1.heap.size := jB.lt
    clear r0 r1
    go_wp2_with fail
    refine (hcH _).mono ?_
    rintro e w2 ⟨rfl, hb2⟩
    obtain ⟨W2, hW2⟩ : ∃ W2, w2.alloc (.cells (A8 H) 35) = W2 := ⟨_, rfl⟩
    have i0 := (j0.belowAll hb2).alloc (.cells (A8 H) 35)
    have i1 := (j1.belowAll hb2).alloc (.cells (A8 H) 35)
    have iB := (jB.belowAll hb2).alloc (.cells (A8 H) 35)
    have iH := Blk.new w2 35 (A8 H)
    have hb'' := (hb'.trans (hb2.mono hb'.size)).alloc (Nat.le_trans hb'.size hb2.size) (.cells (A8 H) 35)
    have s2 := hb2.size
    rw [hW2] at i0 i1 iB iH hb''
    have r0 := i0.row
    have r1 := i1.row
    have z2 : w2.heap.size < W2.heap.size := iH.lt
    clear q0 q1 j0 j1 jB
    go_wp2_with fail
    refine (hcS _).mono ?_
    rintro e w3 ⟨rfl, hb3⟩
    have s3 := hb3.size
    have mB := (iB.belowAll hb3).alloc (.cells (A32 S) 39)
    have mH := (iH.belowAll hb3).alloc (.cells (A32 S) 39)
    have mS := Blk.new w3 39 (A32 S)
    have hb3' := (hb''.trans (hb3.mono hb''.size)).alloc (Nat.le_trans hb''.size hb3.size) (.cells (A32 S) 39)
    clear r0 r1 i0 i1 iB iH
    go_wp2
    obtain ⟨gB, hgB⟩ : ∃ g, g = w1.heap.size := ⟨_, rfl⟩
    obtain ⟨gH, hgH⟩ : ∃ g, g = w2.heap.size := ⟨_, rfl⟩
    obtain ⟨gS, hgS⟩ : ∃ g, g = w3.heap.size := ⟨_, rfl⟩
    rw [← hgB] at mB
    rw [← hgH] at mH
    rw [← hgS] at mS
    rw [← hgB, ← hgH, ← hgS]
    generalize (w3.alloc (.cells (A32 S) 39)) = W3 at *
    clear hgB hgH hgS hW1 hW2 hb hb1 hb2 hb3 hb' hb'' s1 s2 s3 z1 z2 hz k0 k1 hcB hcH hcS w0
    go_loopw [12] (fun i wr => ∃ j : Nat, j ≤ 8 ∧ i = .int .i64 j ∧ Blk wr gB 54 (A8 B) ∧ Blk wr gH 35 (A8 H) ∧ Blk wr gS 39 (A32 S) ∧ Below w.heap.size w wr) (fun i _ => 8 - (intOf i).toNat)
    case atStart => exact ⟨0, Nat.zero_le _, rfl, mB, mH, mS, hb3'⟩
    case round =>
      obtain ⟨j, hj, rfl, nB, nH, nS, hb⟩ := hrel
      by_cases hj8 : j < 8
      · have j0 : (0 : Int) ≤ (j : Int) := by omega
        have j1 : (j : Int) < 8 := by omega
        have hl := LAW.out j hj8
        by_cases hj4 : j < 4
        · rw [if_pos hj4] at hl
          have j4 : ¬ (4 : Int) ≤ (j : Int) := by omega
          have e4 : (4 * (j : Int)).toNat = 4 * j := by omega
          go_wp2_with fail
          refine wp_region_still (by kernel_rfl) (by kernel_rfl) (fun C hC0 hCb hCn K' hK' => ?_)
          have RH : ∀ w1, C w1 → Rd8 w1 (some ⟨gH, 0, none⟩) 32 32 H := fun w1 h => by
            have := (nH.drew.belowAll (hCb w1 h)).rd8 32 (by omega) (by rw [hHl]; unfold maxLen; omega)
            rwa [hHl, List.take_of_length_le (by omega)] at this
          have RB : ∀ w1, C w1 → Rd8 w1 (some ⟨gB, 0, none⟩) 64 64 B := fun w1 h => by
            have := (nB.drew.belowAll (hCb w1 h)).rd8 64 (by omega) (by rw [hBl]; unfold maxLen; omega)
            rwa [hBl, List.take_of_length_le (by omega)] at this
          have RS : ∀ w1, C w1 → w1.cell? ⟨gS, j, none⟩ = some (v32 (nth S (j))) := fun w1 h => (nS.drew.belowAll (hCb w1 h)).cell32 hSl (j) (by omega)
          have hne : (word H (4 * j) != word B (4 * (j)) - nth S (j)) = false := by rw [hl]; simp
          have c1 := fun w1 h => word_any H _ _ _ (4 * (j : Int)) w1 (RH w1 h) (by omega) (by omega)
          have c2 := fun w1 h => word_any B _ _ _ (4 * ((j : Int))) w1 (RB w1 h) (by omega) (by omega)
          have b0 : (0 : Int) ≤ (j : Int) := by omega
          have b1 : (j : Int) < 16 := by omega
          have e5 : (4 * ((j : Int))).toNat = 4 * (j) := by omega
          rw [e4] at c1
          rw [e5] at c2
          clear RH RB hl
          repeat
            first
              | ((with_reducible refine q_obl (v := ?_) (a' := ?_) ?_ (fun _ hcw => ?_) ?_ ?_); rotate_left; rotate_left; (focus (exact rfl)); (focus (have f := RS _ hcw; go_simp; (try go_bits); exact rfl)); (focus (simp only [Act.put, List.setIfInBounds_toArray, List.set_cons_succ, List.set_cons_zero, Act.eval, Array.getD_eq_getD_getElem?, List.getElem?_toArray, List.getElem?_cons_succ, List.getElem?_cons_zero, Option.getD_some]; exact rfl)))
              | ((with_reducible refine q_skip (a' := ?_) ?_ ?_ ?_); rotate_left; (focus (exact rfl)); (focus (simp only [Act.put, List.setIfInBounds_toArray, List.set_cons_succ, List.set_cons_zero, Act.eval, Array.getD_eq_getD_getElem?, List.getElem?_toArray, List.getElem?_cons_succ, List.getElem?_cons_zero, Option.getD_some]; exact rfl)))
          ((with_reducible refine q_callB hCn (v := ?_) (a' := ?_) ?_ (fun wq hcw => ?_) ?_ ?_); rotate_left; rotate_left)
          · exact rfl
          · go_simp
            refine entersB_of ?_
            exact c1 wq hcw
          · (simp only [Act.put, List.setIfInBounds_toArray, List.set_cons_succ, List.set_cons_zero, Act.eval, Array.getD_eq_getD_getElem?, List.getElem?_toArray, List.getElem?_cons_succ, List.getElem?_cons_zero, Option.getD_some]; exact rfl)
          repeat
            first
              | ((with_reducible refine q_obl (v := ?_) (a' := ?_) ?_ (fun _ hcw => ?_) ?_ ?_); rotate_left; rotate_left; (focus (exact rfl)); (focus (have f := RS _ hcw; go_simp; (try go_bits); exact rfl)); (focus (simp only [Act.put, List.setIfInBounds_toArray, List.set_cons_succ, List.set_cons_zero, Act.eval, Array.getD_eq_getD_getElem?, List.getElem?_toArray, List.getElem?_cons_succ, List.getElem?_cons_zero, Option.getD_some]; exact rfl)))
              | ((with_reducible refine q_skip (a' := ?_) ?_ ?_ ?_); rotate_left; (focus (exact rfl)); (focus (simp only [Act.put, List.setIfInBounds_toArray, List.set_cons_succ, List.set_cons_zero, Act.eval, Array.getD_eq_getD_getElem?, List.getElem?_toArray, List.getElem?_cons_succ, List.getElem?_cons_zero, Option.getD_some]; exact rfl)))
          ((with_reducible refine q_callB hCn (v := ?_) (a' := ?_) ?_ (fun wq hcw => ?_) ?_ ?_); rotate_left; rotate_left)
          · exact rfl
          · go_simp
            refine entersB_of ?_
            exact c2 wq hcw
          · (simp only [Act.put, List.setIfInBounds_toArray, List.set_cons_succ, List.set_cons_zero, Act.eval, Array.getD_eq_getD_getElem?, List.getElem?_toArray, List.getElem?_cons_succ, List.getElem?_cons_zero, Option.getD_some]; exact rfl)
          repeat
            first
              | ((with_reducible refine q_obl (v := ?_) (a' := ?_) ?_ (fun _ hcw => ?_) ?_ ?_); rotate_left; rotate_left; (focus (exact rfl)); (focus (have f := RS _ hcw; go_simp; (try go_bits); exact rfl)); (focus (simp only [Act.put, List.setIfInBounds_toArray, List.set_cons_succ, List.set_cons_zero, Act.eval, Array.getD_eq_getD_getElem?, List.getElem?_toArray, List.getElem?_cons_succ, List.getElem?_cons_zero, Option.getD_some]; exact rfl)))
              | ((with_reducible refine q_skip (a' := ?_) ?_ ?_ ?_); rotate_left; (focus (exact rfl)); (focus (simp only [Act.put, List.setIfInBounds_toArray, List.set_cons_succ, List.set_cons_zero, Act.eval, Array.getD_eq_getD_getElem?, List.getElem?_toArray, List.getElem?_cons_succ, List.getElem?_cons_zero, Option.getD_some]; exact rfl)))
          refine q_nil ?_
          intro w5 hw5
          refine hK' _ _ ?_
          have b5 := hCb w5 hw5
          have hsz : w.heap.size ≤ wr.heap.size := hb.size
          go_wp2
          exact ⟨⟨j + 1, by omega, by go_num, nB.drew.belowAll b5, nH.drew.belowAll b5, nS.drew.belowAll b5, hb.drew.trans (b5.mono hsz)⟩, by simp [intOf]; omega⟩
        · rw [if_neg hj4] at hl
          have j4 : (4 : Int) ≤ (j : Int) := by omega
          have e4 : (4 * (j : Int)).toNat = 4 * j := by omega
          go_wp2_with fail
          refine wp_region_still (by kernel_rfl) (by kernel_rfl) (fun C hC0 hCb hCn K' hK' => ?_)
          have RH : ∀ w1, C w1 → Rd8 w1 (some ⟨gH, 0, none⟩) 32 32 H := fun w1 h => by
            have := (nH.drew.belowAll (hCb w1 h)).rd8 32 (by omega) (by rw [hHl]; unfold maxLen; omega)
            rwa [hHl, List.take_of_length_le (by omega)] at this
          have RB : ∀ w1, C w1 → Rd8 w1 (some ⟨gB, 0, none⟩) 64 64 B := fun w1 h => by
            have := (nB.drew.belowAll (hCb w1 h)).rd8 64 (by omega) (by rw [hBl]; unfold maxLen; omega)
            rwa [hBl, List.take_of_length_le (by omega)] at this
          have RS : ∀ w1, C w1 → w1.cell? ⟨gS, j + 8, none⟩ = some (v32 (nth S (j + 8))) := fun w1 h => (nS.drew.belowAll (hCb w1 h)).cell32 hSl (j + 8) (by omega)
          have hne : (word H (4 * j) != word B (4 * (j + 8)) - nth S (j + 8)) = false := by rw [hl]; simp
          have c1 := fun w1 h => word_any H _ _ _ (4 * (j : Int)) w1 (RH w1 h) (by omega) (by omega)
          have c2 := fun w1 h => word_any B _ _ _ (4 * ((j : Int) + 8)) w1 (RB w1 h) (by omega) (by omega)
          have b0 : (0 : Int) ≤ (j : Int) + 8 := by omega
          have b1 : (j : Int) + 8 < 16 := by omega
          have e5 : (4 * ((j : Int) + 8)).toNat = 4 * (j + 8) := by omega
          rw [e4] at c1
          rw [e5] at c2
          clear RH RB hl
          repeat
            first
              | ((with_reducible refine q_obl (v := ?_) (a' := ?_) ?_ (fun _ hcw => ?_) ?_ ?_); rotate_left; rotate_left; (focus (exact rfl)); (focus (have f := RS _ hcw; go_simp; (try go_bits); exact rfl)); (focus (simp only [Act.put, List.setIfInBounds_toArray, List.set_cons_succ, List.set_cons_zero, Act.eval, Array.getD_eq_getD_getElem?, List.getElem?_toArray, List.getElem?_cons_succ, List.getElem?_cons_zero, Option.getD_some]; exact rfl)))
              | ((with_reducible refine q_skip (a' := ?_) ?_ ?_ ?_); rotate_left; (focus (exact rfl)); (focus (simp only [Act.put, List.setIfInBounds_toArray, List.set_cons_succ, List.set_cons_zero, Act.eval, Array.getD_eq_getD_getElem?, List.getElem?_toArray, List.getElem?_cons_succ, List.getElem?_cons_zero, Option.getD_some]; exact rfl)))
          ((with_reducible refine q_callB hCn (v := ?_) (a' := ?_) ?_ (fun wq hcw => ?_) ?_ ?_); rotate_left; rotate_left)
          · exact rfl
          · go_simp
            refine entersB_of ?_
            exact c1 wq hcw
          · (simp only [Act.put, List.setIfInBounds_toArray, List.set_cons_succ, List.set_cons_zero, Act.eval, Array.getD_eq_getD_getElem?, List.getElem?_toArray, List.getElem?_cons_succ, List.getElem?_cons_zero, Option.getD_some]; exact rfl)
          repeat
            first
              | ((with_reducible refine q_obl (v := ?_) (a' := ?_) ?_ (fun _ hcw => ?_) ?_ ?_); rotate_left; rotate_left; (focus (exact rfl)); (focus (have f := RS _ hcw; go_simp; (try go_bits); exact rfl)); (focus (simp only [Act.put, List.setIfInBounds_toArray, List.set_cons_succ, List.set_cons_zero, Act.eval, Array.getD_eq_getD_getElem?, List.getElem?_toArray, List.getElem?_cons_succ, List.getElem?_cons_zero, Option.getD_some]; exact rfl)))
              | ((with_reducible refine q_skip (a' := ?_) ?_ ?_ ?_); rotate_left; (focus (exact rfl)); (focus (simp only [Act.put, List.setIfInBounds_toArray, List.set_cons_succ, List.set_cons_zero, Act.eval, Array.getD_eq_getD_getElem?, List.getElem?_toArray, List.getElem?_cons_succ, List.getElem?_cons_zero, Option.getD_some]; exact rfl)))
          ((with_reducible refine q_callB hCn (v := ?_) (a' := ?_) ?_ (fun wq hcw => ?_) ?_ ?_); rotate_left; rotate_left)
          · exact rfl
          · go_simp
            refine entersB_of ?_
            exact c2 wq hcw
          · (simp only [Act.put, List.setIfInBounds_toArray, List.set_cons_succ, List.set_cons_zero, Act.eval, Array.getD_eq_getD_getElem?, List.getElem?_toArray, List.getElem?_cons_succ, List.getElem?_cons_zero, Option.getD_some]; exact rfl)
          repeat
            first
              | ((with_reducible refine q_obl (v := ?_) (a' := ?_) ?_ (fun _ hcw => ?_) ?_ ?_); rotate_left; rotate_left; (focus (exact rfl)); (focus (have f := RS _ hcw; go_simp; (try go_bits); exact rfl)); (focus (simp only [Act.put, List.setIfInBounds_toArray, List.set_cons_succ, List.set_cons_zero, Act.eval, Array.getD_eq_getD_getElem?, List.getElem?_toArray, List.getElem?_cons_succ, List.getElem?_cons_zero, Option.getD_some]; exact rfl)))
              | ((with_reducible refine q_skip (a' := ?_) ?_ ?_ ?_); rotate_left; (focus (exact rfl)); (focus (simp only [Act.put, List.setIfInBounds_toArray, List.set_cons_succ, List.set_cons_zero, Act.eval, Array.getD_eq_getD_getElem?, List.getElem?_toArray, List.getElem?_cons_succ, List.getElem?_cons_zero, Option.getD_some]; exact rfl)))
          refine q_nil ?_
          intro w5 hw5
          refine hK' _ _ ?_
          have b5 := hCb w5 hw5
          have hsz : w.heap.size ≤ wr.heap.size := hb.size
          go_wp2
          exact ⟨⟨j + 1, by omega, by go_num, nB.drew.belowAll b5, nH.drew.belowAll b5, nS.drew.belowAll b5, hb.drew.trans (b5.mono hsz)⟩, by simp [intOf]; omega⟩
      · obtain rfl : j = 8 := by omega
        go_wp2_with fail
        refine (awake_any _).mono ?_
        rintro e w5 ⟨rfl, hb5⟩
        go_wp2
        go_ret
        exact ⟨rfl, hb.trans (hb5.mono hb.size)⟩
  · have hd : decide (r = 8 ∨ r = 12 ∨ r = 20) = false := decide_eq_false h
    go_wp2_with fail
    refine (right_any r _).mono ?_
    rintro e w0 ⟨rfl, rfl⟩
    rw [hd]
    go_wp2
    go_ret
    exact ⟨rfl, by repeat (first | exact Below.refl _ _ | refine Below.alloc ?_ (by simp) _)⟩
end Go.Proofs.Ythogbbigglmapaa
