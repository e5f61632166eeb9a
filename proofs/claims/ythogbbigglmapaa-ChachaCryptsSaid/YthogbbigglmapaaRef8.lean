/- chacha by definition: Block -/
import Derived.Test.YthogbbigglmapaaRef7
import Derived.Test.YthogbbigglmapaaRef4
import Derived.Test.YthogbbigglmapaaHalf
namespace Go.Proofs.Ythogbbigglmapaa
open Go.RowKit
theorem putR_le32 (x : BitVec 32) : putR (x.setWidth 64) 4 = le32 x := by
  have h : ∀ k, k ≤ 24 → ((x.setWidth 64) >>> k).setWidth 8 = (x >>> k).setWidth 8 := by
    intro k hk
    apply BitVec.eq_of_toNat_eq
    have := x.isLt
    simp only [BitVec.toNat_setWidth, BitVec.toNat_ushiftRight]
    rw [Nat.mod_eq_of_lt (show x.toNat < 2 ^ 64 by omega)]
  show [_, _, _, _] = [_, _, _, _]
  simp only [List.cons.injEq, and_true]
  exact ⟨h 0 (by omega), h 8 (by omega), h 16 (by omega), h 24 (by omega)⟩
theorem sum_nth (S : List (BitVec 32)) (n j : Nat) (hS : S.length = 16) (hj : j < 16) : nth (sumTo (mixTo S n) S 16) j = nth (mixTo S n) j + nth S j := by
  rw [nth_sumTo _ _ _ (by rw [mixTo_length, hS]; exact hj) 16 (by rw [mixTo_length, hS]; omega), if_pos hj]
theorem bytes_take (l : List (BitVec 32)) (j : Nat) (h : j < l.length) : bytes32 (l.take j) ++ le32 (nth l j) = bytes32 (l.take (j + 1)) := by
  rw [take_succ_nth l j h, bytes32_append]
  refine congrArg _ ?_
  simp [bytes32]
set_option linter.unusedSimpArgs false in
set_option maxRecDepth 100000 in
set_option maxHeartbeats 1600000 in
theorem refBlock_any (key inp : List (BitVec 8)) (r : Int) (w : World) (hk : key.length = 32) (hi : inp.length = 16) (hr0 : 0 ≤ r) (hr : r ≤ 20) :
    Calls Try.prog 36 #[.agg (A8 key), .agg (A8 inp), .int .i64 r] w fun e w' => ∃ v, e = .returned v ∧ Own8 w' w.heap.size 5 v (blockOf (startTo key inp 4) (r.toNat / 2)) ∧ Below w.heap.size w w' := by
  obtain ⟨W, hW⟩ : ∃ W, (w.alloc (.cells (A8 key) 35)).alloc (.cells (A8 inp) 36) = W := ⟨_, rfl⟩
  obtain ⟨b0, b1, hb, hz⟩ := new2 _ _ _ _ _ _ hW
  have r0 := b0.row
  have r1 := b1.row
  have B := Lib.hid hb
  obtain ⟨S, hS⟩ : ∃ S, S = startTo key inp 4 := ⟨_, rfl⟩
  have hSl : S.length = 16 := by rw [hS, startTo_length]
  have hst := fun w => refStart_any key inp w hk hi
  rw [← hS] at hst ⊢
  have HSL := Lib.hid hSl
  clear b0 b1 hb hz hS
  go_enter Try.func36, Try.ntmps36
  go_wp2_with fail
  refine (hst W).mono ?_
  rintro e w1 ⟨rfl, hb1⟩
  have S1 := Lib.hid (Blk.new w1 38 (A32 S))
  have hB1 := B.out.trans (hb1.mono B.out.size)
  have B1 := Lib.hid (hB1.alloc hB1.size (.cells (A32 S) 38))
  have hlt1 := hB1.size
  clear r0 r1 hW hb1 hB1 B hst
  go_upto_region 2 with fail
  generalize w1.alloc (.cells (A32 S) 38) = W1 at *
  generalize w1.heap.size = pS at *
  have r1 := S1.out.row
  go_wp2_with fail
  refine (refMix_any S r W1 hSl hr0 hr).mono ?_
  rintro e w2 ⟨rfl, hb2⟩
  obtain ⟨T, hT⟩ : ∃ T, T = mixTo S (r.toNat / 2) := ⟨_, rfl⟩
  have hTl : T.length = 16 := by rw [hT, mixTo_length, hSl]
  rw [← hT]
  have HT := Lib.hid hT
  have HTL := Lib.hid hTl
  have S2 := Lib.hid ((S1.out.belowAll hb2).alloc (.cells (A32 T) 38))
  have T2 := Lib.hid (Blk.new w2 38 (A32 T))
  have hB2 := B1.out.trans (hb2.mono B1.out.size)
  have B2 := Lib.hid (hB2.alloc hB2.size (.cells (A32 T) 38))
  have hST : pS < w2.heap.size := (S1.out.belowAll hb2).lt
  clear r1 hb2 hB2 S1 B1 hT
  go_wp2_with fail
  clear hTl hSl
  generalize w2.alloc (.cells (A32 T) 38) = W2 at *
  generalize w2.heap.size = pT at *
  obtain ⟨U, hU⟩ : ∃ U, U = sumTo T S 16 := ⟨_, rfl⟩
  have hUl : U.length = 16 := by rw [hU, sumTo_length, HTL.out]
  have hUn : ∀ j, j < 16 → nth U j = nth T j + nth S j := fun j hj => by rw [hU, HT.out]; exact sum_nth S _ j HSL.out hj
  have HU := Lib.hid hU
  have HUL := Lib.hid hUl
  have HUN := Lib.hid hUn
  clear hU hUl hUn
  go_loopw [9, 10] (fun v i wr => ∃ j : Nat, j ≤ 16 ∧ i = .int .i64 j ∧ Blk wr pS 38 (A32 S) ∧ Blk wr pT 38 (A32 T) ∧ Own8 wr (pT + 1) 5 v (bytes32 (U.take j)) ∧ Below w.heap.size w wr) (fun _ i _ => 16 - (intOf i).toNat)
  case atStart => exact ⟨0, Nat.zero_le _, rfl, S2.out, T2.out, Own8.nil_ _ _ _, B2.out⟩
  case round =>
    obtain ⟨j, hj, rfl, hS, hT, hO, hB⟩ := hrel
    have S3 := Lib.hid hS
    have T3 := Lib.hid hT
    have O3 := Lib.hid hO
    have B3 := Lib.hid hB
    clear hS hT hO hB S2 T2 B2
    by_cases hj16 : j < 16
    · have j0 : (0 : Int) ≤ (j : Int) := by omega
      have j1 : (j : Int) < 16 := by omega
      have c1 := S3.out.drew.cell32 HSL.out j hj16
      have c2 := T3.out.drew.cell32 HTL.out j hj16
      go_upto_region 7 with fail
      refine wp_region_text3' [0,0,0,1,0,0,1,0,0,2,2,0] (by kernel_rfl) (by kernel_rfl) (fun ops' K2 hK2 => ?_)
      repeat
        first
          | ((with_reducible refine z_move (a' := ?_) ?_ ?_); rotate_left; · (simp only [Act.put, List.setIfInBounds_toArray, List.set_cons_succ, List.set_cons_zero, Act.eval, Array.getD_eq_getD_getElem?, List.getElem?_toArray, List.getElem?_cons_succ, List.getElem?_cons_zero, Option.getD_some]; exact rfl))
          | ((with_reducible refine z_assign (a' := ?_) ?_ ?_); rotate_left; · (simp only [Act.put, List.setIfInBounds_toArray, List.set_cons_succ, List.set_cons_zero, Act.eval, Array.getD_eq_getD_getElem?, List.getElem?_toArray, List.getElem?_cons_succ, List.getElem?_cons_zero, Option.getD_some]; exact rfl))
          | ((with_reducible refine z_obl (v := ?_) (a' := ?_) rfl (fun _ => ?_) ?_ ?_); rotate_left; rotate_left; (focus (go_simp; (try go_bits); exact rfl)); (focus (simp only [Act.put, List.setIfInBounds_toArray, List.set_cons_succ, List.set_cons_zero, Act.eval, Array.getD_eq_getD_getElem?, List.getElem?_toArray, List.getElem?_cons_succ, List.getElem?_cons_zero, Option.getD_some]; exact rfl)))
          | ((with_reducible refine z_read (v := ?_) (a' := ?_) rfl ?_ ?_ ?_); rotate_left; rotate_left; (focus (go_simp; (try go_bits); exact rfl)); (focus (simp only [Act.put, List.setIfInBounds_toArray, List.set_cons_succ, List.set_cons_zero, Act.eval, Array.getD_eq_getD_getElem?, List.getElem?_toArray, List.getElem?_cons_succ, List.getElem?_cons_zero, Option.getD_some]; exact rfl)))
      (with_reducible refine z_callw rfl ?_)
      go_simp
      refine entersW_of ?_
      refine (refPut_any ((nth S j + nth T j).setWidth 64) 4 wr.drew (by omega)).mono ?_
      rintro e w3 ⟨v3, rfl, ho3, hb3⟩
      refine ⟨_, rfl, ?_⟩
      try simp only [Act.put, List.setIfInBounds_toArray, List.set_cons_succ, List.set_cons_zero]
      rw [putR_le32] at ho3
      obtain ⟨a3, c3, rfl, hr3, _⟩ := ho3.rd
      rw [le32_length] at hr3 ⊢
      refine z_append8 (O3.out.drew.below hb3) hr3 rfl rfl Try.underlying22 info8 (by rw [bytes32_length, List.length_take, HUL.out]; omega) (by have h1 : pT < wr.drew.heap.size := T3.out.lt; have h2 := hb3.size; omega) (fun w4 v4 o4 g4 b4 => ?_)
      simp only [Act.put, List.setIfInBounds_toArray, List.set_cons_succ, List.set_cons_zero]
      repeat
        first
          | ((with_reducible refine z_move (a' := ?_) ?_ ?_); rotate_left; · (simp only [Act.put, List.setIfInBounds_toArray, List.set_cons_succ, List.set_cons_zero, Act.eval, Array.getD_eq_getD_getElem?, List.getElem?_toArray, List.getElem?_cons_succ, List.getElem?_cons_zero, Option.getD_some]; exact rfl))
          | ((with_reducible refine z_assign (a' := ?_) ?_ ?_); rotate_left; · (simp only [Act.put, List.setIfInBounds_toArray, List.set_cons_succ, List.set_cons_zero, Act.eval, Array.getD_eq_getD_getElem?, List.getElem?_toArray, List.getElem?_cons_succ, List.getElem?_cons_zero, Option.getD_some]; exact rfl))
          | ((with_reducible refine z_obl (v := ?_) (a' := ?_) rfl (fun _ => ?_) ?_ ?_); rotate_left; rotate_left; (focus (go_simp; (try go_bits); exact rfl)); (focus (simp only [Act.put, List.setIfInBounds_toArray, List.set_cons_succ, List.set_cons_zero, Act.eval, Array.getD_eq_getD_getElem?, List.getElem?_toArray, List.getElem?_cons_succ, List.getElem?_cons_zero, Option.getD_some]; exact rfl)))
          | ((with_reducible refine z_read (v := ?_) (a' := ?_) rfl ?_ ?_ ?_); rotate_left; rotate_left; (focus (go_simp; (try go_bits); exact rfl)); (focus (simp only [Act.put, List.setIfInBounds_toArray, List.set_cons_succ, List.set_cons_zero, Act.eval, Array.getD_eq_getD_getElem?, List.getElem?_toArray, List.getElem?_cons_succ, List.getElem?_cons_zero, Option.getD_some]; exact rfl)))
      refine z_nil (hK2 _ _ ?_)
      rw [BitVec.add_comm, ← HUN.out j hj16, bytes_take U j (by rw [HUL.out]; exact hj16)] at o4
      have O4 := Lib.hid o4
      have S4 := Lib.hid ((S3.out.drew.belowAll hb3).grown g4 ((O3.out.drew.below hb3).apart (by omega)))
      have T4 := Lib.hid ((T3.out.drew.belowAll hb3).grown g4 ((O3.out.drew.below hb3).apart (by omega)))
      have d4 := B3.out.drew.trans (hb3.mono B3.out.size)
      have B4 := Lib.hid (d4.trans (b4.mono (by omega)))
      clear o4 g4 b4 d4 hb3 hr3 ho3 c1 c2 hK2
      go_wp2
      exact ⟨⟨j + 1, by omega, by go_num, S4.out, T4.out, O4.out, B4.out⟩, by simp [intOf]; omega⟩
    · obtain rfl : j = 16 := by omega
      have hO := O3.out
      rw [List.take_of_length_le (by rw [HUL.out]; omega)] at hO
      have hfin : bytes32 U = blockOf S (r.toNat / 2) := by rw [HU.out, HT.out]; rfl
      rw [hfin] at hO
      have O4 := Lib.hid (hO.base (show w.heap.size ≤ pT + 1 by omega))
      clear hO hfin O3
      go_wp2
      go_ret
      exact ⟨_, rfl, O4.out, B3.out⟩
end Go.Proofs.Ythogbbigglmapaa
