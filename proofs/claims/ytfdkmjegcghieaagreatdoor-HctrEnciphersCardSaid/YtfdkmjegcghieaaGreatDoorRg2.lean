/- gf by definition: Inverse, Box, Table; turn by definition: Make -/
import Derived.Test.YtfdkmjegcghieaaGreatDoorId
import Derived.Test.YtfdkmjegcghieaaGreatDoorGc
namespace Go.Proofs.YtfdkmjegcghieaaGreatDoor
open Go.RowKit
theorem invS_range (a : BitVec 8) (h : ¬ a = 0#8) : 1 ≤ (invS a).toNat := by
  rcases inv_one a with h0 | h1
  · exact absurd h0 h
  · rcases Nat.eq_zero_or_pos (invS a).toNat with hz | hz
    · have : invS a = 0#8 := BitVec.eq_of_toNat_eq hz
      rw [this, show gmul a 0#8 = 0#8 from gmul_zero a] at h1
      exact absurd h1 (by decide)
    · exact hz
set_option linter.unusedSimpArgs false in
theorem refInverse_any (a : BitVec 8) (w : World) :
    Calls Tryz.prog 116 #[v8 a] w fun e w' => e = .returned (v8 (invS a)) ∧ w = w' := by
  go_enter Tryz.func116, Tryz.ntmps116
  go_wp2_with fail
  go_loopw [3] (fun i wr => ∃ j : Nat, 1 ≤ j ∧ j ≤ 256 ∧ i = .int .i64 j ∧ Hid (∀ k, 1 ≤ k → k < j → ¬ gmul a (BitVec.ofNat 8 k) = 1#8) ∧ wr = w) (fun i _ => 256 - (intOf i).toNat)
  case atStart => exact ⟨1, by omega, by omega, rfl, Lib.hid (fun k h1 h2 => by omega), rfl⟩
  case round =>
    obtain ⟨j, hj1, hj, rfl, H, rfl⟩ := hrel
    by_cases hj256 : j < 256
    · have j1 : (j : Int) < 256 := by omega
      go_wp2_with fail
      refine (refTimes_any a (BitVec.ofNat 8 j) wr).mono ?_
      rintro e w1 ⟨rfl, rfl⟩
      by_cases hg : gmul a (BitVec.ofNat 8 j) = 1#8
      · have hi := inv_only a _ hg
        have hb : (gmul a (BitVec.ofNat 8 j) == 1#8) = true := by rw [hg]; rfl
        have HI := Lib.hid hi
        clear hi hg
        go_wp2
        go_ret
        rw [← HI.out]
        exact ⟨rfl, rfl⟩
      · have hb : (gmul a (BitVec.ofNat 8 j) == 1#8) = false := by simpa using hg
        have H2 : Hid (∀ k, 1 ≤ k → k < j + 1 → ¬ gmul a (BitVec.ofNat 8 k) = 1#8) := Lib.hid (fun k h1 h2 => by
          by_cases hk : k = j
          · rw [hk]; exact hg
          · exact H.out k h1 (by omega))
        clear H hg
        go_wp2
        exact ⟨⟨j + 1, by omega, by omega, by go_num, H2, trivial⟩, by simp [intOf]; omega⟩
    · obtain rfl : j = 256 := by omega
      have h0 : invS a = 0#8 := by
        by_cases ha : a = 0#8
        · rw [ha]; kernel_rfl
        · have h1 := invS_range a ha
          have h2 := (invS a).isLt
          have h3 := H.out (invS a).toNat h1 (by omega)
          rw [BitVec.ofNat_toNat, BitVec.setWidth_eq] at h3
          rcases inv_one a with h | h
          · exact absurd h ha
          · exact absurd h h3
      have H0 := Lib.hid h0
      clear h0 H
      go_wp2
      go_ret
      rw [H0.out]
      exact ⟨rfl, rfl⟩
set_option linter.unusedSimpArgs false in
theorem refbit_any (a : BitVec 8) (k : Nat) (w : World) (hk : k ≤ 1000) :
    Calls Tryz.prog 117 #[v8 a, .int .i64 k] w fun e w' => e = .returned (v8 (bitS a k)) ∧ w = w' := by
  obtain ⟨r, hr⟩ : ∃ r, r = k % 8 := ⟨_, rfl⟩
  have r1 : (k : Int) % 8 = (r : Int) := by omega
  have e0 := amt_nat r (by omega)
  have hb : bitS a k = a >>> r % 2#8 := by rw [bitS, ← hr]
  rw [hb]
  have k0 : (0 : Int) ≤ (k : Int) := by omega
  clear hr hb
  go_enter Tryz.func117, Tryz.ntmps117
  go_wp2
  go_ret
  exact ⟨rfl, rfl⟩
set_option linter.unusedSimpArgs false in
set_option maxHeartbeats 800000 in
theorem refBox_any (a : BitVec 8) (w : World) :
    Calls Tryz.prog 70 #[v8 a] w fun e w' => e = .returned (v8 (box a)) ∧ Below w.heap.size w w' := by
  go_enter Tryz.func70, Tryz.ntmps70
  go_wp2_with fail
  refine (refInverse_any a w).mono ?_
  rintro e w1 ⟨rfl, rfl⟩
  obtain ⟨x, hx⟩ : ∃ x, x = invS a := ⟨_, rfl⟩
  rw [← hx]
  have HX := Lib.hid hx
  clear hx
  go_wp2_with fail
  go_loopw [4, 5] (fun o i wr => ∃ j : Nat, j ≤ 8 ∧ i = .int .i64 j ∧ o = v8 (boxU x j) ∧ Below w.heap.size w wr) (fun _ i _ => 8 - (intOf i).toNat)
  case atStart => exact ⟨0, by omega, rfl, rfl, Below.refl _ _⟩
  case round =>
    obtain ⟨j, hj, rfl, rfl, hB⟩ := hrel
    have B0 := Lib.hid hB
    clear hB
    by_cases hj8 : j < 8
    · have j1 : (j : Int) < 8 := by omega
      have j0 : (0 : Int) ≤ (j : Int) := by omega
      have e0 := amt_nat j (by omega)
      have hB : boxU x j ||| boxB x j <<< j = boxU x (j + 1) := rfl
      have HB := Lib.hid hB
      have hbb : bitS x j ^^^ bitS x (j + 7) ^^^ bitS x (j + 6) ^^^ bitS x (j + 5) ^^^ bitS x (j + 4) ^^^ bitS 99#8 j = boxB x j := rfl
      have HBB := Lib.hid hbb
      obtain ⟨j7, h7⟩ : ∃ q, q = j + 7 := ⟨_, rfl⟩
      obtain ⟨j6, h6⟩ : ∃ q, q = j + 6 := ⟨_, rfl⟩
      obtain ⟨j5, h5⟩ : ∃ q, q = j + 5 := ⟨_, rfl⟩
      obtain ⟨j4, h4⟩ : ∃ q, q = j + 4 := ⟨_, rfl⟩
      rw [← h7, ← h6, ← h5, ← h4] at HBB
      have a7 : (j : Int) + 7 = (j7 : Int) := by omega
      have a6 : (j : Int) + 6 = (j6 : Int) := by omega
      have a5 : (j : Int) + 5 = (j5 : Int) := by omega
      have a4 : (j : Int) + 4 = (j4 : Int) := by omega
      have b7 : IntKind.i64.wrap (j7 : Int) = (j7 : Int) := by rw [IntKind.wrap_i64]; omega
      have b6 : IntKind.i64.wrap (j6 : Int) = (j6 : Int) := by rw [IntKind.wrap_i64]; omega
      have b5 : IntKind.i64.wrap (j5 : Int) = (j5 : Int) := by rw [IntKind.wrap_i64]; omega
      have b4 : IntKind.i64.wrap (j4 : Int) = (j4 : Int) := by rw [IntKind.wrap_i64]; omega
      have l7 : j7 ≤ 1000 := by omega
      have l6 : j6 ≤ 1000 := by omega
      have l5 : j5 ≤ 1000 := by omega
      have l4 : j4 ≤ 1000 := by omega
      clear h7 h6 h5 h4 hB hbb
      go_wp2_with fail
      refine (refbit_any x j wr (by omega)).mono ?_
      rintro e w1 ⟨rfl, rfl⟩
      go_wp2_with fail
      refine (refbit_any x j7 wr (by omega)).mono ?_
      rintro e w1 ⟨rfl, rfl⟩
      go_wp2_with fail
      refine (refbit_any x j6 wr (by omega)).mono ?_
      rintro e w1 ⟨rfl, rfl⟩
      go_wp2_with fail
      refine (refbit_any x j5 wr (by omega)).mono ?_
      rintro e w1 ⟨rfl, rfl⟩
      go_wp2_with fail
      refine (refbit_any x j4 wr (by omega)).mono ?_
      rintro e w1 ⟨rfl, rfl⟩
      go_wp2_with fail
      refine (refbit_any 99#8 j wr (by omega)).mono ?_
      rintro e w1 ⟨rfl, rfl⟩
      go_wp2
      exact ⟨⟨j + 1, by omega, by go_num, by rw [HBB.out, HB.out], B0.out⟩, by simp [intOf]; omega⟩
    · obtain rfl : j = 8 := by omega
      have hf : boxU x 8 = box a := by rw [HX.out]; exact boxU_box a
      have HF := Lib.hid hf
      clear hf
      go_wp2
      go_ret
      rw [HF.out]
      exact ⟨rfl, B0.out⟩
set_option linter.unusedSimpArgs false in
set_option maxRecDepth 100000 in
set_option maxHeartbeats 800000 in
theorem refTable_any (w : World) :
    Calls Tryz.prog 32 #[] w fun e w' => e = .returned (.agg (A8 boxT)) ∧ Below w.heap.size w w' := by
  obtain ⟨W, hW⟩ : ∃ W, (w.alloc (.cells (A8 (zeros 8 256)) 33)).alloc (.cells (A8 (zeros 8 256)) 33) = W := ⟨_, rfl⟩
  obtain ⟨b0, z0, hb, hz⟩ := new2 _ _ _ _ _ _ hW
  have K0 := Lib.hid b0
  have Z0 := Lib.hid z0
  have B0 := Lib.hid hb
  clear b0 z0 hb hz
  go_enter Tryz.func32, Tryz.ntmps32
  go_wp2_with fail
  go_loopw [2] (fun i wr => ∃ j : Nat, j ≤ 256 ∧ i = .int .i64 j ∧ Blk wr w.heap.size 33 (A8 (zeros 8 256)) ∧ Blk wr (w.heap.size + 1) 33 (A8 (fillN 256 boxT j)) ∧ Below w.heap.size w wr) (fun i _ => 256 - (intOf i).toNat)
  case atStart => exact ⟨0, Nat.zero_le _, rfl, K0.out, by rw [fillN_zero]; exact Z0.out, B0.out⟩
  case round =>
    obtain ⟨j, hj, rfl, hK, hZ, hB⟩ := hrel
    have K1 := Lib.hid hK
    have Z1 := Lib.hid hZ
    have B1 := Lib.hid hB
    clear hK hZ hB K0 Z0 B0 hW
    by_cases hj256 : j < 256
    · have j1 : (j : Int) < 256 := by omega
      have j0 : (0 : Int) ≤ (j : Int) := by omega
      go_wp2_with fail
      refine (refBox_any (BitVec.ofNat 8 j) wr).mono ?_
      rintro e w1 ⟨rfl, d1⟩
      have hx : box (BitVec.ofNat 8 j) = nth boxT j := by rw [box, BitVec.toNat_ofNat, Nat.mod_eq_of_lt hj256]
      have Z2 := Z1.out.belowAll d1
      have K2 := K1.out.belowAll d1
      have B2 := B1.out.trans (d1.mono B1.out.size)
      have c1 := Z2.cell8 (fillN_length 256 boxT j) j hj256
      have fo := Z2.frozen j
      have kk := Z2.set_ j (v8 (nth boxT j))
      rw [A8_set, fillN_set 256 boxT j hj256] at kk
      have Z3 := Lib.hid kk
      have K3 := Lib.hid (K2.far (p := ⟨w.heap.size + 1, j, none⟩) (by simp) (v8 (nth boxT j)))
      have B3 := Lib.hid (B2.setCell (p := ⟨w.heap.size + 1, j, none⟩) (by simp) (v8 (nth boxT j)))
      rw [hx]
      obtain ⟨bx, hbx⟩ : ∃ bx, bx = nth boxT j := ⟨_, rfl⟩
      rw [← hbx] at Z3 K3 B3 ⊢
      clear kk K1 Z1 B1 Z2 K2 B2 d1 hx hbx
      go_wp2
      exact ⟨⟨j + 1, by omega, by go_num, K3.out, Z3.out, B3.out⟩, by simp [intOf]; omega⟩
    · obtain rfl : j = 256 := by omega
      have zz := Z1.out
      rw [fillN_full 256 boxT boxT_length] at zz
      have r1 := zz.row
      have r2 := K1.out.row
      have r3 := K1.out.whole
      obtain ⟨bx, hbx⟩ : ∃ bx, bx = boxT := ⟨_, rfl⟩
      have hbl : bx.length = 256 := by rw [hbx]; exact boxT_length
      rw [← hbx] at r1
      have HBX := Lib.hid hbx
      clear zz hbx
      go_wp2
      refine bodyPost_row (A8 bx) rfl rfl rfl (Tryz.isAgg33 _) (Tryz.sizeOf33 _) (by rw [A8_size]; exact hbl) (rowAt_setRow _ r3) ⟨by rw [HBX.out], below_setRow B1.out (by omega) _⟩
end Go.Proofs.YtfdkmjegcghieaaGreatDoor
