/- AesMade: the walk -/
import Derived.Test.YthogbbigglmapaaDoorLawK
namespace Go.Proofs.YthogbbigglmapaaDoor
open Go.RowKit
set_option linter.unusedSimpArgs false in
set_option maxRecDepth 100000 in
set_option maxHeartbeats 1600000 in
theorem AesMade_walk (K b : List (BitVec 8)) (w : World) (hK : K.length = 33) (hb16 : b.length = 16) (hT : Turning w) :
    Calls Tryd.prog 5 #[.agg (A8 K), .agg (A8 b)] w fun e w' => e = .returned (.bool true) ∧ Below w.heap.size w w' := by
  obtain ⟨W, hW⟩ : ∃ W, (w.alloc (.cells (A8 K) 24)).alloc (.cells (A8 b) 25) = W := ⟨_, rfl⟩
  obtain ⟨b0, b1, hb, hz⟩ := new2 _ _ _ _ _ _ hW
  have K0 := Lib.hid b0
  have P0 := Lib.hid b1
  have B0 := Lib.hid hb
  have T0 := Lib.hid (hT.below hb)
  clear b0 b1 hb hz hT
  go_enter Tryd.func5, Tryd.ntmps5
  go_wp2_with fail
  clear hW
  refine (tables_any _ T0.out).mono ?_
  rintro e w1 ⟨p, rfl, t1, d1⟩
  have r0 := (K0.out.belowAll d1).row
  go_wp2_with fail
  refine (bytes4_any K _ hK).mono ?_
  rintro e w2 ⟨v2, rfl, o2, d2⟩
  obtain ⟨a2, c2, rfl, hr2, _⟩ := o2.rd
  rw [keyB_length K hK] at hr2 ⊢
  go_wp2_with fail
  refine (expandK_any p K a2 c2 w2 (t1.below d2) hr2).mono ?_
  rintro e w3 ⟨k, rfl, k3, d3⟩
  have D3 := d1.trans ((d2.trans (d3.mono d2.size)).mono d1.size)
  have B3 := Lib.hid (B0.out.trans (D3.mono B0.out.size))
  have P3 := Lib.hid (P0.out.belowAll D3)
  have T3 := Lib.hid (T0.out.below D3)
  have hLl := LK_length K hK
  obtain ⟨hm3, hm15⟩ := mK_bounds K
  obtain ⟨m, hm⟩ : ∃ m, m = mK K := ⟨_, rfl⟩
  obtain ⟨L, hL⟩ : ∃ L, L = LK K := ⟨_, rfl⟩
  rw [← hm] at hm3 hm15
  rw [← hm, ← hL] at k3 hLl
  have K3 := Lib.hid k3
  have HLL := Lib.hid hLl
  have r1 := P3.out.row
  clear t1 d1 d2 o2 hr2 d3 D3 k3 hm hL hLl K0 P0 B0 T0 r0
  go_upto_region 6 with fail
  clear r1
  have X4 := Lib.hid (Blk.new w3 25 (A8 b))
  have D4 := Lib.hid ((Below.refl w3.heap.size w3).alloc (Nat.le_refl _) (.cells (A8 b) 25))
  obtain ⟨gx, hgx⟩ : ∃ gx, gx = w3.heap.size := ⟨_, rfl⟩
  have hge : w3.heap.size ≤ gx := by rw [hgx]; exact Nat.le_refl _
  rw [← hgx] at X4 ⊢
  clear hgx
  generalize w3.alloc (.cells (A8 b) 25) = W4 at *
  have hk0 := keyAt_length L m 0 HLL.out (by omega)
  obtain ⟨k0, hk0e⟩ : ∃ k0, k0 = keyAt L 0 := ⟨_, rfl⟩
  have HK0 := Lib.hid hk0e
  go_wp2_with fail
  refine (kat_in k p m L 0 W4 (K3.out.below D4.out) (by omega)).mono ?_
  rintro e w5 ⟨rfl, d5⟩
  rw [← hk0e] at hk0 ⊢
  clear hk0e
  have D5 := D4.out.trans (d5.mono D4.out.size)
  have X5 := Lib.hid ((X4.out.belowAll d5).alloc (.cells (A8 k0) 25))
  have F5 := Lib.hid (Blk.new w5 25 (A8 k0))
  have hgf : gx ≠ w5.heap.size := by have := X4.out.lt; have := d5.size; omega
  have E5 := Lib.hid (D5.alloc D5.size (.cells (A8 k0) 25))
  have P5 := Lib.hid (P3.out.belowAll E5.out)
  have hpx : w.heap.size + 1 ≠ gx := by have := P3.out.lt; omega
  clear X4 D4 d5 D5
  go_wp2_with fail
  generalize w5.alloc (.cells (A8 k0) 25) = W5 at *
  generalize w5.heap.size = gf at *
  go_loopw [10] (fun i wr => ∃ j : Nat, j ≤ 16 ∧ i = .int .i64 j ∧ Blk wr gx 25 (A8 (xrTo b k0 j)) ∧ Blk wr gf 25 (A8 k0) ∧ Blk wr (w.heap.size + 1) 25 (A8 b) ∧ Below w3.heap.size w3 wr) (fun i _ => 16 - (intOf i).toNat)
  case atStart => exact ⟨0, by omega, rfl, by rw [xrTo_zero b k0 hb16]; exact X5.out, F5.out, P5.out, E5.out⟩
  case round =>
    obtain ⟨j, hj, rfl, hX, hF, hP, hE⟩ := hrel
    have X1 := Lib.hid hX
    have F1 := Lib.hid hF
    have P1 := Lib.hid hP
    have E1 := Lib.hid hE
    clear hX hF hP hE X5 F5 E5 P5
    by_cases hj16 : j < 16
    · have j1 : (j : Int) < 16 := by omega
      have j0 : (0 : Int) ≤ (j : Int) := by omega
      have c1 := X1.out.drew.cell8 (xrTo_length b k0 j) j hj16
      have c2 := F1.out.drew.cell8 hk0 j hj16
      rw [nth_xrTo b k0 j hj16] at c1
      go_upto_region 10 with fail
      refine wp_region_text3' [0,0,1,0,0,1,0,0,2] (by kernel_rfl) (by kernel_rfl) (fun ops' K2 hK2 => ?_)
      repeat
        first
          | ((with_reducible refine z_move (a' := ?_) ?_ ?_); rotate_left; · (simp only [Act.put, List.setIfInBounds_toArray, List.set_cons_succ, List.set_cons_zero, Act.eval, Array.getD_eq_getD_getElem?, List.getElem?_toArray, List.getElem?_cons_succ, List.getElem?_cons_zero, Option.getD_some]; exact rfl))
          | ((with_reducible refine z_assign (a' := ?_) ?_ ?_); rotate_left; · (simp only [Act.put, List.setIfInBounds_toArray, List.set_cons_succ, List.set_cons_zero, Act.eval, Array.getD_eq_getD_getElem?, List.getElem?_toArray, List.getElem?_cons_succ, List.getElem?_cons_zero, Option.getD_some]; exact rfl))
          | ((with_reducible refine z_obl (v := ?_) (a' := ?_) rfl (fun _ => ?_) ?_ ?_); rotate_left; rotate_left; (focus (go_simp; (try go_bits); exact rfl)); (focus (simp only [Act.put, List.setIfInBounds_toArray, List.set_cons_succ, List.set_cons_zero, Act.eval, Array.getD_eq_getD_getElem?, List.getElem?_toArray, List.getElem?_cons_succ, List.getElem?_cons_zero, Option.getD_some]; exact rfl)))
          | ((with_reducible refine z_read (v := ?_) (a' := ?_) rfl ?_ ?_ ?_); rotate_left; rotate_left; (focus (go_simp; (try go_bits); exact rfl)); (focus (simp only [Act.put, List.setIfInBounds_toArray, List.set_cons_succ, List.set_cons_zero, Act.eval, Array.getD_eq_getD_getElem?, List.getElem?_toArray, List.getElem?_cons_succ, List.getElem?_cons_zero, Option.getD_some]; exact rfl)))
      refine z_store8 X1.out.drew rfl rfl (by rw [xrTo_length]; exact hj16) (Tryd.sizeOf5 _) (fun w1 k1 g1 s1 => ?_)
      refine z_nil (hK2 _ _ ?_)
      rw [xrTo_set b k0 j hj16] at k1
      have X2 := Lib.hid k1
      have F2 := Lib.hid (F1.out.drew.grown g1 (by simp; omega))
      have P2 := Lib.hid (P1.out.drew.grown g1 (by simp; omega))
      have E2 := Lib.hid (E1.out.drew.trans (grown_below g1 hge E1.out.size))
      clear k1 g1 s1 c1 c2 hK2 X1 F1 E1 P1
      go_wp2
      exact ⟨⟨j + 1, by omega, by go_num, X2.out, F2.out, P2.out, E2.out⟩, by simp [intOf]; omega⟩
    · obtain rfl : j = 16 := by omega
      have xx := X1.out
      rw [xrTo_full] at xx
      obtain ⟨x0, hx0⟩ : ∃ x0, x0 = xor16 b k0 := ⟨_, rfl⟩
      rw [← hx0] at xx
      have hx0l : x0.length = 16 := by rw [hx0]; exact xor16_length _ _
      have X2 := Lib.hid xx
      have HX0 := Lib.hid hx0
      obtain ⟨I, hI⟩ : ∃ I, I = m - 1 := ⟨_, rfl⟩
      have f1 : (m : Int) - 1 = (I : Int) := by omega
      have HI := Lib.hid hI
      obtain ⟨M, hM⟩ : ∃ M, M = midKeys L m := ⟨_, rfl⟩
      have HM := Lib.hid hM
      clear xx hx0 hI hM
      go_wp2_with fail
      refine (krounds_any k p m L wr (K3.out.below E1.out)).mono ?_
      rintro e w6 ⟨rfl, rfl⟩
      rw [f1]
      clear f1
      go_wp2_with fail
      go_loopw [12] (fun i wx => ∃ j J : Nat, J = j + 1 ∧ J < m ∧ i = .int .i64 J ∧ Blk wx gx 25 (A8 (rnds M x0 j)) ∧ Blk wx (w.heap.size + 1) 25 (A8 b) ∧ Below w3.heap.size w3 wx) (fun i _ => m - (intOf i).toNat)
      case atStart => exact ⟨0, 1, rfl, by omega, rfl, X2.out, P1.out, E1.out⟩
      case round =>
        obtain ⟨j, J, hJ, hJm, rfl, hX, hP, hE⟩ := hrel
        have X3 := Lib.hid hX
        have P3' := Lib.hid hP
        have E3 := Lib.hid hE
        have HJ := Lib.hid hJ
        clear hX hP hE X1 F1 E1 P1 X2 hJ
        obtain ⟨y, hy⟩ : ∃ y, y = rnds M x0 j := ⟨_, rfl⟩
        have hyl : y.length = 16 := by rw [hy]; exact rnds_length _ _ hx0l _
        have HY := Lib.hid hy
        clear hy
        by_cases hJI : J < I
        · have j1 : (J : Int) < (I : Int) := by omega
          obtain ⟨kj, hkj⟩ : ∃ kj, kj = keyAt L J := ⟨_, rfl⟩
          have hkjl : kj.length = 16 := by rw [hkj]; exact keyAt_length L m J HLL.out hJm
          have HKJ := Lib.hid hkj
          obtain ⟨J2, hJ2⟩ : ∃ J2, J2 = J + 1 := ⟨_, rfl⟩
          have i1 : (J : Int) + 1 = (J2 : Int) := by omega
          have i2 : IntKind.i64.wrap (J2 : Int) = (J2 : Int) := by rw [IntKind.wrap_i64]; omega
          have hstep : roundS y kj = rnds M x0 (j + 1) := by
            have h1 := HI.out; have h2 := HJ.out
            rw [HM.out, rnds_bare L m x0 j (by omega) HLL.out, ← HM.out, ← HY.out, hkj, HJ.out]
          have HS := Lib.hid hstep
          have HJ2 := Lib.hid hJ2
          clear hkj hJ2 hstep
          go_upto_region 15 with fail
          refine wp_region_tail [0,5,0,0,2,2,3] (by kernel_rfl) (by kernel_rfl) (fun C hC0 hCb K' hK' => ?_)
          have q1 : ∀ w1, C w1 → rowAt w1 gx = A8 y := fun w1 h => by rw [HY.out]; exact (X3.out.drew.belowAll (hCb w1 h)).row
          repeat
            first
              | ((with_reducible refine h_pure (v := ?_) (a' := ?_) ?_ (fun _ => ?_) ?_ ?_); rotate_left; rotate_left; (focus (exact rfl)); (focus (go_simp; (try go_bits); exact rfl)); (focus (simp only [Act.put, List.setIfInBounds_toArray, List.set_cons_succ, List.set_cons_zero, Act.eval, Array.getD_eq_getD_getElem?, List.getElem?_toArray, List.getElem?_cons_succ, List.getElem?_cons_zero, Option.getD_some]; exact rfl)))
              | ((with_reducible refine h_obl (v := ?_) (a' := ?_) ?_ (fun _ hcw => ?_) ?_ ?_); rotate_left; rotate_left; (focus (exact rfl)); (focus (have f := q1 _ hcw; go_simp; (try go_bits); exact rfl)); (focus (simp only [Act.put, List.setIfInBounds_toArray, List.set_cons_succ, List.set_cons_zero, Act.eval, Array.getD_eq_getD_getElem?, List.getElem?_toArray, List.getElem?_cons_succ, List.getElem?_cons_zero, Option.getD_some]; exact rfl)))
              | ((with_reducible refine h_read (v := ?_) (a' := ?_) ?_ (fun _ hbw => ?_) ?_ ?_); rotate_left; rotate_left; (focus (exact rfl)); (focus (skip; go_simp; (try go_bits); exact rfl)); (focus (simp only [Act.put, List.setIfInBounds_toArray, List.set_cons_succ, List.set_cons_zero, Act.eval, Array.getD_eq_getD_getElem?, List.getElem?_toArray, List.getElem?_cons_succ, List.getElem?_cons_zero, Option.getD_some]; exact rfl)))
          (with_reducible refine h_call ?_ ?_)
          · exact rfl
          go_simp
          refine entersW_of ?_
          refine (kat_in k p m L J wr.drew (K3.out.below E3.out.drew) hJm).mono ?_
          rintro e w7 ⟨rfl, d7⟩
          refine ⟨_, rfl, d7, ?_⟩
          try simp only [Act.put, List.setIfInBounds_toArray, List.set_cons_succ, List.set_cons_zero]
          rw [← HKJ.out]
          (with_reducible refine h_call ?_ ?_)
          · exact rfl
          go_simp
          refine entersW_of ?_
          refine (tround_any p y kj w7 ((K3.out.below (E3.out.drew.trans (d7.mono E3.out.size))).1) hyl hkjl).mono ?_
          rintro e w8 ⟨rfl, d8⟩
          refine ⟨_, rfl, d8, ?_⟩
          try simp only [Act.put, List.setIfInBounds_toArray, List.set_cons_succ, List.set_cons_zero]
          obtain ⟨Y, hY⟩ : ∃ Y, Y = roundS y kj := ⟨_, rfl⟩
          have hYl : Y.length = 16 := by rw [hY]; exact roundS_length _ _
          rw [← hY]
          have d78 := d7.trans (d8.mono d7.size)
          refine h_tail [2] rfl (by simp) ?_
          refine z_storeRow (X3.out.drew.belowAll d78) rfl rfl (by rw [A8_size, A8_size, hYl, rnds_length _ _ hx0l]) (A8_ones _) (by rw [A8_size, hYl]; exact Tryd.sizeOf25 _) (fun w9 k9 g9 s9 => ?_)
          refine z_nil (hK' _ _ ?_)
          rw [hY, HS.out] at k9
          have X4 := Lib.hid k9
          have P4 := Lib.hid ((P3'.out.drew.belowAll d78).grown g9 (by simp; omega))
          have d9 := E3.out.drew.trans (d78.mono E3.out.size)
          have E4 := Lib.hid (d9.trans (grown_below g9 hge d9.size))
          clear q1 hC0 hCb hK' d7 d8 d78 d9 k9 g9 s9 hY X3 P3' E3
          go_wp2
          exact ⟨⟨j + 1, J2, by have := HJ.out; have := HJ2.out; omega, by have := HJ2.out; have := HI.out; omega, rfl, X4.out, P4.out, E4.out⟩, by simp [intOf]; have := HJ2.out; omega⟩
        · have hJe : J = I := by have := HI.out; omega
          subst hJe
          have j1 : ¬ (J : Int) < (J : Int) := by omega
          obtain ⟨kj, hkj⟩ : ∃ kj, kj = keyAt L J := ⟨_, rfl⟩
          have hkjl : kj.length = 16 := by rw [hkj]; exact keyAt_length L m J HLL.out hJm
          have HKJ := Lib.hid hkj
          have hfin : lastS y kj = encS L m b := by
            have h1 := HI.out; have h2 := HJ.out
            rw [encS, hkj, HY.out, HM.out, HX0.out, HK0.out, ← HI.out, show m - 2 = j by omega]
          have HF := Lib.hid hfin
          clear hkj hfin hJI
          go_upto_region 16 with fail
          refine wp_region_tail [0,5,0,0,2,2,0,5,2,0,0,2,0,0] (by kernel_rfl) (by kernel_rfl) (fun C hC0 hCb K' hK' => ?_)
          have q1 : ∀ w1, C w1 → rowAt w1 gx = A8 y := fun w1 h => by rw [HY.out]; exact (X3.out.drew.belowAll (hCb w1 h)).row
          have q2 : ∀ w1, C w1 → rowAt w1 (w.heap.size + 1) = A8 b := fun w1 h => (P3'.out.drew.belowAll (hCb w1 h)).row
          repeat
            first
              | ((with_reducible refine h_pure (v := ?_) (a' := ?_) ?_ (fun _ => ?_) ?_ ?_); rotate_left; rotate_left; (focus (exact rfl)); (focus (go_simp; (try go_bits); exact rfl)); (focus (simp only [Act.put, List.setIfInBounds_toArray, List.set_cons_succ, List.set_cons_zero, Act.eval, Array.getD_eq_getD_getElem?, List.getElem?_toArray, List.getElem?_cons_succ, List.getElem?_cons_zero, Option.getD_some]; exact rfl)))
              | ((with_reducible refine h_obl (v := ?_) (a' := ?_) ?_ (fun _ hcw => ?_) ?_ ?_); rotate_left; rotate_left; (focus (exact rfl)); (focus (have f := q1 _ hcw; have f' := q2 _ hcw; go_simp; (try go_bits); exact rfl)); (focus (simp only [Act.put, List.setIfInBounds_toArray, List.set_cons_succ, List.set_cons_zero, Act.eval, Array.getD_eq_getD_getElem?, List.getElem?_toArray, List.getElem?_cons_succ, List.getElem?_cons_zero, Option.getD_some]; exact rfl)))
              | ((with_reducible refine h_read (v := ?_) (a' := ?_) ?_ (fun _ hbw => ?_) ?_ ?_); rotate_left; rotate_left; (focus (exact rfl)); (focus (skip; go_simp; (try go_bits); exact rfl)); (focus (simp only [Act.put, List.setIfInBounds_toArray, List.set_cons_succ, List.set_cons_zero, Act.eval, Array.getD_eq_getD_getElem?, List.getElem?_toArray, List.getElem?_cons_succ, List.getElem?_cons_zero, Option.getD_some]; exact rfl)))
          (with_reducible refine h_call ?_ ?_)
          · exact rfl
          go_simp
          refine entersW_of ?_
          refine (kat_in k p m L J wr.drew (K3.out.below E3.out.drew) hJm).mono ?_
          rintro e w7 ⟨rfl, d7⟩
          refine ⟨_, rfl, d7, ?_⟩
          try simp only [Act.put, List.setIfInBounds_toArray, List.set_cons_succ, List.set_cons_zero]
          rw [← HKJ.out]
          have e7 := E3.out.drew.trans (d7.mono E3.out.size)
          (with_reducible refine h_call ?_ ?_)
          · exact rfl
          go_simp
          refine entersW_of ?_
          refine (tlast_any p y kj w7 ((K3.out.below e7).1) hyl hkjl).mono ?_
          rintro e w8 ⟨rfl, d8⟩
          refine ⟨_, rfl, d8, ?_⟩
          try simp only [Act.put, List.setIfInBounds_toArray, List.set_cons_succ, List.set_cons_zero]
          rw [HF.out]
          have e8 := e7.trans (d8.mono e7.size)
          repeat
            first
              | ((with_reducible refine h_pure (v := ?_) (a' := ?_) ?_ (fun _ => ?_) ?_ ?_); rotate_left; rotate_left; (focus (exact rfl)); (focus (go_simp; (try go_bits); exact rfl)); (focus (simp only [Act.put, List.setIfInBounds_toArray, List.set_cons_succ, List.set_cons_zero, Act.eval, Array.getD_eq_getD_getElem?, List.getElem?_toArray, List.getElem?_cons_succ, List.getElem?_cons_zero, Option.getD_some]; exact rfl)))
              | ((with_reducible refine h_obl (v := ?_) (a' := ?_) ?_ (fun _ hcw => ?_) ?_ ?_); rotate_left; rotate_left; (focus (exact rfl)); (focus (have f := q1 _ hcw; have f' := q2 _ hcw; go_simp; (try go_bits); exact rfl)); (focus (simp only [Act.put, List.setIfInBounds_toArray, List.set_cons_succ, List.set_cons_zero, Act.eval, Array.getD_eq_getD_getElem?, List.getElem?_toArray, List.getElem?_cons_succ, List.getElem?_cons_zero, Option.getD_some]; exact rfl)))
              | ((with_reducible refine h_read (v := ?_) (a' := ?_) ?_ (fun _ hbw => ?_) ?_ ?_); rotate_left; rotate_left; (focus (exact rfl)); (focus (skip; go_simp; (try go_bits); exact rfl)); (focus (simp only [Act.put, List.setIfInBounds_toArray, List.set_cons_succ, List.set_cons_zero, Act.eval, Array.getD_eq_getD_getElem?, List.getElem?_toArray, List.getElem?_cons_succ, List.getElem?_cons_zero, Option.getD_some]; exact rfl)))
          (with_reducible refine h_call ?_ ?_)
          · exact rfl
          go_simp
          refine entersW_of ?_
          refine (encrypt_any k p m L b w8 (K3.out.below e8) hb16 (by omega) (by omega)).mono ?_
          rintro e w9 ⟨rfl, d9⟩
          refine ⟨_, rfl, d9, ?_⟩
          try simp only [Act.put, List.setIfInBounds_toArray, List.set_cons_succ, List.set_cons_zero]
          have e9 := e8.trans (d9.mono e8.size)
          have hXl := encS_length L m b
          obtain ⟨X, hX⟩ : ∃ X, X = encS L m b := ⟨_, rfl⟩
          rw [← hX] at hXl ⊢
          clear hX
          repeat
            first
              | ((with_reducible refine h_pure (v := ?_) (a' := ?_) ?_ (fun _ => ?_) ?_ ?_); rotate_left; rotate_left; (focus (exact rfl)); (focus (go_simp; (try go_bits); exact rfl)); (focus (simp only [Act.put, List.setIfInBounds_toArray, List.set_cons_succ, List.set_cons_zero, Act.eval, Array.getD_eq_getD_getElem?, List.getElem?_toArray, List.getElem?_cons_succ, List.getElem?_cons_zero, Option.getD_some]; exact rfl)))
              | ((with_reducible refine h_obl (v := ?_) (a' := ?_) ?_ (fun _ hcw => ?_) ?_ ?_); rotate_left; rotate_left; (focus (exact rfl)); (focus (skip; go_simp; (try go_bits); exact rfl)); (focus (simp only [Act.put, List.setIfInBounds_toArray, List.set_cons_succ, List.set_cons_zero, Act.eval, Array.getD_eq_getD_getElem?, List.getElem?_toArray, List.getElem?_cons_succ, List.getElem?_cons_zero, Option.getD_some]; exact rfl)))
              | ((with_reducible refine h_read (v := ?_) (a' := ?_) ?_ (fun _ hbw => ?_) ?_ ?_); rotate_left; rotate_left; (focus (exact rfl)); (focus (skip; go_simp; (try go_bits); exact rfl)); (focus (simp only [Act.put, List.setIfInBounds_toArray, List.set_cons_succ, List.set_cons_zero, Act.eval, Array.getD_eq_getD_getElem?, List.getElem?_toArray, List.getElem?_cons_succ, List.getElem?_cons_zero, Option.getD_some]; exact rfl)))
          (with_reducible refine h_call ?_ ?_)
          · exact rfl
          go_simp
          refine entersW_of ?_
          refine (awake4_any w9 (T3.out.below e9)).mono ?_
          rintro e w10 ⟨rfl, d10⟩
          refine ⟨_, rfl, d10, ?_⟩
          try simp only [Act.put, List.setIfInBounds_toArray, List.set_cons_succ, List.set_cons_zero]
          repeat
            first
              | ((with_reducible refine h_pure (v := ?_) (a' := ?_) ?_ (fun _ => ?_) ?_ ?_); rotate_left; rotate_left; (focus (exact rfl)); (focus (go_simp; (try go_bits); exact rfl)); (focus (simp only [Act.put, List.setIfInBounds_toArray, List.set_cons_succ, List.set_cons_zero, Act.eval, Array.getD_eq_getD_getElem?, List.getElem?_toArray, List.getElem?_cons_succ, List.getElem?_cons_zero, Option.getD_some]; exact rfl)))
              | ((with_reducible refine h_obl (v := ?_) (a' := ?_) ?_ (fun _ hcw => ?_) ?_ ?_); rotate_left; rotate_left; (focus (exact rfl)); (focus (skip; go_simp; (try go_bits); exact rfl)); (focus (simp only [Act.put, List.setIfInBounds_toArray, List.set_cons_succ, List.set_cons_zero, Act.eval, Array.getD_eq_getD_getElem?, List.getElem?_toArray, List.getElem?_cons_succ, List.getElem?_cons_zero, Option.getD_some]; exact rfl)))
              | ((with_reducible refine h_read (v := ?_) (a' := ?_) ?_ (fun _ hbw => ?_) ?_ ?_); rotate_left; rotate_left; (focus (exact rfl)); (focus (skip; go_simp; (try go_bits); exact rfl)); (focus (simp only [Act.put, List.setIfInBounds_toArray, List.set_cons_succ, List.set_cons_zero, Act.eval, Array.getD_eq_getD_getElem?, List.getElem?_toArray, List.getElem?_cons_succ, List.getElem?_cons_zero, Option.getD_some]; exact rfl)))
          refine h_tail [] rfl (by simp) (z_nil (hK' _ _ ?_))
          have B8 := B3.out.trans ((e9.trans (d10.mono e9.size)).mono B3.out.size)
          clear q1 q2 hC0 hCb hK' d7 d8 d9 d10 e7 e8 e9
          go_wp2
          go_ret
          exact ⟨rfl, B8⟩
end Go.Proofs.YthogbbigglmapaaDoor
