/- AesWords: the walk -/
import Derived.Test.YthogbbigglmapaaDoorLawK
namespace Go.Proofs.YthogbbigglmapaaDoor
open Go.RowKit
theorem LK_word (K : List (BitVec 8)) (hK : K.length = 33) (i r : Nat) (h1 : keyN K / 4 ≤ i) (h2 : i < 4 * mK K) (hr : r < 4) (ha : ¬ i % (keyN K / 4) = 0) (hb : ¬ (keyN K / 4 = 8 ∧ i % 8 = 4)) :
    nth (keyAt (LK K) (i / 4)) (i % 4 * 4 + r) = nth (keyAt (LK K) ((i - 1) / 4)) ((i - 1) % 4 * 4 + r) ^^^ nth (keyAt (LK K) ((i - keyN K / 4) / 4)) ((i - keyN K / 4) % 4 * 4 + r) := by
  have := keyN_or K
  unfold mK at h2
  rw [nth_keyAt _ _ _ (by omega), nth_keyAt _ _ _ (by omega), nth_keyAt _ _ _ (by omega)]
  rw [show 16 * (i / 4) + (i % 4 * 4 + r) = 4 * i + r by omega, show 16 * ((i - 1) / 4) + ((i - 1) % 4 * 4 + r) = 4 * (i - 1) + r by omega, show 16 * ((i - keyN K / 4) / 4) + ((i - keyN K / 4) % 4 * 4 + r) = 4 * (i - keyN K / 4) + r by omega]
  exact sch_word _ _ (by rw [keyB_length K hK]; omega) _ i r h1 (by omega) hr (by omega) ha hb
set_option linter.unusedSimpArgs false in
set_option maxRecDepth 100000 in
set_option maxHeartbeats 1600000 in
theorem AesWords_walk (K : List (BitVec 8)) (y : BitVec 8) (w : World) (hK : K.length = 33) (hT : Turning w) :
    Calls Tryd.prog 7 #[.agg (A8 K), v8 y] w fun e w' => e = .returned (.bool true) ∧ Below w.heap.size w w' := by
  obtain ⟨W, hW⟩ : ∃ W, (w.alloc (.cells (A8 K) 24)) = W := ⟨_, rfl⟩
  obtain ⟨b0, hb, hz⟩ := new1 _ _ _ _ hW
  have r0 := b0.row
  have B0 := Lib.hid hb
  have T0 := Lib.hid (hT.below hb)
  clear b0 hb hz hT
  go_enter Tryd.func7, Tryd.ntmps7
  go_wp2_with fail
  clear hW
  refine (bytes4_any K _ hK).mono ?_
  rintro e w2 ⟨v2, rfl, o2, d2⟩
  obtain ⟨a2, c2, rfl, hr2, _⟩ := o2.rd
  rw [keyB_length K hK] at hr2 ⊢
  clear r0
  go_wp2_with fail
  refine (tables_any _ (T0.out.below d2)).mono ?_
  rintro e w1 ⟨p, rfl, t1, d1⟩
  go_wp2_with fail
  refine (expandK_any p K a2 c2 w1 t1 (hr2.below d1)).mono ?_
  rintro e w3 ⟨k, rfl, k3, d3⟩
  have D3 := d2.trans ((d1.trans (d3.mono d1.size)).mono d2.size)
  have B3 := Lib.hid (B0.out.trans (D3.mono B0.out.size))
  have T3 := Lib.hid (T0.out.below D3)
  have hLl := LK_length K hK
  obtain ⟨hm3, hm15⟩ := mK_bounds K
  have hN := keyN_or K
  have hmN : mK K = keyN K / 4 + 7 := rfl
  have K3 := Lib.hid k3
  have HLL := Lib.hid hLl
  obtain ⟨m, hm⟩ : ∃ m, m = mK K := ⟨_, rfl⟩
  obtain ⟨N, hNe⟩ : ∃ N, N = keyN K := ⟨_, rfl⟩
  obtain ⟨n, hn⟩ : ∃ n, n = keyN K / 4 := ⟨_, rfl⟩
  obtain ⟨L, hL⟩ : ∃ L, L = LK K := ⟨_, rfl⟩
  have hword := LK_word K hK
  rw [← hm, ← hL] at K3 HLL
  rw [← hm] at hm3 hm15 hmN hword
  rw [← hn] at hword hmN
  rw [← hL] at hword
  rw [← hNe] at hN hn ⊢
  have HW := Lib.hid hword
  have hn8 : n = 4 ∨ n = 6 ∨ n = 8 := by omega
  have f1 : (N : Int) / 4 = (n : Int) := by omega
  have f2 : IntKind.i64.wrap (n : Int) = (n : Int) := by rw [IntKind.wrap_i64]; omega
  obtain ⟨M, hM⟩ : ∃ M, M = 3 * n + 28 := ⟨_, rfl⟩
  have f3 : (3 : Int) * (n : Int) + 28 = (M : Int) := by omega
  have f4 : IntKind.i64.wrap ((3 : Int) * (n : Int)) = 3 * (n : Int) := by rw [IntKind.wrap_i64]; omega
  have f5 : IntKind.i64.wrap (M : Int) = (M : Int) := by rw [IntKind.wrap_i64]; omega
  obtain ⟨R, hR⟩ : ∃ R, R = y.toNat % M := ⟨_, rfl⟩
  have hRM : R < M := by rw [hR]; exact Nat.mod_lt _ (by omega)
  have f6 : (y.toNat : Int) % (M : Int) = (R : Int) := by rw [hR]; exact (Int.natCast_emod _ _).symm
  obtain ⟨I, hI⟩ : ∃ I, I = n + R := ⟨_, rfl⟩
  have f7 : (n : Int) + (R : Int) = (I : Int) := by omega
  have f8 : IntKind.i64.wrap (I : Int) = (I : Int) := by rw [IntKind.wrap_i64]; omega
  have hIn : n ≤ I := by omega
  have hI4 : I < 4 * m := by omega
  have f9 : 0 < M := by omega
  clear t1 d1 d2 o2 hr2 d3 D3 k3 hm hL hLl B0 T0 hword hNe hn hmN hM hR hI hRM
  go_upto_region 7 with fail
  obtain ⟨S, hS⟩ : ∃ S, S = I % n := ⟨_, rfl⟩
  have g1 : (I : Int) % (n : Int) = (S : Int) := by rw [hS]; exact (Int.natCast_emod _ _).symm
  have n0 : ¬ (n : Int) = 0 := by omega
  obtain ⟨U, hU⟩ : ∃ U, U = I % 8 := ⟨_, rfl⟩
  have g2 : (I : Int) % 8 = (U : Int) := by omega
  have HS := Lib.hid hS
  have HU := Lib.hid hU
  clear hS hU f1 f2 f3 f4 f5 f6 f7 f9
  go_cut [51] from 39 to 51 (fun c wx => c = .bool (decide (S = 0 ∨ n = 8 ∧ U = 4)) ∧ wx = w3)
  case first =>
    by_cases hS0 : S = 0
    · have z1 : ((S : Int) == 0) = true := by simp [hS0]
      go_wp2
      go_meet
      exact ⟨congrArg Value.bool (decide_eq_true (.inl hS0)).symm, rfl⟩
    · have z1 : ((S : Int) == 0) = false := by simp; omega
      by_cases hn : n = 8
      · have z2 : ((n : Int) == 8) = true := by simp; omega
        have HN8 := Lib.hid hn
        clear hn
        by_cases hU4 : U = 4
        · have z3 : ((U : Int) == 4) = true := by simp; omega
          go_wp2
          go_meet
          exact ⟨congrArg Value.bool (decide_eq_true (.inr ⟨HN8.out, hU4⟩)).symm, rfl⟩
        · have z3 : ((U : Int) == 4) = false := by simp; omega
          go_wp2
          go_meet
          exact ⟨congrArg Value.bool (decide_eq_false (by omega)).symm, rfl⟩
      · have z2 : ((n : Int) == 8) = false := by simp; omega
        go_wp2
        go_meet
        exact ⟨congrArg Value.bool (decide_eq_false (by omega)).symm, rfl⟩
  case rest =>
    obtain ⟨rfl, rfl⟩ := hcut
    by_cases hb : S = 0 ∨ n = 8 ∧ U = 4
    · rw [decide_eq_true hb]
      go_wp2_with fail
      refine (awake4_any _ T3.out).mono ?_
      rintro e w9 ⟨rfl, d9⟩
      go_wp2
      go_ret
      exact ⟨rfl, B3.out.trans (d9.mono B3.out.size)⟩
    · rw [decide_eq_false hb]
      obtain ⟨I1, hI1⟩ : ∃ q, q = I - 1 := ⟨_, rfl⟩
      obtain ⟨I2, hI2⟩ : ∃ q, q = I - n := ⟨_, rfl⟩
      have a1 : (I : Int) - 1 = (I1 : Int) := by omega
      have a2 : (I : Int) - (n : Int) = (I2 : Int) := by omega
      have a3 : IntKind.i64.wrap (I1 : Int) = (I1 : Int) := by rw [IntKind.wrap_i64]; omega
      have a4 : IntKind.i64.wrap (I2 : Int) = (I2 : Int) := by rw [IntKind.wrap_i64]; omega
      obtain ⟨q0, hq0⟩ : ∃ q, q = I / 4 := ⟨_, rfl⟩
      obtain ⟨r0, hr0⟩ : ∃ q, q = I % 4 := ⟨_, rfl⟩
      obtain ⟨s0, hs0⟩ : ∃ q, q = r0 * 4 := ⟨_, rfl⟩
      have b0 : (I : Int) / 4 = (q0 : Int) := by omega
      have c0 : IntKind.i64.wrap (q0 : Int) = (q0 : Int) := by rw [IntKind.wrap_i64]; omega
      have d0 : (I : Int) % 4 = (r0 : Int) := by omega
      have e0 : (r0 : Int) * 4 = (s0 : Int) := by omega
      have f0 : IntKind.i64.wrap (s0 : Int) = (s0 : Int) := by rw [IntKind.wrap_i64]; omega
      have G0 : q0 < m := by omega
      have h0 : s0 ≤ 12 := by omega
      obtain ⟨k0, hk0⟩ : ∃ k, k = keyAt L q0 := ⟨_, rfl⟩
      have l0 : k0.length = 16 := by rw [hk0]; exact keyAt_length L m q0 HLL.out G0
      have HKQ0 := Lib.hid hk0
      obtain ⟨q1, hq1⟩ : ∃ q, q = I1 / 4 := ⟨_, rfl⟩
      obtain ⟨r1, hr1⟩ : ∃ q, q = I1 % 4 := ⟨_, rfl⟩
      obtain ⟨s1, hs1⟩ : ∃ q, q = r1 * 4 := ⟨_, rfl⟩
      have b1 : (I1 : Int) / 4 = (q1 : Int) := by omega
      have c1 : IntKind.i64.wrap (q1 : Int) = (q1 : Int) := by rw [IntKind.wrap_i64]; omega
      have d1 : (I1 : Int) % 4 = (r1 : Int) := by omega
      have e1 : (r1 : Int) * 4 = (s1 : Int) := by omega
      have f1 : IntKind.i64.wrap (s1 : Int) = (s1 : Int) := by rw [IntKind.wrap_i64]; omega
      have G1 : q1 < m := by omega
      have h1 : s1 ≤ 12 := by omega
      obtain ⟨k1, hk1⟩ : ∃ k, k = keyAt L q1 := ⟨_, rfl⟩
      have l1 : k1.length = 16 := by rw [hk1]; exact keyAt_length L m q1 HLL.out G1
      have HKQ1 := Lib.hid hk1
      obtain ⟨q2, hq2⟩ : ∃ q, q = I2 / 4 := ⟨_, rfl⟩
      obtain ⟨r2, hr2⟩ : ∃ q, q = I2 % 4 := ⟨_, rfl⟩
      obtain ⟨s2, hs2⟩ : ∃ q, q = r2 * 4 := ⟨_, rfl⟩
      have b2 : (I2 : Int) / 4 = (q2 : Int) := by omega
      have c2 : IntKind.i64.wrap (q2 : Int) = (q2 : Int) := by rw [IntKind.wrap_i64]; omega
      have d2 : (I2 : Int) % 4 = (r2 : Int) := by omega
      have e2 : (r2 : Int) * 4 = (s2 : Int) := by omega
      have f2 : IntKind.i64.wrap (s2 : Int) = (s2 : Int) := by rw [IntKind.wrap_i64]; omega
      have G2 : q2 < m := by omega
      have h2 : s2 ≤ 12 := by omega
      obtain ⟨k2, hk2⟩ : ∃ k, k = keyAt L q2 := ⟨_, rfl⟩
      have l2 : k2.length = 16 := by rw [hk2]; exact keyAt_length L m q2 HLL.out G2
      have HKQ2 := Lib.hid hk2
      have hval : ∀ r, r < 4 → nth k0 (s0 + r) = nth k1 (s1 + r) ^^^ nth k2 (s2 + r) := by
        intro r hr
        have hs := HS.out
        have hu := HU.out
        rw [hk0, hk1, hk2, hs0, hs1, hs2, hq0, hq1, hq2, hr0, hr1, hr2, hI1, hI2]
        exact HW.out I r hIn hI4 hr (by omega) (by omega)
      have HV := Lib.hid hval
      clear hval hk0 hk1 hk2 hs0 hs1 hs2 hq0 hq1 hq2 hr0 hr1 hr2 hI1 hI2 hb n0 hn8 hIn hI4 hN hm3 hm15 HW HS HU
      go_wp2_with fail
      go_loopw [10] (fun i wr => ∃ j : Nat, j ≤ 4 ∧ i = .int .i64 j ∧ Below wc.heap.size wc wr) (fun i _ => 4 - (intOf i).toNat)
      case atStart => exact ⟨0, by omega, rfl, Below.refl _ _⟩
      case round =>
        obtain ⟨j, hj, rfl, hE⟩ := hrel
        have E1 := Lib.hid hE
        clear hE
        by_cases hj4 : j < 4
        · have j1 : (j : Int) < 4 := by omega
          obtain ⟨t0, ht0⟩ : ∃ q, q = s0 + j := ⟨_, rfl⟩
          have m0 : (s0 : Int) + (j : Int) = (t0 : Int) := by omega
          have n0 : IntKind.i64.wrap (t0 : Int) = (t0 : Int) := by rw [IntKind.wrap_i64]; omega
          have o0 : (t0 : Int) < 16 := by omega
          have p0 : (0 : Int) ≤ (t0 : Int) := by omega
          have y0 : t0 < 16 := by omega
          obtain ⟨t1, ht1⟩ : ∃ q, q = s1 + j := ⟨_, rfl⟩
          have m1 : (s1 : Int) + (j : Int) = (t1 : Int) := by omega
          have n1 : IntKind.i64.wrap (t1 : Int) = (t1 : Int) := by rw [IntKind.wrap_i64]; omega
          have o1 : (t1 : Int) < 16 := by omega
          have p1 : (0 : Int) ≤ (t1 : Int) := by omega
          have y1 : t1 < 16 := by omega
          obtain ⟨t2, ht2⟩ : ∃ q, q = s2 + j := ⟨_, rfl⟩
          have m2 : (s2 : Int) + (j : Int) = (t2 : Int) := by omega
          have n2 : IntKind.i64.wrap (t2 : Int) = (t2 : Int) := by rw [IntKind.wrap_i64]; omega
          have o2 : (t2 : Int) < 16 := by omega
          have p2 : (0 : Int) ≤ (t2 : Int) := by omega
          have y2 : t2 < 16 := by omega
          have hval : nth k0 t0 = nth k1 t1 ^^^ nth k2 t2 := by rw [ht0, ht1, ht2]; exact HV.out j hj4
          have HVJ := Lib.hid hval
          clear hval ht0 ht1 ht2
          go_wp2_with fail
          refine (kat_in k p m L q0 wr (K3.out.below E1.out) G0).mono ?_
          rintro e w4 ⟨rfl, z4⟩
          rw [← HKQ0.out]
          have x4 := E1.out.trans (z4.mono E1.out.size)
          go_wp2_with fail
          refine (kat_in k p m L q1 w4 (K3.out.below x4) G1).mono ?_
          rintro e w5 ⟨rfl, z5⟩
          rw [← HKQ1.out]
          have x5 := x4.trans (z5.mono x4.size)
          go_wp2_with fail
          refine (kat_in k p m L q2 w5 (K3.out.below x5) G2).mono ?_
          rintro e w6 ⟨rfl, z6⟩
          rw [← HKQ2.out]
          have x6 := x5.trans (z6.mono x5.size)
          obtain ⟨W6, hW6⟩ : ∃ W6, ((w6.alloc (.cells (A8 (zeros 8 16)) 25)).alloc (.cells (A8 (zeros 8 16)) 25)).alloc (.cells (A8 (zeros 8 16)) 25) = W6 := ⟨_, rfl⟩
          obtain ⟨b0, b1, b2, hb6, _⟩ := new3 _ _ _ _ _ _ _ _ hW6
          have d6 := x6.trans (hb6.mono x6.size)
          have hge : wc.heap.size ≤ w6.heap.size := x6.size
          clear z4 x4 z5 x5 z6 x6 hb6 E1
          go_wp2_with fail
          clear hW6
          generalize w6.heap.size = gg at *
          have u0 := b0.put (A8 k0)
          have u1 := b1.grown (grown_setRow W6 gg (A8 k0)) (by simp)
          have u2 := b2.grown (grown_setRow W6 gg (A8 k0)) (by simp)
          have d7 := below_setRow d6 hge (A8 k0)
          have rr := b0.row
          have rw0 := b0.whole
          clear b0 b1 b2 d6
          go_simp
          go_wp2_with fail
          clear rr rw0
          generalize W6.setRow gg (A8 k0) = W7 at *
          have x0 := u0.grown (grown_setRow W7 (gg + 1) (A8 k1)) (by simp)
          have x1 := u1.put (A8 k1)
          have x2 := u2.grown (grown_setRow W7 (gg + 1) (A8 k1)) (by simp)
          have d8 := below_setRow d7 (show wc.heap.size ≤ gg + 1 by omega) (A8 k1)
          have rr := u1.row
          have rw0 := u1.whole
          clear u0 u1 u2 d7
          go_simp
          go_wp2_with fail
          clear rr rw0
          generalize W7.setRow (gg + 1) (A8 k1) = W8 at *
          have v0 := (x0.grown (grown_setRow W8 (gg + 2) (A8 k2)) (by simp)).drew.cell8 l0 t0 y0
          have v1 := (x1.grown (grown_setRow W8 (gg + 2) (A8 k2)) (by simp)).drew.cell8 l1 t1 y1
          have v2 := (x2.put (A8 k2)).drew.cell8 l2 t2 y2
          have X6 := Lib.hid (below_setRow d8 (show wc.heap.size ≤ gg + 2 by omega) (A8 k2))
          have rr := x2.row
          have rw0 := x2.whole
          rw [HVJ.out] at v0
          clear x0 x1 x2 d8
          go_simp
          go_upto_region 13 with fail
          clear rr rw0
          refine wp_region_text3' [0,0,0,0,0,0,1,0,0,0,0,0,0,0,1,0,0,0,0,0,0,0,0,1,0,0] (by kernel_rfl) (by kernel_rfl) (fun ops' K2 hK2 => ?_)
          repeat
            first
              | ((with_reducible refine z_move (a' := ?_) ?_ ?_); rotate_left; · (simp only [Act.put, List.setIfInBounds_toArray, List.set_cons_succ, List.set_cons_zero, Act.eval, Array.getD_eq_getD_getElem?, List.getElem?_toArray, List.getElem?_cons_succ, List.getElem?_cons_zero, Option.getD_some]; exact rfl))
              | ((with_reducible refine z_assign (a' := ?_) ?_ ?_); rotate_left; · (simp only [Act.put, List.setIfInBounds_toArray, List.set_cons_succ, List.set_cons_zero, Act.eval, Array.getD_eq_getD_getElem?, List.getElem?_toArray, List.getElem?_cons_succ, List.getElem?_cons_zero, Option.getD_some]; exact rfl))
              | ((with_reducible refine z_obl (v := ?_) (a' := ?_) rfl (fun _ => ?_) ?_ ?_); rotate_left; rotate_left; (focus (go_simp; (try go_bits); exact rfl)); (focus (simp only [Act.put, List.setIfInBounds_toArray, List.set_cons_succ, List.set_cons_zero, Act.eval, Array.getD_eq_getD_getElem?, List.getElem?_toArray, List.getElem?_cons_succ, List.getElem?_cons_zero, Option.getD_some]; exact rfl)))
              | ((with_reducible refine z_read (v := ?_) (a' := ?_) rfl ?_ ?_ ?_); rotate_left; rotate_left; (focus (go_simp; (try go_bits); exact rfl)); (focus (simp only [Act.put, List.setIfInBounds_toArray, List.set_cons_succ, List.set_cons_zero, Act.eval, Array.getD_eq_getD_getElem?, List.getElem?_toArray, List.getElem?_cons_succ, List.getElem?_cons_zero, Option.getD_some]; exact rfl)))
          refine z_nil (hK2 _ _ ?_)
          clear v0 v1 v2 hK2
          go_wp2
          exact ⟨⟨j + 1, by omega, by go_num, X6.out.drew⟩, by simp [intOf]; omega⟩
        · have j1 : ¬ (j : Int) < 4 := by omega
          go_wp2_with fail
          refine (awake4_any wr (T3.out.below E1.out)).mono ?_
          rintro e w9 ⟨rfl, d9⟩
          go_wp2
          go_ret
          exact ⟨rfl, B3.out.trans ((E1.out.trans (d9.mono E1.out.size)).mono B3.out.size)⟩
end Go.Proofs.YthogbbigglmapaaDoor
