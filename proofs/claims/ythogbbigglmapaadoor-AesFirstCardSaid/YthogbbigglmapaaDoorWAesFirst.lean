/- AesFirst: the walk -/
import Derived.Test.YthogbbigglmapaaDoorLawK
namespace Go.Proofs.YthogbbigglmapaaDoor
open Go.RowKit
theorem LK_first (K : List (BitVec 8)) (hK : K.length = 33) (i : Nat) (h : i < keyN K) : nth (keyAt (LK K) (i / 16)) (i % 16) = nth (keyB K) i := by
  have := keyN_or K
  rw [nth_keyAt _ _ _ (Nat.mod_lt _ (by omega)), show 16 * (i / 16) + i % 16 = i by omega, LK, sch_first _ _ _ _ (by rw [keyB_length K hK]; exact h)]
set_option linter.unusedSimpArgs false in
set_option maxRecDepth 100000 in
set_option maxHeartbeats 1600000 in
theorem AesFirst_walk (K : List (BitVec 8)) (w : World) (hK : K.length = 33) (hT : Turning w) :
    Calls Tryd.prog 6 #[.agg (A8 K)] w fun e w' => e = .returned (.bool true) ∧ Below w.heap.size w w' := by
  obtain ⟨W, hW⟩ : ∃ W, (w.alloc (.cells (A8 K) 24)) = W := ⟨_, rfl⟩
  obtain ⟨b0, hb, hz⟩ := new1 _ _ _ _ hW
  have r0 := b0.row
  have B0 := Lib.hid hb
  have T0 := Lib.hid (hT.below hb)
  clear b0 hb hz hT
  go_enter Tryd.func6, Tryd.ntmps6
  go_wp2_with fail
  clear hW
  refine (bytes4_any K _ hK).mono ?_
  rintro e w2 ⟨v2, rfl, o2, d2⟩
  obtain ⟨a2, c2, rfl, hr2, _⟩ := o2.rd
  rw [keyB_length K hK] at hr2 ⊢
  clear r0
  go_wp2_with fail
  refine (tables_any _ (T0.out.below d2)).mono ?_
  rintro e w1 ⟨p, rfl, t1, d1⟩
  go_wp2_with fail
  refine (expandK_any p K a2 c2 w1 t1 (hr2.below d1)).mono ?_
  rintro e w3 ⟨k, rfl, k3, d3⟩
  have D3 := d2.trans ((d1.trans (d3.mono d1.size)).mono d2.size)
  have B3 := Lib.hid (B0.out.trans (D3.mono B0.out.size))
  have T3 := Lib.hid (T0.out.below D3)
  have R3 := Lib.hid ((hr2.below d1).below d3)
  have hLl := LK_length K hK
  obtain ⟨hm3, hm15⟩ := mK_bounds K
  have hN := keyN_or K
  have hmN : mK K = keyN K / 4 + 7 := rfl
  have K3 := Lib.hid k3
  have HLL := Lib.hid hLl
  obtain ⟨m, hm⟩ : ∃ m, m = mK K := ⟨_, rfl⟩
  obtain ⟨N, hNe⟩ : ∃ N, N = keyN K := ⟨_, rfl⟩
  obtain ⟨L, hL⟩ : ∃ L, L = LK K := ⟨_, rfl⟩
  have hfirst := LK_first K hK
  rw [← hm, ← hL] at K3 HLL
  rw [← hm] at hm3 hm15 hmN
  rw [← hNe] at hN hmN R3 hfirst ⊢
  rw [← hL] at hfirst
  obtain ⟨B, hB⟩ : ∃ B, B = keyB K := ⟨_, rfl⟩
  rw [← hB] at R3 hfirst
  have HFI := Lib.hid hfirst
  obtain ⟨n, hn⟩ : ∃ n, n = N / 4 := ⟨_, rfl⟩
  have f1 : (N : Int) / 4 = (n : Int) := by omega
  have f2 : IntKind.i64.wrap (n : Int) = (n : Int) := by rw [IntKind.wrap_i64]; omega
  have f3 : (m : Int) - 1 = (n : Int) + 6 := by omega
  have f4 : IntKind.i64.wrap ((n : Int) + 6) = (n : Int) + 6 := by rw [IntKind.wrap_i64]; omega
  clear t1 d1 d2 o2 hr2 d3 D3 k3 hm hL hLl B0 T0 hfirst hB hNe hn hmN
  go_wp2_with fail
  refine (krounds_any k p m L w3 K3.out).mono ?_
  rintro e w6 ⟨rfl, rfl⟩
  rw [f3]
  clear f3
  go_wp2_with fail
  go_loopw [6] (fun i wr => ∃ j : Nat, j ≤ N ∧ i = .int .i64 j ∧ Below w3.heap.size w3 wr) (fun i _ => N - (intOf i).toNat)
  case atStart => exact ⟨0, by omega, rfl, Below.refl _ _⟩
  case round =>
    obtain ⟨j, hj, rfl, hE⟩ := hrel
    have E1 := Lib.hid hE
    clear hE
    by_cases hjN : j < N
    · have j1 : (j : Int) < (N : Int) := by omega
      have j0 : (0 : Int) ≤ (j : Int) := by omega
      obtain ⟨q, hq⟩ : ∃ q, q = j / 16 := ⟨_, rfl⟩
      obtain ⟨r, hr⟩ : ∃ r, r = j % 16 := ⟨_, rfl⟩
      have q1 : (j : Int) / 16 = (q : Int) := by omega
      have q2 : IntKind.i64.wrap (q : Int) = (q : Int) := by rw [IntKind.wrap_i64]; omega
      have r1 : (j : Int) % 16 = (r : Int) := by omega
      have r2 : (r : Int) < 16 := by omega
      have r3 : (0 : Int) ≤ (r : Int) := by omega
      have hqm : q < m := by omega
      obtain ⟨kq, hkq⟩ : ∃ kq, kq = keyAt L q := ⟨_, rfl⟩
      have hkql : kq.length = 16 := by rw [hkq]; exact keyAt_length L m q HLL.out hqm
      have hval : nth kq r = nth B j := by rw [hkq, hq, hr]; exact HFI.out j hjN
      have HV := Lib.hid hval
      have HKQ := Lib.hid hkq
      have hr16 : r < 16 := by omega
      clear hq hr hkq hval
      go_wp2_with fail
      refine (kat_in k p m L q wr (K3.out.below E1.out) hqm).mono ?_
      rintro e w4 ⟨rfl, d4⟩
      rw [← HKQ.out]
      have e4 := E1.out.trans (d4.mono E1.out.size)
      have E4 := Lib.hid (e4.alloc e4.size (.cells (A8 kq) 25))
      have c1 := (Blk.new w4 25 (A8 kq)).drew.cell8 hkql r hr16
      rw [HV.out] at c1
      obtain ⟨b, o, rfl, _, hc⟩ := (R3.out.below E4.out).drew.2.2.2 (by omega)
      have c2 := hc j hjN
      clear hc e4 d4 E1
      go_upto_region 9 with fail
      generalize w4.alloc (.cells (A8 kq) 25) = W4 at *
      generalize w4.heap.size = gq at *
      refine wp_region_text3' [0,0,0,1,0,0,0,1,0] (by kernel_rfl) (by kernel_rfl) (fun ops' K2 hK2 => ?_)
      repeat
        first
          | ((with_reducible refine z_move (a' := ?_) ?_ ?_); rotate_left; · (simp only [Act.put, List.setIfInBounds_toArray, List.set_cons_succ, List.set_cons_zero, Act.eval, Array.getD_eq_getD_getElem?, List.getElem?_toArray, List.getElem?_cons_succ, List.getElem?_cons_zero, Option.getD_some]; exact rfl))
          | ((with_reducible refine z_assign (a' := ?_) ?_ ?_); rotate_left; · (simp only [Act.put, List.setIfInBounds_toArray, List.set_cons_succ, List.set_cons_zero, Act.eval, Array.getD_eq_getD_getElem?, List.getElem?_toArray, List.getElem?_cons_succ, List.getElem?_cons_zero, Option.getD_some]; exact rfl))
          | ((with_reducible refine z_obl (v := ?_) (a' := ?_) rfl (fun _ => ?_) ?_ ?_); rotate_left; rotate_left; (focus (go_simp; (try go_bits); exact rfl)); (focus (simp only [Act.put, List.setIfInBounds_toArray, List.set_cons_succ, List.set_cons_zero, Act.eval, Array.getD_eq_getD_getElem?, List.getElem?_toArray, List.getElem?_cons_succ, List.getElem?_cons_zero, Option.getD_some]; exact rfl)))
          | ((with_reducible refine z_read (v := ?_) (a' := ?_) rfl ?_ ?_ ?_); rotate_left; rotate_left; (focus (go_simp; (try go_bits); exact rfl)); (focus (simp only [Act.put, List.setIfInBounds_toArray, List.set_cons_succ, List.set_cons_zero, Act.eval, Array.getD_eq_getD_getElem?, List.getElem?_toArray, List.getElem?_cons_succ, List.getElem?_cons_zero, Option.getD_some]; exact rfl)))
      refine z_nil (hK2 _ _ ?_)
      clear c1 c2 hK2
      go_wp2
      exact ⟨⟨j + 1, by omega, by go_num, E4.out.drew⟩, by simp [intOf]; omega⟩
    · have j1 : ¬ (j : Int) < (N : Int) := by omega
      go_wp2_with fail
      refine (awake4_any wr (T3.out.below E1.out)).mono ?_
      rintro e w9 ⟨rfl, d9⟩
      go_wp2
      go_ret
      exact ⟨rfl, B3.out.trans ((E1.out.trans (d9.mono E1.out.size)).mono B3.out.size)⟩
end Go.Proofs.YthogbbigglmapaaDoor
