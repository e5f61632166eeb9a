/- ring: dot -/
import Derived.Test.YtfdkmjegcghieaaDoorGw
import Derived.Test.YtfdkmjegcghieaaDoorGn
import Derived.Test.YtfdkmjegcghieaaDoorGu
namespace Go.Proofs.YtfdkmjegcghieaaDoor
open Go.RowKit
set_option linter.unusedSimpArgs false in
set_option maxRecDepth 100000 in
set_option maxHeartbeats 800000 in
theorem rdot_any (x y : W2) (w : World) :
    Calls Tryd.prog 126 #[.agg (A64 (wl x)), .agg (A64 (wl y))] w fun e w' => e = .returned (.agg (A64 (wl (dotW x y)))) ∧ Below w.heap.size w w' := by
  obtain ⟨W, hW⟩ : ∃ W, (((w.alloc (.cells (A64 (wl x)) 63)).alloc (.cells (A64 (wl y)) 63)).alloc (.cells (A64 (zeros 64 2)) 63)).alloc (.cells (A64 (zeros 64 2)) 63) = W := ⟨_, rfl⟩
  obtain ⟨b0, b1, b2, b3, hb, hz⟩ := new4 _ _ _ _ _ _ _ _ _ _ hW
  have P0 := Lib.hid b0
  have Q0 := Lib.hid b1
  have K0 := Lib.hid b2
  have Z0 := Lib.hid b3
  have B0 := Lib.hid hb
  clear b0 b1 b2 b3 hb hz
  go_enter Tryd.func126, Tryd.ntmps126
  go_wp2_with fail
  clear hW
  go_loopw [7] (fun s7 wr => ∃ j : Nat, j ≤ 128 ∧ s7 = .int .i64 j ∧ Blk wr w.heap.size 63 (A64 (wl x)) ∧ Blk wr (w.heap.size + 1) 63 (A64 (wl y)) ∧ Blk wr (w.heap.size + 2) 63 (A64 (zeros 64 2)) ∧ Blk wr (w.heap.size + 3) 63 (A64 (wl (dotTo x y j))) ∧ Below w.heap.size w wr) (fun s7 _ => 128 - (intOf s7).toNat)
  case atStart => exact ⟨0, by omega, rfl, P0.out, Q0.out, K0.out, Z0.out, B0.out⟩
  case round =>
    obtain ⟨j, hj, rfl, hP, hQ, hK, hZ, hB⟩ := hrel
    have P1 := Lib.hid hP
    have Q1 := Lib.hid hQ
    have K1 := Lib.hid hK
    have Z1 := Lib.hid hZ
    have B1 := Lib.hid hB
    clear hP hQ hK hZ hB P0 Q0 K0 Z0 B0
    obtain ⟨S, hS⟩ : ∃ S, S = dotTo x y j := ⟨_, rfl⟩
    have HS := Lib.hid hS
    by_cases hj128 : j < 128
    · have j1 : (j : Int) < 128 := by omega
      have j0 : (0 : Int) ≤ (j : Int) := by omega
      clear hS
      go_upto_region 5 with fail
      refine wp_region_tail [5,5,5,0,2,2,2,3] (by kernel_rfl) (by kernel_rfl) (fun C hC0 hCb K' hK' => ?_)
      have q0 : ∀ w1, C w1 → rowAt w1 w.heap.size = A64 (wl x) := fun w1 h => (P1.out.drew.belowAll (hCb w1 h)).row
      have q1 : ∀ w1, C w1 → rowAt w1 (w.heap.size + 1) = A64 (wl y) := fun w1 h => (Q1.out.drew.belowAll (hCb w1 h)).row
      have q2 : ∀ w1, C w1 → rowAt w1 (w.heap.size + 3) = A64 (wl S) := fun w1 h => by rw [HS.out]; exact (Z1.out.drew.belowAll (hCb w1 h)).row
      repeat
        first
          | ((with_reducible refine h_pure (v := ?_) (a' := ?_) ?_ (fun _ => ?_) ?_ ?_); rotate_left; rotate_left; (focus (exact rfl)); (focus (go_simp; (try go_bits); exact rfl)); (focus (simp only [Act.put, List.setIfInBounds_toArray, List.set_cons_succ, List.set_cons_zero, Act.eval, Array.getD_eq_getD_getElem?, List.getElem?_toArray, List.getElem?_cons_succ, List.getElem?_cons_zero, Option.getD_some]; exact rfl)))
          | ((with_reducible refine h_obl (v := ?_) (a' := ?_) ?_ (fun _ hcw => ?_) ?_ ?_); rotate_left; rotate_left; (focus (exact rfl)); (focus (have f := q0 _ hcw; have f1 := q1 _ hcw; have f2 := q2 _ hcw; go_simp; (try go_bits); exact rfl)); (focus (simp only [Act.put, List.setIfInBounds_toArray, List.set_cons_succ, List.set_cons_zero, Act.eval, Array.getD_eq_getD_getElem?, List.getElem?_toArray, List.getElem?_cons_succ, List.getElem?_cons_zero, Option.getD_some]; exact rfl)))
          | ((with_reducible refine h_read (v := ?_) (a' := ?_) ?_ (fun _ hbw => ?_) ?_ ?_); rotate_left; rotate_left; (focus (exact rfl)); (focus (skip; go_simp; (try go_bits); exact rfl)); (focus (simp only [Act.put, List.setIfInBounds_toArray, List.set_cons_succ, List.set_cons_zero, Act.eval, Array.getD_eq_getD_getElem?, List.getElem?_toArray, List.getElem?_cons_succ, List.getElem?_cons_zero, Option.getD_some]; exact rfl)))
      (with_reducible refine h_call ?_ ?_)
      · exact rfl
      go_simp
      refine entersW_of ?_
      refine (rbit_any y j wr.drew hj128).mono ?_
      rintro e w1 ⟨rfl, d1⟩
      refine ⟨_, rfl, d1, ?_⟩
      try simp only [Act.put, List.setIfInBounds_toArray, List.set_cons_succ, List.set_cons_zero]
      (with_reducible refine h_call ?_ ?_)
      · exact rfl
      go_simp
      refine entersW_of ?_
      refine (rplus_any S x (bitW y j) w1).mono ?_
      rintro e w2 ⟨rfl, d2⟩
      refine ⟨_, rfl, d2, ?_⟩
      try simp only [Act.put, List.setIfInBounds_toArray, List.set_cons_succ, List.set_cons_zero]
      (with_reducible refine h_call ?_ ?_)
      · exact rfl
      go_simp
      refine entersW_of ?_
      refine (rdown_any (plusW S x (bitW y j)) w2).mono ?_
      rintro e w3 ⟨rfl, d3⟩
      refine ⟨_, rfl, d3, ?_⟩
      try simp only [Act.put, List.setIfInBounds_toArray, List.set_cons_succ, List.set_cons_zero]
      have D3 := d1.trans ((d2.trans (d3.mono d2.size)).mono d1.size)
      refine h_tail [2] rfl (by simp) ?_
      refine z_storeRow (cs := A64 (wl (dotTo x y (j + 1)))) (Z1.out.drew.belowAll D3) rfl (by rw [dotTo, ← HS.out]; rfl) (by rw [A64_size, A64_size]; rfl) (A64_ones _) (by rw [A64_size]; exact Tryd.sizeOf63 _) (fun w5 k5 g5 s5 => ?_)
      refine z_nil (hK' _ _ ?_)
      have d4 := B1.out.drew.trans (D3.mono B1.out.drew.size)
      have B5 := Lib.hid (d4.trans (grown_below g5 (by omega) d4.size))
      have P5 := Lib.hid ((P1.out.drew.belowAll D3).grown g5 (by simp))
      have Q5 := Lib.hid ((Q1.out.drew.belowAll D3).grown g5 (by simp))
      have K5 := Lib.hid ((K1.out.drew.belowAll D3).grown g5 (by simp))
      have Z5 := Lib.hid k5
      clear q0 q1 q2 hC0 hCb hK' d1 d2 d3 D3 k5 g5 s5 d4
      go_wp2
      exact ⟨⟨j + 1, by omega, by go_num, P5.out, Q5.out, K5.out, Z5.out, B5.out⟩, by simp [intOf]; omega⟩
    · obtain rfl : j = 128 := by omega
      have zz := Z1.out
      have hD : wl S = wl (dotW x y) := by rw [hS]; rfl
      rw [← hS] at zz
      have HD := Lib.hid hD
      have r1 := zz.row
      have r2 := K1.out.row
      have r3 := K1.out.whole
      clear zz hS hD
      go_wp2
      refine bodyPost_row (A64 (wl S)) rfl rfl rfl (Tryd.isAgg63 _) (Tryd.sizeOf63 _) rfl (rowAt_setRow _ r3) ⟨by rw [HD.out], below_setRow B1.out (by omega) _⟩
end Go.Proofs.YtfdkmjegcghieaaDoor
