/- chacha by definition: left, Quarter -/
import Derived.Test.YthogbbigglmapaaCha2
import Derived.Deep.Cut
namespace Go.Proofs.Ythogbbigglmapaa
open Go.RowKit
theorem left16_any (x : BitVec 32) (w : World) :
    Calls Try.prog 48 #[v32 x, .int .u64 16] w fun e w' => e = .returned (v32 (rotl32 x 16)) ∧ w = w' := by
  go_enter Try.func48, Try.ntmps48
  go_wp2
  go_ret
  exact ⟨rfl, rfl⟩
theorem left12_any (x : BitVec 32) (w : World) :
    Calls Try.prog 48 #[v32 x, .int .u64 12] w fun e w' => e = .returned (v32 (rotl32 x 12)) ∧ w = w' := by
  go_enter Try.func48, Try.ntmps48
  go_wp2
  go_ret
  exact ⟨rfl, rfl⟩
theorem left8_any (x : BitVec 32) (w : World) :
    Calls Try.prog 48 #[v32 x, .int .u64 8] w fun e w' => e = .returned (v32 (rotl32 x 8)) ∧ w = w' := by
  go_enter Try.func48, Try.ntmps48
  go_wp2
  go_ret
  exact ⟨rfl, rfl⟩
theorem left7_any (x : BitVec 32) (w : World) :
    Calls Try.prog 48 #[v32 x, .int .u64 7] w fun e w' => e = .returned (v32 (rotl32 x 7)) ∧ w = w' := by
  go_enter Try.func48, Try.ntmps48
  go_wp2
  go_ret
  exact ⟨rfl, rfl⟩
set_option linter.unusedSimpArgs false in
set_option maxRecDepth 100000 in
set_option maxHeartbeats 1600000 in
theorem refQuarter_any (a b c d : BitVec 32) (w : World) :
    Calls Try.prog 29 #[.agg (A32 [a, b, c, d])] w fun e w' => e = .returned (.agg (A32 [(quarter a b c d).1, (quarter a b c d).2.1, (quarter a b c d).2.2.1, (quarter a b c d).2.2.2])) ∧ Below w.heap.size w w' := by
  obtain ⟨l0, e0⟩ : ∃ l0, l0 = [a, b, c, d] := ⟨_, rfl⟩
  have n0 : l0.length = 4 := by rw [e0]; rfl
  rw [← e0]
  obtain ⟨W, hW⟩ : ∃ W, (w.alloc (.cells (A32 l0) 46)).alloc (.cells (A32 (zeros 32 4)) 46) = W := ⟨_, rfl⟩
  obtain ⟨b0, z0, hb, hz⟩ := new2 _ _ _ _ _ _ hW
  have K0 := Lib.hid b0
  have Z0 := Lib.hid z0
  have B0 := Lib.hid hb
  have E0 := Lib.hid e0
  have N0 := Lib.hid n0
  clear b0 z0 hb hz e0 n0
  go_enter Try.func29, Try.ntmps29
  go_upto_region 1 with fail
  clear hW
  have c0 := K0.out.cell32 N0.out 0 (by omega)
  have c1 := K0.out.cell32 N0.out 1 (by omega)
  have c2 := K0.out.cell32 N0.out 2 (by omega)
  have c3 := K0.out.cell32 N0.out 3 (by omega)
  have fo := K0.out.frozen 0
  go_upto_region 2 with fail
  have kk := K0.out.set_ 0 (v32 (nth l0 0 + nth l0 1))
  have zz := Z0.out.far (p := ⟨w.heap.size, 0, none⟩) (by simp) (v32 (nth l0 0 + nth l0 1))
  have bb := B0.out.setCell (p := ⟨w.heap.size, 0, none⟩) (by simp) (v32 (nth l0 0 + nth l0 1))
  rw [A32_set] at kk
  obtain ⟨l1, e1⟩ : ∃ q, q = l0.set 0 (nth l0 0 + nth l0 1) := ⟨_, rfl⟩
  rw [← e1] at kk
  have nn : l1.length = 4 := by rw [e1, List.length_set]; exact N0.out
  have K1 := Lib.hid kk
  have Z1 := Lib.hid zz
  have B1 := Lib.hid bb
  have E1 := Lib.hid e1
  have N1 := Lib.hid nn
  clear kk zz bb e1 nn c0 c1 c2 c3 fo K0 Z0 B0
  generalize W.setCell ⟨w.heap.size, 0, none⟩ (v32 (nth l0 0 + nth l0 1)) = W1 at *
  have c0 := K1.out.cell32 N1.out 0 (by omega)
  have c1 := K1.out.cell32 N1.out 1 (by omega)
  have c2 := K1.out.cell32 N1.out 2 (by omega)
  have c3 := K1.out.cell32 N1.out 3 (by omega)
  have fo := K1.out.frozen 3
  go_wp2_with fail
  refine (left16_any _ _).mono ?_
  rintro e wx ⟨rfl, rfl⟩
  go_upto_region 3 with fail
  have kk := K1.out.set_ 3 (v32 (rotl32 (nth l1 3 ^^^ nth l1 0) 16))
  have zz := Z1.out.far (p := ⟨w.heap.size, 3, none⟩) (by simp) (v32 (rotl32 (nth l1 3 ^^^ nth l1 0) 16))
  have bb := B1.out.setCell (p := ⟨w.heap.size, 3, none⟩) (by simp) (v32 (rotl32 (nth l1 3 ^^^ nth l1 0) 16))
  rw [A32_set] at kk
  obtain ⟨l2, e2⟩ : ∃ q, q = l1.set 3 (rotl32 (nth l1 3 ^^^ nth l1 0) 16) := ⟨_, rfl⟩
  rw [← e2] at kk
  have nn : l2.length = 4 := by rw [e2, List.length_set]; exact N1.out
  have K2 := Lib.hid kk
  have Z2 := Lib.hid zz
  have B2 := Lib.hid bb
  have E2 := Lib.hid e2
  have N2 := Lib.hid nn
  clear kk zz bb e2 nn c0 c1 c2 c3 fo K1 Z1 B1
  generalize W1.setCell ⟨w.heap.size, 3, none⟩ (v32 (rotl32 (nth l1 3 ^^^ nth l1 0) 16)) = W2 at *
  have c0 := K2.out.cell32 N2.out 0 (by omega)
  have c1 := K2.out.cell32 N2.out 1 (by omega)
  have c2 := K2.out.cell32 N2.out 2 (by omega)
  have c3 := K2.out.cell32 N2.out 3 (by omega)
  have fo := K2.out.frozen 2
  go_upto_region 4 with fail
  have kk := K2.out.set_ 2 (v32 (nth l2 2 + nth l2 3))
  have zz := Z2.out.far (p := ⟨w.heap.size, 2, none⟩) (by simp) (v32 (nth l2 2 + nth l2 3))
  have bb := B2.out.setCell (p := ⟨w.heap.size, 2, none⟩) (by simp) (v32 (nth l2 2 + nth l2 3))
  rw [A32_set] at kk
  obtain ⟨l3, e3⟩ : ∃ q, q = l2.set 2 (nth l2 2 + nth l2 3) := ⟨_, rfl⟩
  rw [← e3] at kk
  have nn : l3.length = 4 := by rw [e3, List.length_set]; exact N2.out
  have K3 := Lib.hid kk
  have Z3 := Lib.hid zz
  have B3 := Lib.hid bb
  have E3 := Lib.hid e3
  have N3 := Lib.hid nn
  clear kk zz bb e3 nn c0 c1 c2 c3 fo K2 Z2 B2
  generalize W2.setCell ⟨w.heap.size, 2, none⟩ (v32 (nth l2 2 + nth l2 3)) = W3 at *
  have c0 := K3.out.cell32 N3.out 0 (by omega)
  have c1 := K3.out.cell32 N3.out 1 (by omega)
  have c2 := K3.out.cell32 N3.out 2 (by omega)
  have c3 := K3.out.cell32 N3.out 3 (by omega)
  have fo := K3.out.frozen 1
  go_wp2_with fail
  refine (left12_any _ _).mono ?_
  rintro e wx ⟨rfl, rfl⟩
  go_upto_region 5 with fail
  have kk := K3.out.set_ 1 (v32 (rotl32 (nth l3 1 ^^^ nth l3 2) 12))
  have zz := Z3.out.far (p := ⟨w.heap.size, 1, none⟩) (by simp) (v32 (rotl32 (nth l3 1 ^^^ nth l3 2) 12))
  have bb := B3.out.setCell (p := ⟨w.heap.size, 1, none⟩) (by simp) (v32 (rotl32 (nth l3 1 ^^^ nth l3 2) 12))
  rw [A32_set] at kk
  obtain ⟨l4, e4⟩ : ∃ q, q = l3.set 1 (rotl32 (nth l3 1 ^^^ nth l3 2) 12) := ⟨_, rfl⟩
  rw [← e4] at kk
  have nn : l4.length = 4 := by rw [e4, List.length_set]; exact N3.out
  have K4 := Lib.hid kk
  have Z4 := Lib.hid zz
  have B4 := Lib.hid bb
  have E4 := Lib.hid e4
  have N4 := Lib.hid nn
  clear kk zz bb e4 nn c0 c1 c2 c3 fo K3 Z3 B3
  generalize W3.setCell ⟨w.heap.size, 1, none⟩ (v32 (rotl32 (nth l3 1 ^^^ nth l3 2) 12)) = W4 at *
  have c0 := K4.out.cell32 N4.out 0 (by omega)
  have c1 := K4.out.cell32 N4.out 1 (by omega)
  have c2 := K4.out.cell32 N4.out 2 (by omega)
  have c3 := K4.out.cell32 N4.out 3 (by omega)
  have fo := K4.out.frozen 0
  go_upto_region 6 with fail
  have kk := K4.out.set_ 0 (v32 (nth l4 0 + nth l4 1))
  have zz := Z4.out.far (p := ⟨w.heap.size, 0, none⟩) (by simp) (v32 (nth l4 0 + nth l4 1))
  have bb := B4.out.setCell (p := ⟨w.heap.size, 0, none⟩) (by simp) (v32 (nth l4 0 + nth l4 1))
  rw [A32_set] at kk
  obtain ⟨l5, e5⟩ : ∃ q, q = l4.set 0 (nth l4 0 + nth l4 1) := ⟨_, rfl⟩
  rw [← e5] at kk
  have nn : l5.length = 4 := by rw [e5, List.length_set]; exact N4.out
  have K5 := Lib.hid kk
  have Z5 := Lib.hid zz
  have B5 := Lib.hid bb
  have E5 := Lib.hid e5
  have N5 := Lib.hid nn
  clear kk zz bb e5 nn c0 c1 c2 c3 fo K4 Z4 B4
  generalize W4.setCell ⟨w.heap.size, 0, none⟩ (v32 (nth l4 0 + nth l4 1)) = W5 at *
  have c0 := K5.out.cell32 N5.out 0 (by omega)
  have c1 := K5.out.cell32 N5.out 1 (by omega)
  have c2 := K5.out.cell32 N5.out 2 (by omega)
  have c3 := K5.out.cell32 N5.out 3 (by omega)
  have fo := K5.out.frozen 3
  go_wp2_with fail
  refine (left8_any _ _).mono ?_
  rintro e wx ⟨rfl, rfl⟩
  go_upto_region 7 with fail
  have kk := K5.out.set_ 3 (v32 (rotl32 (nth l5 3 ^^^ nth l5 0) 8))
  have zz := Z5.out.far (p := ⟨w.heap.size, 3, none⟩) (by simp) (v32 (rotl32 (nth l5 3 ^^^ nth l5 0) 8))
  have bb := B5.out.setCell (p := ⟨w.heap.size, 3, none⟩) (by simp) (v32 (rotl32 (nth l5 3 ^^^ nth l5 0) 8))
  rw [A32_set] at kk
  obtain ⟨l6, e6⟩ : ∃ q, q = l5.set 3 (rotl32 (nth l5 3 ^^^ nth l5 0) 8) := ⟨_, rfl⟩
  rw [← e6] at kk
  have nn : l6.length = 4 := by rw [e6, List.length_set]; exact N5.out
  have K6 := Lib.hid kk
  have Z6 := Lib.hid zz
  have B6 := Lib.hid bb
  have E6 := Lib.hid e6
  have N6 := Lib.hid nn
  clear kk zz bb e6 nn c0 c1 c2 c3 fo K5 Z5 B5
  generalize W5.setCell ⟨w.heap.size, 3, none⟩ (v32 (rotl32 (nth l5 3 ^^^ nth l5 0) 8)) = W6 at *
  have c0 := K6.out.cell32 N6.out 0 (by omega)
  have c1 := K6.out.cell32 N6.out 1 (by omega)
  have c2 := K6.out.cell32 N6.out 2 (by omega)
  have c3 := K6.out.cell32 N6.out 3 (by omega)
  have fo := K6.out.frozen 2
  go_upto_region 8 with fail
  have kk := K6.out.set_ 2 (v32 (nth l6 2 + nth l6 3))
  have zz := Z6.out.far (p := ⟨w.heap.size, 2, none⟩) (by simp) (v32 (nth l6 2 + nth l6 3))
  have bb := B6.out.setCell (p := ⟨w.heap.size, 2, none⟩) (by simp) (v32 (nth l6 2 + nth l6 3))
  rw [A32_set] at kk
  obtain ⟨l7, e7⟩ : ∃ q, q = l6.set 2 (nth l6 2 + nth l6 3) := ⟨_, rfl⟩
  rw [← e7] at kk
  have nn : l7.length = 4 := by rw [e7, List.length_set]; exact N6.out
  have K7 := Lib.hid kk
  have Z7 := Lib.hid zz
  have B7 := Lib.hid bb
  have E7 := Lib.hid e7
  have N7 := Lib.hid nn
  clear kk zz bb e7 nn c0 c1 c2 c3 fo K6 Z6 B6
  generalize W6.setCell ⟨w.heap.size, 2, none⟩ (v32 (nth l6 2 + nth l6 3)) = W7 at *
  have c0 := K7.out.cell32 N7.out 0 (by omega)
  have c1 := K7.out.cell32 N7.out 1 (by omega)
  have c2 := K7.out.cell32 N7.out 2 (by omega)
  have c3 := K7.out.cell32 N7.out 3 (by omega)
  have fo := K7.out.frozen 1
  go_wp2_with fail
  refine (left7_any _ _).mono ?_
  rintro e wx ⟨rfl, rfl⟩
  go_upto_region 9 with fail
  have kk := K7.out.set_ 1 (v32 (rotl32 (nth l7 1 ^^^ nth l7 2) 7))
  have zz := Z7.out.far (p := ⟨w.heap.size, 1, none⟩) (by simp) (v32 (rotl32 (nth l7 1 ^^^ nth l7 2) 7))
  have bb := B7.out.setCell (p := ⟨w.heap.size, 1, none⟩) (by simp) (v32 (rotl32 (nth l7 1 ^^^ nth l7 2) 7))
  rw [A32_set] at kk
  obtain ⟨l8, e8⟩ : ∃ q, q = l7.set 1 (rotl32 (nth l7 1 ^^^ nth l7 2) 7) := ⟨_, rfl⟩
  rw [← e8] at kk
  have nn : l8.length = 4 := by rw [e8, List.length_set]; exact N7.out
  have K8 := Lib.hid kk
  have Z8 := Lib.hid zz
  have B8 := Lib.hid bb
  have E8 := Lib.hid e8
  have N8 := Lib.hid nn
  clear kk zz bb e8 nn c0 c1 c2 c3 fo K7 Z7 B7
  generalize W7.setCell ⟨w.heap.size, 1, none⟩ (v32 (rotl32 (nth l7 1 ^^^ nth l7 2) 7)) = W8 at *
  have r1 := K8.out.row
  have r2 := Z8.out.row
  have r3 := Z8.out.whole
  have n8 := N8.out
  go_wp2
  have hfin : l8 = [(quarter a b c d).1, (quarter a b c d).2.1, (quarter a b c d).2.2.1, (quarter a b c d).2.2.2] := by
    have e0 := E0.out
    have e1 := E1.out
    have e2 := E2.out
    have e3 := E3.out
    have e4 := E4.out
    have e5 := E5.out
    have e6 := E6.out
    have e7 := E7.out
    have e8 := E8.out
    clear E0 E1 E2 E3 E4 E5 E6 E7 E8 N0 N1 N2 N3 N4 N5 N6 N7 N8 K8 Z8 B8 r1 r2 r3 n8
    subst e0
    subst e1
    subst e2
    subst e3
    subst e4
    subst e5
    subst e6
    subst e7
    subst e8
    rfl
  rw [← hfin]
  refine bodyPost_row (A32 l8) rfl rfl rfl (Try.isAgg46 _) (Try.sizeOf46 _) (by rw [A32_size]; exact n8) (rowAt_setRow _ r3) ⟨rfl, below_setRow B8.out (by omega) _⟩
end Go.Proofs.Ythogbbigglmapaa
