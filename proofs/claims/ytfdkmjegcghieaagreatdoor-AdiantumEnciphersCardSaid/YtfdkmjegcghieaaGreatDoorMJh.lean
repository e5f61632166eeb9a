/- chacha by definition: left, Quarter -/
import Derived.Test.YtfdkmjegcghieaaGreatDoorMHc
import Derived.Deep.Cut
import Derived.Test.YtfdkmjegcghieaaGreatDoorMGu
import Derived.Test.YtfdkmjegcghieaaGreatDoorMGo
namespace Go.Proofs.YtfdkmjegcghieaaGreatDoor
open Lib (hid)
set_option linter.unusedSimpArgs false
set_option maxRecDepth 100000
set_option maxHeartbeats 1600000
open Go.RowKit
theorem left16_any (x : BitVec 32) (w : World) :
  Calls Tryz.prog 180 #[v32 x, .int .u64 16] w fun e w' => e = .returned (v32 (rotl32 x 16)) ∧ w = w' := by
 go_enter Tryz.func180, Tryz.ntmps180
 go_wp2
 go_ret
 exact ⟨rfl, rfl⟩
theorem left12_any (x : BitVec 32) (w : World) :
  Calls Tryz.prog 180 #[v32 x, .int .u64 12] w fun e w' => e = .returned (v32 (rotl32 x 12)) ∧ w = w' := by
 go_enter Tryz.func180, Tryz.ntmps180
 go_wp2
 go_ret
 exact ⟨rfl, rfl⟩
theorem left8_any (x : BitVec 32) (w : World) :
  Calls Tryz.prog 180 #[v32 x, .int .u64 8] w fun e w' => e = .returned (v32 (rotl32 x 8)) ∧ w = w' := by
 go_enter Tryz.func180, Tryz.ntmps180
 go_wp2
 go_ret
 exact ⟨rfl, rfl⟩
theorem left7_any (x : BitVec 32) (w : World) :
  Calls Tryz.prog 180 #[v32 x, .int .u64 7] w fun e w' => e = .returned (v32 (rotl32 x 7)) ∧ w = w' := by
 go_enter Tryz.func180, Tryz.ntmps180
 go_wp2
 go_ret
 exact ⟨rfl, rfl⟩
theorem refQuarter_any (a b c d : BitVec 32) (w : World) :
  Calls Tryz.prog 163 #[.agg (A32 [a, b, c, d])] w fun e w' => e = .returned (.agg (A32 [(quarter a b c d).1, (quarter a b c d).2.1, (quarter a b c d).2.2.1, (quarter a b c d).2.2.2])) ∧ Below w.heap.size w w' := by
 obtain ⟨l0, e0⟩ : ∃ l0, l0 = [a, b, c, d] := ⟨_, rfl⟩
 have n0 : l0.length = 4 := by rw [e0]; rfl
 rw [← e0]
 obtain ⟨W, hW⟩ : ∃ W, (w.alloc (.cells (A32 l0) 205)).alloc (.cells (A32 (zeros 32 4)) 205) = W := ⟨_, rfl⟩
 obtain ⟨b0, z0, hb, hz⟩ := new2 _ _ _ _ _ _ hW
 have K0 := hid b0
 have Z0 := hid z0
 have B0 := hid hb
 have E0 := hid e0
 have N0 := hid n0
 clear b0 z0 hb hz e0 n0
 go_enter Tryz.func163, Tryz.ntmps163
 go_upto_region 1 with fail
 clear hW
 have c0 := K0.out.cell32 N0.out 0 (by omega)
 have c1 := K0.out.cell32 N0.out 1 (by omega)
 have c2 := K0.out.cell32 N0.out 2 (by omega)
 have c3 := K0.out.cell32 N0.out 3 (by omega)
 have fo := K0.out.frozen 0
 go_upto_region 2 with fail
 have kk := K0.out.set_ 0 (v32 (nth l0 0 + nth l0 1))
 have zz := Z0.out.far (p := ⟨w.heap.size, 0, none⟩) (by simp) (v32 (nth l0 0 + nth l0 1))
 have bb := B0.out.setCell (p := ⟨w.heap.size, 0, none⟩) (by simp) (v32 (nth l0 0 + nth l0 1))
 rw [A32_set] at kk
 obtain ⟨l1, e1⟩ : ∃ q, q = l0.set 0 (nth l0 0 + nth l0 1) := ⟨_, rfl⟩
 rw [← e1] at kk
 have nn : l1.length = 4 := by rw [e1, List.length_set]; exact N0.out
 have K1 := hid kk
 have Z1 := hid zz
 have B1 := hid bb
 have E1 := hid e1
 have N1 := hid nn
 clear kk zz bb e1 nn c0 c1 c2 c3 fo K0 Z0 B0
 generalize W.setCell ⟨w.heap.size, 0, none⟩ (v32 (nth l0 0 + nth l0 1)) = W1 at *
 have c0 := K1.out.cell32 N1.out 0 (by omega)
 have c1 := K1.out.cell32 N1.out 1 (by omega)
 have c2 := K1.out.cell32 N1.out 2 (by omega)
 have c3 := K1.out.cell32 N1.out 3 (by omega)
 have fo := K1.out.frozen 3
 go_wp2_with fail
 refine (left16_any _ _).mono ?_
 rintro e wx ⟨rfl, rfl⟩
 go_upto_region 3 with fail
 have kk := K1.out.set_ 3 (v32 (rotl32 (nth l1 3 ^^^ nth l1 0) 16))
 have zz := Z1.out.far (p := ⟨w.heap.size, 3, none⟩) (by simp) (v32 (rotl32 (nth l1 3 ^^^ nth l1 0) 16))
 have bb := B1.out.setCell (p := ⟨w.heap.size, 3, none⟩) (by simp) (v32 (rotl32 (nth l1 3 ^^^ nth l1 0) 16))
 rw [A32_set] at kk
 obtain ⟨l2, e2⟩ : ∃ q, q = l1.set 3 (rotl32 (nth l1 3 ^^^ nth l1 0) 16) := ⟨_, rfl⟩
 rw [← e2] at kk
 have nn : l2.length = 4 := by rw [e2, List.length_set]; exact N1.out
 have K2 := hid kk
 have Z2 := hid zz
 have B2 := hid bb
 have E2 := hid e2
 have N2 := hid nn
 clear kk zz bb e2 nn c0 c1 c2 c3 fo K1 Z1 B1
 generalize W1.setCell ⟨w.heap.size, 3, none⟩ (v32 (rotl32 (nth l1 3 ^^^ nth l1 0) 16)) = W2 at *
 have c0 := K2.out.cell32 N2.out 0 (by omega)
 have c1 := K2.out.cell32 N2.out 1 (by omega)
 have c2 := K2.out.cell32 N2.out 2 (by omega)
 have c3 := K2.out.cell32 N2.out 3 (by omega)
 have fo := K2.out.frozen 2
 go_upto_region 4 with fail
 have kk := K2.out.set_ 2 (v32 (nth l2 2 + nth l2 3))
 have zz := Z2.out.far (p := ⟨w.heap.size, 2, none⟩) (by simp) (v32 (nth l2 2 + nth l2 3))
 have bb := B2.out.setCell (p := ⟨w.heap.size, 2, none⟩) (by simp) (v32 (nth l2 2 + nth l2 3))
 rw [A32_set] at kk
 obtain ⟨l3, e3⟩ : ∃ q, q = l2.set 2 (nth l2 2 + nth l2 3) := ⟨_, rfl⟩
 rw [← e3] at kk
 have nn : l3.length = 4 := by rw [e3, List.length_set]; exact N2.out
 have K3 := hid kk
 have Z3 := hid zz
 have B3 := hid bb
 have E3 := hid e3
 have N3 := hid nn
 clear kk zz bb e3 nn c0 c1 c2 c3 fo K2 Z2 B2
 generalize W2.setCell ⟨w.heap.size, 2, none⟩ (v32 (nth l2 2 + nth l2 3)) = W3 at *
 have c0 := K3.out.cell32 N3.out 0 (by omega)
 have c1 := K3.out.cell32 N3.out 1 (by omega)
 have c2 := K3.out.cell32 N3.out 2 (by omega)
 have c3 := K3.out.cell32 N3.out 3 (by omega)
 have fo := K3.out.frozen 1
 go_wp2_with fail
 refine (left12_any _ _).mono ?_
 rintro e wx ⟨rfl, rfl⟩
 go_upto_region 5 with fail
 have kk := K3.out.set_ 1 (v32 (rotl32 (nth l3 1 ^^^ nth l3 2) 12))
 have zz := Z3.out.far (p := ⟨w.heap.size, 1, none⟩) (by simp) (v32 (rotl32 (nth l3 1 ^^^ nth l3 2) 12))
 have bb := B3.out.setCell (p := ⟨w.heap.size, 1, none⟩) (by simp) (v32 (rotl32 (nth l3 1 ^^^ nth l3 2) 12))
 rw [A32_set] at kk
 obtain ⟨l4, e4⟩ : ∃ q, q = l3.set 1 (rotl32 (nth l3 1 ^^^ nth l3 2) 12) := ⟨_, rfl⟩
 rw [← e4] at kk
 have nn : l4.length = 4 := by rw [e4, List.length_set]; exact N3.out
 have K4 := hid kk
 have Z4 := hid zz
 have B4 := hid bb
 have E4 := hid e4
 have N4 := hid nn
 clear kk zz bb e4 nn c0 c1 c2 c3 fo K3 Z3 B3
 generalize W3.setCell ⟨w.heap.size, 1, none⟩ (v32 (rotl32 (nth l3 1 ^^^ nth l3 2) 12)) = W4 at *
 have c0 := K4.out.cell32 N4.out 0 (by omega)
 have c1 := K4.out.cell32 N4.out 1 (by omega)
 have c2 := K4.out.cell32 N4.out 2 (by omega)
 have c3 := K4.out.cell32 N4.out 3 (by omega)
 have fo := K4.out.frozen 0
 go_upto_region 6 with fail
 have kk := K4.out.set_ 0 (v32 (nth l4 0 + nth l4 1))
 have zz := Z4.out.far (p := ⟨w.heap.size, 0, none⟩) (by simp) (v32 (nth l4 0 + nth l4 1))
 have bb := B4.out.setCell (p := ⟨w.heap.size, 0, none⟩) (by simp) (v32 (nth l4 0 + nth l4 1))
 rw [A32_set] at kk
 obtain ⟨l5, e5⟩ : ∃ q, q = l4.set 0 (nth l4 0 + nth l4 1) := ⟨_, rfl⟩
 rw [← e5] at kk
 have nn : l5.length = 4 := by rw [e5, List.length_set]; exact N4.out
 have K5 := hid kk
 have Z5 := hid zz
 have B5 := hid bb
 have E5 := hid e5
 have N5 := hid nn
 clear kk zz bb e5 nn c0 c1 c2 c3 fo K4 Z4 B4
 generalize W4.setCell ⟨w.heap.size, 0, none⟩ (v32 (nth l4 0 + nth l4 1)) = W5 at *
 have c0 := K5.out.cell32 N5.out 0 (by omega)
 have c1 := K5.out.cell32 N5.out 1 (by omega)
 have c2 := K5.out.cell32 N5.out 2 (by omega)
 have c3 := K5.out.cell32 N5.out 3 (by omega)
 have fo := K5.out.frozen 3
 go_wp2_with fail
 refine (left8_any _ _).mono ?_
 rintro e wx ⟨rfl, rfl⟩
 go_upto_region 7 with fail
 have kk := K5.out.set_ 3 (v32 (rotl32 (nth l5 3 ^^^ nth l5 0) 8))
 have zz := Z5.out.far (p := ⟨w.heap.size, 3, none⟩) (by simp) (v32 (rotl32 (nth l5 3 ^^^ nth l5 0) 8))
 have bb := B5.out.setCell (p := ⟨w.heap.size, 3, none⟩) (by simp) (v32 (rotl32 (nth l5 3 ^^^ nth l5 0) 8))
 rw [A32_set] at kk
 obtain ⟨l6, e6⟩ : ∃ q, q = l5.set 3 (rotl32 (nth l5 3 ^^^ nth l5 0) 8) := ⟨_, rfl⟩
 rw [← e6] at kk
 have nn : l6.length = 4 := by rw [e6, List.length_set]; exact N5.out
 have K6 := hid kk
 have Z6 := hid zz
 have B6 := hid bb
 have E6 := hid e6
 have N6 := hid nn
 clear kk zz bb e6 nn c0 c1 c2 c3 fo K5 Z5 B5
 generalize W5.setCell ⟨w.heap.size, 3, none⟩ (v32 (rotl32 (nth l5 3 ^^^ nth l5 0) 8)) = W6 at *
 have c0 := K6.out.cell32 N6.out 0 (by omega)
 have c1 := K6.out.cell32 N6.out 1 (by omega)
 have c2 := K6.out.cell32 N6.out 2 (by omega)
 have c3 := K6.out.cell32 N6.out 3 (by omega)
 have fo := K6.out.frozen 2
 go_upto_region 8 with fail
 have kk := K6.out.set_ 2 (v32 (nth l6 2 + nth l6 3))
 have zz := Z6.out.far (p := ⟨w.heap.size, 2, none⟩) (by simp) (v32 (nth l6 2 + nth l6 3))
 have bb := B6.out.setCell (p := ⟨w.heap.size, 2, none⟩) (by simp) (v32 (nth l6 2 + nth l6 3))
 rw [A32_set] at kk
 obtain ⟨l7, e7⟩ : ∃ q, q = l6.set 2 (nth l6 2 + nth l6 3) := ⟨_, rfl⟩
 rw [← e7] at kk
 have nn : l7.length = 4 := by rw [e7, List.length_set]; exact N6.out
 have K7 := hid kk
 have Z7 := hid zz
 have B7 := hid bb
 have E7 := hid e7
 have N7 := hid nn
 clear kk zz bb e7 nn c0 c1 c2 c3 fo K6 Z6 B6
 generalize W6.setCell ⟨w.heap.size, 2, none⟩ (v32 (nth l6 2 + nth l6 3)) = W7 at *
 have c0 := K7.out.cell32 N7.out 0 (by omega)
 have c1 := K7.out.cell32 N7.out 1 (by omega)
 have c2 := K7.out.cell32 N7.out 2 (by omega)
 have c3 := K7.out.cell32 N7.out 3 (by omega)
 have fo := K7.out.frozen 1
 go_wp2_with fail
 refine (left7_any _ _).mono ?_
 rintro e wx ⟨rfl, rfl⟩
 go_upto_region 9 with fail
 have kk := K7.out.set_ 1 (v32 (rotl32 (nth l7 1 ^^^ nth l7 2) 7))
 have zz := Z7.out.far (p := ⟨w.heap.size, 1, none⟩) (by simp) (v32 (rotl32 (nth l7 1 ^^^ nth l7 2) 7))
 have bb := B7.out.setCell (p := ⟨w.heap.size, 1, none⟩) (by simp) (v32 (rotl32 (nth l7 1 ^^^ nth l7 2) 7))
 rw [A32_set] at kk
 obtain ⟨l8, e8⟩ : ∃ q, q = l7.set 1 (rotl32 (nth l7 1 ^^^ nth l7 2) 7) := ⟨_, rfl⟩
 rw [← e8] at kk
 have nn : l8.length = 4 := by rw [e8, List.length_set]; exact N7.out
 have K8 := hid kk
 have Z8 := hid zz
 have B8 := hid bb
 have E8 := hid e8
 have N8 := hid nn
 clear kk zz bb e8 nn c0 c1 c2 c3 fo K7 Z7 B7
 generalize W7.setCell ⟨w.heap.size, 1, none⟩ (v32 (rotl32 (nth l7 1 ^^^ nth l7 2) 7)) = W8 at *
 have r1 := K8.out.row
 have r2 := Z8.out.row
 have r3 := Z8.out.whole
 have n8 := N8.out
 go_wp2
 have hfin : l8 = [(quarter a b c d).1, (quarter a b c d).2.1, (quarter a b c d).2.2.1, (quarter a b c d).2.2.2] := by
  have e0 := E0.out
  have e1 := E1.out
  have e2 := E2.out
  have e3 := E3.out
  have e4 := E4.out
  have e5 := E5.out
  have e6 := E6.out
  have e7 := E7.out
  have e8 := E8.out
  clear E0 E1 E2 E3 E4 E5 E6 E7 E8 N0 N1 N2 N3 N4 N5 N6 N7 N8 K8 Z8 B8 r1 r2 r3 n8
  subst e0
  subst e1
  subst e2
  subst e3
  subst e4
  subst e5
  subst e6
  subst e7
  subst e8
  rfl
 rw [← hfin]
 refine bodyPost_row (A32 l8) rfl rfl rfl (Tryz.isAgg205 _) (Tryz.sizeOf205 _) (by rw [A32_size]; exact n8) (rowAt_setRow _ r3) ⟨rfl, below_setRow B8.out (by omega) _⟩
open Go.RowKit
def flat : List Nat := [0, 4, 8, 12, 1, 5, 9, 13, 2, 6, 10, 14, 3, 7, 11, 15, 0, 5, 10, 15, 1, 6, 11, 12, 2, 7, 8, 13, 3, 4, 9, 14]
def PL : Array Value := (flat.map fun (n : Nat) => Value.int .i64 (n : Int)).toArray
def placeAt (k j : Nat) : Nat := flat.getD (4 * k + j) 0
theorem PL_get (k j : Nat) (hk : k < 8) (hj : j < 4) : PL[4 * k + j]? = some (.int .i64 (placeAt k j)) := by
 have hl : 4 * k + j < flat.length := by show _ < 32; omega
 unfold PL placeAt
 rw [List.getElem?_toArray, List.getElem?_map, List.getElem?_eq_getElem hl, List.getD_eq_getElem?_getD, List.getElem?_eq_getElem hl]
 rfl
theorem placeAt_lt : ∀ (k : Fin 8) (j : Fin 4), placeAt k.val j.val < 16 := by decide
theorem PL_lit : PL = #[Value.int .i64 0, Value.int .i64 4, Value.int .i64 8, Value.int .i64 12, Value.int .i64 1, Value.int .i64 5, Value.int .i64 9, Value.int .i64 13, Value.int .i64 2, Value.int .i64 6, Value.int .i64 10, Value.int .i64 14, Value.int .i64 3, Value.int .i64 7, Value.int .i64 11, Value.int .i64 15, Value.int .i64 0, Value.int .i64 5, Value.int .i64 10, Value.int .i64 15, Value.int .i64 1, Value.int .i64 6, Value.int .i64 11, Value.int .i64 12, Value.int .i64 2, Value.int .i64 7, Value.int .i64 8, Value.int .i64 13, Value.int .i64 3, Value.int .i64 4, Value.int .i64 9, Value.int .i64 14] := rfl
@[go_sem] theorem cellsOf208 : Tryz.prog.cellsOf 208 = 32 := by kernel_rfl
@[go_sem] theorem cellsOf207 : Tryz.prog.cellsOf 207 = 4 := by kernel_rfl
theorem places_any (w : World) : Calls Tryz.prog 162 #[] w fun e w' => e = .returned (.agg PL) ∧ Below w.heap.size w w' := by
 obtain ⟨W, hW⟩ : ∃ W, w.alloc (.cells #[Value.int .i64 0, Value.int .i64 0, Value.int .i64 0, Value.int .i64 0, Value.int .i64 0, Value.int .i64 0, Value.int .i64 0, Value.int .i64 0, Value.int .i64 0, Value.int .i64 0, Value.int .i64 0, Value.int .i64 0, Value.int .i64 0, Value.int .i64 0, Value.int .i64 0, Value.int .i64 0, Value.int .i64 0, Value.int .i64 0, Value.int .i64 0, Value.int .i64 0, Value.int .i64 0, Value.int .i64 0, Value.int .i64 0, Value.int .i64 0, Value.int .i64 0, Value.int .i64 0, Value.int .i64 0, Value.int .i64 0, Value.int .i64 0, Value.int .i64 0, Value.int .i64 0, Value.int .i64 0] 208) = W := ⟨_, rfl⟩
 obtain ⟨b0, hb, hz⟩ := new1 _ _ _ _ hW
 have r0 := b0.row
 have r1 := b0.whole
 have ho : ones #[Value.int .i64 0, Value.int .i64 4, Value.int .i64 8, Value.int .i64 12, Value.int .i64 1, Value.int .i64 5, Value.int .i64 9, Value.int .i64 13, Value.int .i64 2, Value.int .i64 6, Value.int .i64 10, Value.int .i64 14, Value.int .i64 3, Value.int .i64 7, Value.int .i64 11, Value.int .i64 15, Value.int .i64 0, Value.int .i64 5, Value.int .i64 10, Value.int .i64 15, Value.int .i64 1, Value.int .i64 6, Value.int .i64 11, Value.int .i64 12, Value.int .i64 2, Value.int .i64 7, Value.int .i64 8, Value.int .i64 13, Value.int .i64 3, Value.int .i64 4, Value.int .i64 9, Value.int .i64 14] = true := by simp [ones, Value.oneCell']
 have hs : (rowAt W w.heap.size).size = 32 := by rw [r0]; rfl
 have B := hid hb
 clear hb hz b0 r0
 go_enter Tryz.func162, Tryz.ntmps162
 go_wp2
 rw [← PL_lit]
 have r2 := rowAt_setRow (w := W) (g := w.heap.size) PL r1
 refine bodyPost_row PL rfl rfl rfl (Tryz.isAgg208 _) (Tryz.sizeOf208 _) rfl r2 ⟨rfl, below_setRow B.out (by omega) _⟩
open Go.RowKit
def roundR (s : List (BitVec 32)) : Nat → List (BitVec 32)
 | 0 => s
 | k + 1 => qround (roundR s k) (placeAt k 0) (placeAt k 1) (placeAt k 2) (placeAt k 3)
theorem roundR_length (s : List (BitVec 32)) (k : Nat) : (roundR s k).length = s.length := by
 induction k with
 | zero => rfl
 | succ k ih => rw [roundR, qround_length, ih]
theorem roundR_twice (s : List (BitVec 32)) : roundR s 8 = twice s := rfl
def layR (s q : List (BitVec 32)) (k : Nat) : Nat → List (BitVec 32)
 | 0 => s
 | j + 1 => (layR s q k j).set (placeAt k j) (nth q j)
theorem layR_length (s q : List (BitVec 32)) (k j : Nat) : (layR s q k j).length = s.length := by
 induction j with
 | zero => rfl
 | succ j ih => rw [layR, List.length_set, ih]
def quarterL (a b c d : BitVec 32) : List (BitVec 32) := [(quarter a b c d).1, (quarter a b c d).2.1, (quarter a b c d).2.2.1, (quarter a b c d).2.2.2]
theorem layR_round (s : List (BitVec 32)) (k : Nat) : layR (roundR s k) (quarterL (nth (roundR s k) (placeAt k 0)) (nth (roundR s k) (placeAt k 1)) (nth (roundR s k) (placeAt k 2)) (nth (roundR s k) (placeAt k 3))) k 4 = roundR s (k + 1) := rfl
open Go.RowKit
def buildAt4 (e : TypeId) (a b c d : Value) : Sem Value := Instr.build e #[(0, a), (1, b), (2, c), (3, d)]
@[go_sem ↓ high] theorem execOp_build4 {P : Program} {ρ : Operand → Value} {w : World} {dst : Option Tmp} {ty : TypeId} {pos : String} {after : Array Edge} {guard : Option (Nat × Bool)} (e : TypeId) (a b c d : Operand) : (execOp ρ ⟨dst, .build e #[(0, a), (1, b), (2, c), (3, d)], ty, pos, after, guard⟩).run P w = ((buildAt4 e (ρ a) (ρ b) (ρ c) (ρ d)).run P w).andThen fun v w' => .ok (.value v) w' := by simp [execOp, buildAt4]
@[go_sem high] theorem build4 (a b c d : BitVec 32) (w : World) : (buildAt4 205 (v32 a) (v32 b) (v32 c) (v32 d)).run Tryz.prog w = .ok (.agg (A32 [a, b, c, d])) w := by kernel_rfl
theorem refMix_any (s : List (BitVec 32)) (r : Int) (w : World) (hs : s.length = 16) (hr0 : 0 ≤ r) (hr : r ≤ 20) :
  Calls Tryz.prog 134 #[.agg (A32 s), .int .i64 r] w fun e w' => e = .returned (.agg (A32 (mixTo s (r.toNat / 2)))) ∧ Below w.heap.size w w' := by
 obtain ⟨W, hW⟩ : ∃ W, (w.alloc (.cells (A32 s) 180)).alloc (.cells (A32 (zeros 32 16)) 180) = W := ⟨_, rfl⟩
 obtain ⟨b0, z0, hb, hz⟩ := new2 _ _ _ _ _ _ hW
 have K0 := hid b0
 have Z0 := hid z0
 have B0 := hid hb
 have hPs : PL.size = 32 := rfl
 have hPo : ones PL = true := by rw [PL_lit]; simp [ones, Value.oneCell']
 obtain ⟨N, hN⟩ : ∃ N, N = r.toNat / 2 := ⟨_, rfl⟩
 have hrN : r / 2 = (N : Int) := by omega
 have HN := hid hN
 have HS := hid hs
 clear b0 z0 hb hz hN hs
 go_enter Tryz.func134, Tryz.ntmps134
 go_wp2_with fail
 refine (places_any W).mono ?_
 rintro e w1 ⟨rfl, hb1⟩
 go_upto_region 2 with fail
 have K1 := hid ((K0.out.belowAll hb1).alloc (.cells PL 208))
 have Z1 := hid ((Z0.out.belowAll hb1).alloc (.cells PL 208))
 have T1 := hid (Blk.new w1 208 PL)
 have hB1 := B0.out.trans (hb1.mono B0.out.size)
 have B1 := hid (hB1.alloc hB1.size (.cells PL 208))
 have hz := (Z0.out.belowAll hb1).lt
 clear hW hb1 hB1 K0 Z0 B0 hPs hPo
 generalize w1.alloc (.cells PL 208) = W1 at *
 generalize w1.heap.size = pT at *
 go_wp2_with fail
 go_loopw [6] (fun i wr => ∃ n : Nat, n ≤ N ∧ i = .int .i64 n ∧ Blk wr w.heap.size 180 (A32 (mixTo s n)) ∧ Blk wr (w.heap.size + 1) 180 (A32 (zeros 32 16)) ∧ Blk wr pT 208 PL ∧ Below w.heap.size w wr) (fun i _ => N - (intOf i).toNat)
 case atStart => exact ⟨0, Nat.zero_le _, rfl, K1.out, Z1.out, T1.out, B1.out⟩
 case round =>
  obtain ⟨n, hn, rfl, hK, hZ, hT, hB⟩ := hrel
  have K2 := hid hK
  have Z2 := hid hZ
  have T2 := hid hT
  have B2 := hid hB
  clear hK hZ hT hB K1 Z1 T1 B1
  by_cases hnN : n < N
  ·have n1 : (n : Int) < (N : Int) := by omega
   obtain ⟨st, hst⟩ : ∃ st, st = mixTo s n := ⟨_, rfl⟩
   have hsl : st.length = 16 := by rw [hst, mixTo_length, HS.out]
   have HST := hid hst
   have HSL := hid hsl
   rw [← hst] at K2
   clear hst hsl
   go_wp2_with fail
   go_loopw [7] (fun i wz => ∃ k : Nat, k ≤ 8 ∧ i = .int .i64 k ∧ Blk wz w.heap.size 180 (A32 (roundR st k)) ∧ Blk wz (w.heap.size + 1) 180 (A32 (zeros 32 16)) ∧ Blk wz pT 208 PL ∧ Below w.heap.size w wz) (fun i _ => 8 - (intOf i).toNat)
   case atStart => exact ⟨0, Nat.zero_le _, rfl, K2.out, Z2.out, T2.out, B2.out⟩
   case round =>
    obtain ⟨k, hk, rfl, hK, hZ, hT, hB⟩ := hrel
    have K3 := hid hK
    have Z3 := hid hZ
    have T3 := hid hT
    have B3 := hid hB
    clear hK hZ hT hB K2 Z2 T2 B2
    by_cases hk8 : k < 8
    ·have k1 : (k : Int) < 8 := by omega
     have k0 : (0 : Int) ≤ (k : Int) := by omega
     obtain ⟨sk, hsk⟩ : ∃ sk, sk = roundR st k := ⟨_, rfl⟩
     have hkl : sk.length = 16 := by rw [hsk, roundR_length, HSL.out]
     rw [← hsk] at K3
     have HSK := hid hsk
     have HKL := hid hkl
     clear hsk hkl
     have tab : ∀ (wx : World), Blk wx pT 208 PL → ∀ j, j < 4 → wx.cell? ⟨pT, k * 4 + j, none⟩ = some (.int .i64 (placeAt k j)) := by
      intro wx hx j hj
      rw [hx.cell, Nat.mul_comm, PL_get k j hk8 hj]
     have HT := hid tab
     have l0 := placeAt_lt ⟨k, hk8⟩ ⟨0, by omega⟩
     have l1 := placeAt_lt ⟨k, hk8⟩ ⟨1, by omega⟩
     have l2 := placeAt_lt ⟨k, hk8⟩ ⟨2, by omega⟩
     have l3 := placeAt_lt ⟨k, hk8⟩ ⟨3, by omega⟩
     simp only at l0 l1 l2 l3
     obtain ⟨p0, e0⟩ : ∃ p, p = placeAt k 0 := ⟨_, rfl⟩
     obtain ⟨p1, e1⟩ : ∃ p, p = placeAt k 1 := ⟨_, rfl⟩
     obtain ⟨p2, e2⟩ : ∃ p, p = placeAt k 2 := ⟨_, rfl⟩
     obtain ⟨p3, e3⟩ : ∃ p, p = placeAt k 3 := ⟨_, rfl⟩
     rw [← e0] at l0
     rw [← e1] at l1
     rw [← e2] at l2
     rw [← e3] at l3
     have E0 := hid e0
     have E1 := hid e1
     have E2 := hid e2
     have E3 := hid e3
     clear e0 e1 e2 e3 tab
     have i0 : (p0 : Int) < 16 := by omega
     have i1 : (p1 : Int) < 16 := by omega
     have i2 : (p2 : Int) < 16 := by omega
     have i3 : (p3 : Int) < 16 := by omega
     go_upto_region 8 with fail
     refine wp_region_made (0 :: 0 :: 0 :: 1 :: 0 :: 1 :: 0 :: 0 :: 0 :: 1 :: 0 :: 1 :: 0 :: 0 :: 0 :: 1 :: 0 :: 1 :: 0 :: 0 :: 0 :: 1 :: 0 :: 1 :: 0 :: 1 :: 9 :: []) [2] [(26, .cells (A32 (zeros 32 4)) 205)] (by kernel_rfl) (by kernel_rfl) (by kernel_rfl) (by kernel_rfl) ?_ (fun C hC0 hCb hCn K' hK' => ?_)
     ·intro p hp o ho
      simp only [List.mem_singleton] at hp
      subst hp
      simp at ho
      subst ho
      exact ⟨rfl, fun a w => by go_simp⟩
     have TC0 : ∀ w1, C w1 → w1.cell? ⟨pT, k * 4, none⟩ = some (.int .i64 (p0 : Int)) := fun w1 h => by rw [E0.out]; exact HT.out w1 (T3.out.drew.belowAll (hCb w1 h)) 0 (by omega)
     have SC0 : ∀ w1, C w1 → w1.cell? ⟨w.heap.size, p0, none⟩ = some (v32 (nth sk p0)) := fun w1 h => (K3.out.drew.belowAll (hCb w1 h)).cell32 HKL.out p0 l0
     have TC1 : ∀ w1, C w1 → w1.cell? ⟨pT, k * 4 + 1, none⟩ = some (.int .i64 (p1 : Int)) := fun w1 h => by rw [E1.out]; exact HT.out w1 (T3.out.drew.belowAll (hCb w1 h)) 1 (by omega)
     have SC1 : ∀ w1, C w1 → w1.cell? ⟨w.heap.size, p1, none⟩ = some (v32 (nth sk p1)) := fun w1 h => (K3.out.drew.belowAll (hCb w1 h)).cell32 HKL.out p1 l1
     have TC2 : ∀ w1, C w1 → w1.cell? ⟨pT, k * 4 + 2, none⟩ = some (.int .i64 (p2 : Int)) := fun w1 h => by rw [E2.out]; exact HT.out w1 (T3.out.drew.belowAll (hCb w1 h)) 2 (by omega)
     have SC2 : ∀ w1, C w1 → w1.cell? ⟨w.heap.size, p2, none⟩ = some (v32 (nth sk p2)) := fun w1 h => (K3.out.drew.belowAll (hCb w1 h)).cell32 HKL.out p2 l2
     have TC3 : ∀ w1, C w1 → w1.cell? ⟨pT, k * 4 + 3, none⟩ = some (.int .i64 (p3 : Int)) := fun w1 h => by rw [E3.out]; exact HT.out w1 (T3.out.drew.belowAll (hCb w1 h)) 3 (by omega)
     have SC3 : ∀ w1, C w1 → w1.cell? ⟨w.heap.size, p3, none⟩ = some (v32 (nth sk p3)) := fun w1 h => (K3.out.drew.belowAll (hCb w1 h)).cell32 HKL.out p3 l3
     repeat
      first
       | (with_reducible refine y_made ?_)
       | ((with_reducible refine y_obl (v := ?_) (a' := ?_) ?_ (fun _ => ?_) ?_ ?_); rotate_left; rotate_left; (focus (exact rfl)); (focus (go_simp; (try go_bits); exact rfl)); (focus (simp only [Act.put, zz1, zz2, zz3, Act.eval, zz4, zz5, zz6, zz7, zz8]; exact rfl)))
       | ((with_reducible refine y_read (v := ?_) (a' := ?_) ?_ (fun _ hcw => ?_) ?_ ?_); rotate_left; rotate_left; (focus (exact rfl)); (focus (have t0 := TC0 _ hcw; have s0 := SC0 _ hcw; have t1 := TC1 _ hcw; have s1 := SC1 _ hcw; have t2 := TC2 _ hcw; have s2 := SC2 _ hcw; have t3 := TC3 _ hcw; have s3 := SC3 _ hcw; go_simp; (try go_bits); exact rfl)); (focus (simp only [Act.put, zz1, zz2, zz3, Act.eval, zz4, zz5, zz6, zz7, zz8]; exact rfl)))
       | ((with_reducible refine y_skip (a' := ?_) ?_ ?_ ?_); rotate_left; (focus (exact rfl)); (focus (simp only [Act.put, zz1, zz2, zz3, Act.eval, zz4, zz5, zz6, zz7, zz8]; exact rfl)))
       | ((with_reducible refine y_skip1 (a' := ?_) ?_ ?_ ?_); rotate_left; (focus (exact rfl)); (focus (simp only [Act.put, zz1, zz2, zz3, Act.eval, zz4, zz5, zz6, zz7, zz8]; exact rfl)))
     ((with_reducible refine y_call (v := ?_) (a' := ?_) ?_ (fun wq hcw => ?_) ?_ ?_); rotate_left; rotate_left)
     ·exact rfl
     ·go_simp
      refine entersB_of ?_
      exact refQuarter_any (nth sk p0) (nth sk p1) (nth sk p2) (nth sk p3) wq
     ·(simp only [Act.put, zz1, zz2, zz3, Act.eval, zz4, zz5, zz6, zz7, zz8]; exact rfl)
     repeat
      first
       | (with_reducible refine y_made ?_)
       | ((with_reducible refine y_obl (v := ?_) (a' := ?_) ?_ (fun _ => ?_) ?_ ?_); rotate_left; rotate_left; (focus (exact rfl)); (focus (go_simp; (try go_bits); exact rfl)); (focus (simp only [Act.put, zz1, zz2, zz3, Act.eval, zz4, zz5, zz6, zz7, zz8]; exact rfl)))
       | ((with_reducible refine y_read (v := ?_) (a' := ?_) ?_ (fun _ hcw => ?_) ?_ ?_); rotate_left; rotate_left; (focus (exact rfl)); (focus (have t0 := TC0 _ hcw; have s0 := SC0 _ hcw; have t1 := TC1 _ hcw; have s1 := SC1 _ hcw; have t2 := TC2 _ hcw; have s2 := SC2 _ hcw; have t3 := TC3 _ hcw; have s3 := SC3 _ hcw; go_simp; (try go_bits); exact rfl)); (focus (simp only [Act.put, zz1, zz2, zz3, Act.eval, zz4, zz5, zz6, zz7, zz8]; exact rfl)))
       | ((with_reducible refine y_skip (a' := ?_) ?_ ?_ ?_); rotate_left; (focus (exact rfl)); (focus (simp only [Act.put, zz1, zz2, zz3, Act.eval, zz4, zz5, zz6, zz7, zz8]; exact rfl)))
       | ((with_reducible refine y_skip1 (a' := ?_) ?_ ?_ ?_); rotate_left; (focus (exact rfl)); (focus (simp only [Act.put, zz1, zz2, zz3, Act.eval, zz4, zz5, zz6, zz7, zz8]; exact rfl)))
     refine y_nil (fin_one fun g wa hgW hcw hg => ?_)
     simp only [Act.put, zz1, zz2, zz3, zz6, zz7, Option.bind_some]
     have hg' : Blk wa g 205 (A32 (zeros 32 4)) := hg
     obtain ⟨qq, hqq⟩ : ∃ qq, qq = quarterL (nth sk p0) (nth sk p1) (nth sk p2) (nth sk p3) := ⟨_, rfl⟩
     have hql : qq.length = 4 := by rw [hqq]; rfl
     rw [show [(quarter (nth sk p0) (nth sk p1) (nth sk p2) (nth sk p3)).1, (quarter (nth sk p0) (nth sk p1) (nth sk p2) (nth sk p3)).2.1, (quarter (nth sk p0) (nth sk p1) (nth sk p2) (nth sk p3)).2.2.1, (quarter (nth sk p0) (nth sk p1) (nth sk p2) (nth sk p3)).2.2.2] = qq from hqq.symm]
     refine z_storeRow hg' rfl rfl (by rw [A32_size, A32_size, hql, zeros_length]) (A32_ones _) (by rw [A32_size, hql]; exact Tryz.sizeOf205 _) (fun wb hbb hgb hsb => ?_)
     refine z_nil (hK' _ _ ?_)
     have e1 := hCb wa hcw
     have hgw' : wr.drew.heap.size ≤ g := by simpa using hgW
     have d1 : Below wr.drew.heap.size wr.drew wb := e1.trans (grown_below hgb hgw' e1.size)
     have K4 := hid (K3.out.drew.belowAll d1)
     have Z4 := hid (Z3.out.drew.belowAll d1)
     have T4 := hid (T3.out.drew.belowAll d1)
     have B4 := hid (B3.out.drew.trans (d1.mono B3.out.size))
     have Q4 := hid hbb
     have HQ := hid hqq
     have HQL := hid hql
     have hgs : w.heap.size + 1 < g := by have h1 : w.heap.size + 1 < wr.drew.heap.size := Z3.out.lt; omega
     have hgT : pT < g := by have h1 : pT < wr.drew.heap.size := T3.out.lt; omega
     clear hC0 hCb hCn TC0 TC1 TC2 TC3 SC0 SC1 SC2 SC3 hg hg' hgb hsb e1 d1 hgw' hgW hbb hqq hql hcw K3 Z3 T3 B3 hK'
     go_wp2_with fail
     go_loopw [9] (fun i wy => ∃ j : Nat, j ≤ 4 ∧ i = .int .i64 j ∧ Blk wy w.heap.size 180 (A32 (layR sk qq k j)) ∧ Blk wy (w.heap.size + 1) 180 (A32 (zeros 32 16)) ∧ Blk wy pT 208 PL ∧ Blk wy g 205 (A32 qq) ∧ Below w.heap.size w wy) (fun i _ => 4 - (intOf i).toNat)
     case atStart => exact ⟨0, Nat.zero_le _, rfl, K4.out, Z4.out, T4.out, Q4.out, B4.out⟩
     case round =>
      obtain ⟨j, hj, rfl, hK, hZ, hT, hQ, hB⟩ := hrel
      have K5 := hid hK
      have Z5 := hid hZ
      have T5 := hid hT
      have Q5 := hid hQ
      have B5 := hid hB
      clear hK hZ hT hQ hB K4 Z4 T4 Q4 B4
      by_cases hj4 : j < 4
      ·have j1 : (j : Int) < 4 := by omega
       have j0 : (0 : Int) ≤ (j : Int) := by omega
       have lp := placeAt_lt ⟨k, hk8⟩ ⟨j, hj4⟩
       simp only at lp
       obtain ⟨p, ep⟩ : ∃ p, p = placeAt k j := ⟨_, rfl⟩
       have tj : wr.drew.cell? ⟨pT, k * 4 + j, none⟩ = some (.int .i64 (p : Int)) := by rw [ep]; exact HT.out _ T5.out j hj4
       have qj := Q5.out.drew.cell32 HQL.out j hj4
       rw [← ep] at lp
       have EP := hid ep
       clear ep
       have ip : (p : Int) < 16 := by omega
       have ip0 : (0 : Int) ≤ (p : Int) := by omega
       go_upto_region 12 with fail
       refine wp_region_text3' [0,0,0,0,1,0,0,1,0,2] (by kernel_rfl) (by kernel_rfl) (fun ops' K2 hK2 => ?_)
       repeat
        (first
         | (with_reducible refine z_move (a' := ?_) ?_ ?_); rotate_left
         | (with_reducible refine z_assign (a' := ?_) ?_ ?_); rotate_left
         | (with_reducible refine z_obl (v := ?_) (a' := ?_) rfl (fun _ => ?_) ?_ ?_); rotate_left 2; (focus (go_simp; (try go_bits); exact rfl))
         | (with_reducible refine z_read (v := ?_) (a' := ?_) rfl ?_ ?_ ?_); rotate_left 2; (focus (go_simp; (try go_bits); exact rfl)))
        focus (simp only [Act.put, zz1, zz2, zz3, Act.eval, zz4, zz5, zz6, zz7, zz8]; exact rfl)
       refine z_store32 K5.out.drew rfl rfl (by rw [layR_length, HKL.out]; exact lp) (Tryz.sizeOf132 _) (fun wc hbc hgc hsc => ?_)
       refine z_nil (hK2 _ _ ?_)
       rw [EP.out] at hbc
       have K6 := hid (show Blk wc w.heap.size 180 (A32 (layR sk qq k (j + 1))) from hbc)
       have Z6 := hid (Z5.out.drew.grown hgc (by simp))
       have T6 := hid (T5.out.drew.grown hgc (by simp; omega))
       have Q6 := hid (Q5.out.drew.grown hgc (by simp; omega))
       have B6 := hid (B5.out.drew.trans (grown_below hgc (Nat.le_refl _) B5.out.size))
       clear hbc hgc hsc tj qj
       go_wp2
       exact ⟨⟨j + 1, by omega, by go_num, K6.out, Z6.out, T6.out, Q6.out, B6.out⟩, by simp [intOf]; omega⟩
      ·obtain rfl : j = 4 := by omega
       have hfin : layR sk qq k 4 = roundR st (k + 1) := by
        rw [HQ.out, E0.out, E1.out, E2.out, E3.out, HSK.out]
        exact layR_round st k
       have K6 := K5.out
       rw [hfin] at K6
       have K6 := hid K6
       clear hfin
       go_wp2
       exact ⟨⟨k + 1, by omega, by go_num, K6.out, Z5.out, T5.out, B5.out⟩, by simp [intOf]; omega⟩
    ·obtain rfl : k = 8 := by omega
     have K6 := K3.out
     rw [roundR_twice, HST.out] at K6
     have K6 := hid (show Blk wr w.heap.size 180 (A32 (mixTo s (n + 1))) from K6)
     go_wp2
     exact ⟨⟨n + 1, by omega, by go_num, K6.out, Z3.out, T3.out, B3.out⟩, by simp [intOf]; omega⟩
  ·obtain rfl : n = N := by omega
   have r1 := K2.out.row
   have r2 := Z2.out.row
   have r3 := Z2.out.whole
   have hl : (mixTo s n).length = 16 := by rw [mixTo_length, HS.out]
   go_wp2
   refine bodyPost_row (A32 (mixTo s n)) rfl rfl rfl (Tryz.isAgg180 _) (Tryz.sizeOf180 _) (by rw [A32_size]; exact hl) (rowAt_setRow _ r3) ⟨by rw [← HN.out], below_setRow B2.out (by omega) _⟩
end Go.Proofs.YtfdkmjegcghieaaGreatDoor
