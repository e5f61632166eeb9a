/- turn by definition: the steps of a round; rounds there and back -/
import Derived.Test.YtfdkmjegcghieaaGreatDoorRg3
import Derived.Test.YtfdkmjegcghieaaGreatDoorAes3
import Derived.Test.YtfdkmjegcghieaaGreatDoorGo
namespace Go.Proofs.YtfdkmjegcghieaaGreatDoor
open Go.RowKit
set_option linter.unusedSimpArgs false in
set_option maxRecDepth 100000 in
theorem refSixteen_any (a b : List (BitVec 8)) (w : World) (ha : a.length = 16) (hb16 : b.length = 16) :
    Calls Tryz.prog 33 #[.agg (A8 a), .agg (A8 b)] w fun e w' => e = .returned (.agg (A8 (xor16 a b))) ∧ Below w.heap.size w w' := by
  obtain ⟨W, hW⟩ : ∃ W, (((w.alloc (.cells (A8 a) 37)).alloc (.cells (A8 b) 37)).alloc (.cells (A8 (zeros 8 16)) 37)).alloc (.cells (A8 (zeros 8 16)) 37) = W := ⟨_, rfl⟩
  obtain ⟨b0, b1, b2, b3, hb, hz⟩ := new4 _ _ _ _ _ _ _ _ _ _ hW
  have P0 := Lib.hid b0
  have Q0 := Lib.hid b1
  have K0 := Lib.hid b2
  have Z0 := Lib.hid b3
  have B0 := Lib.hid hb
  clear b0 b1 b2 b3 hb hz
  go_enter Tryz.func33, Tryz.ntmps33
  go_wp2_with fail
  clear hW
  go_loopw [6] (fun i wr => ∃ j : Nat, j ≤ 16 ∧ i = .int .i64 j ∧ Blk wr w.heap.size 37 (A8 a) ∧ Blk wr (w.heap.size + 1) 37 (A8 b) ∧ Blk wr (w.heap.size + 2) 37 (A8 (zeros 8 16)) ∧ Blk wr (w.heap.size + 3) 37 (A8 (fillN 16 (xor16 a b) j)) ∧ Below w.heap.size w wr) (fun i _ => 16 - (intOf i).toNat)
  case atStart => exact ⟨0, by omega, rfl, P0.out, Q0.out, K0.out, by rw [fillN_zero]; exact Z0.out, B0.out⟩
  case round =>
    obtain ⟨j, hj, rfl, hP, hQ, hK, hZ, hB⟩ := hrel
    have P1 := Lib.hid hP
    have Q1 := Lib.hid hQ
    have K1 := Lib.hid hK
    have Z1 := Lib.hid hZ
    have B1 := Lib.hid hB
    clear hP hQ hK hZ hB P0 Q0 K0 Z0 B0
    by_cases hj16 : j < 16
    · have j1 : (j : Int) < 16 := by omega
      have j0 : (0 : Int) ≤ (j : Int) := by omega
      have c1 := P1.out.drew.cell8 ha j hj16
      have c2 := Q1.out.drew.cell8 hb16 j hj16
      have hv : nth (xor16 a b) j = nth a j ^^^ nth b j := nth_r16 _ j hj16
      have HV := Lib.hid hv
      clear hv
      go_upto_region 5 with fail
      refine wp_region_text3' [0,0,0,1,0,0,1,0,0,2] (by kernel_rfl) (by kernel_rfl) (fun ops' K2 hK2 => ?_)
      repeat
        first
          | ((with_reducible refine z_move (a' := ?_) ?_ ?_); rotate_left; · (simp only [Act.put, List.setIfInBounds_toArray, List.set_cons_succ, List.set_cons_zero, Act.eval, Array.getD_eq_getD_getElem?, List.getElem?_toArray, List.getElem?_cons_succ, List.getElem?_cons_zero, Option.getD_some]; exact rfl))
          | ((with_reducible refine z_assign (a' := ?_) ?_ ?_); rotate_left; · (simp only [Act.put, List.setIfInBounds_toArray, List.set_cons_succ, List.set_cons_zero, Act.eval, Array.getD_eq_getD_getElem?, List.getElem?_toArray, List.getElem?_cons_succ, List.getElem?_cons_zero, Option.getD_some]; exact rfl))
          | ((with_reducible refine z_obl (v := ?_) (a' := ?_) rfl (fun _ => ?_) ?_ ?_); rotate_left; rotate_left; (focus (go_simp; (try go_bits); exact rfl)); (focus (simp only [Act.put, List.setIfInBounds_toArray, List.set_cons_succ, List.set_cons_zero, Act.eval, Array.getD_eq_getD_getElem?, List.getElem?_toArray, List.getElem?_cons_succ, List.getElem?_cons_zero, Option.getD_some]; exact rfl)))
          | ((with_reducible refine z_read (v := ?_) (a' := ?_) rfl ?_ ?_ ?_); rotate_left; rotate_left; (focus (go_simp; (try go_bits); exact rfl)); (focus (simp only [Act.put, List.setIfInBounds_toArray, List.set_cons_succ, List.set_cons_zero, Act.eval, Array.getD_eq_getD_getElem?, List.getElem?_toArray, List.getElem?_cons_succ, List.getElem?_cons_zero, Option.getD_some]; exact rfl)))
      refine z_store8 Z1.out.drew rfl rfl (by rw [fillN_length]; omega) (Tryz.sizeOf5 _) (fun w1 k1 g1 s1 => ?_)
      refine z_nil (hK2 _ _ ?_)
      rw [← HV.out, fillN_set 16 _ j hj16] at k1
      have P2 := Lib.hid (P1.out.drew.grown g1 (by simp))
      have Q2 := Lib.hid (Q1.out.drew.grown g1 (by simp))
      have K2' := Lib.hid (K1.out.drew.grown g1 (by simp))
      have Z2 := Lib.hid k1
      have B2 := Lib.hid (B1.out.drew.trans (grown_below g1 (by omega) B1.out.drew.size))
      clear c1 c2 k1 g1 s1 hK2
      go_wp2
      exact ⟨⟨j + 1, by omega, by go_num, P2.out, Q2.out, K2'.out, Z2.out, B2.out⟩, by simp [intOf]; omega⟩
    · obtain rfl : j = 16 := by omega
      have zz := Z1.out
      rw [fillN_full 16 _ (xor16_length a b)] at zz
      have r1 := zz.row
      have r2 := K1.out.row
      have r3 := K1.out.whole
      clear zz
      go_wp2
      refine bodyPost_row (A8 (xor16 a b)) rfl rfl rfl (Tryz.isAgg37 _) (Tryz.sizeOf37 _) (by rw [A8_size]; exact xor16_length a b) (rowAt_setRow _ r3) ⟨rfl, below_setRow B1.out (by omega) _⟩
theorem upd_sub (f : BitVec 8 → BitVec 8) (b : List (BitVec 8)) (h : b.length = 16) : upd (fun i => f (nth b i)) b 16 = sub16 f b := by
  apply ext_nth
  · rw [sub16_length]; simp [upd, h]
  · intro i hi
    have hi16 : i < 16 := by simpa [upd, h] using hi
    rw [nth_upd _ _ _ _ (by omega), if_pos hi16, sub16, nth_r16 _ i hi16]
set_option linter.unusedSimpArgs false in
set_option maxRecDepth 100000 in
set_option maxHeartbeats 800000 in
theorem refsub_any (f : BitVec 8 → BitVec 8) (T b : List (BitVec 8)) (w : World) (hTl : T.length = 256) (hT : ∀ v : BitVec 8, nth T v.toNat = f v) (hb16 : b.length = 16) :
    Calls Tryz.prog 115 #[.agg (A8 T), .agg (A8 b)] w fun e w' => e = .returned (.agg (A8 (sub16 f b))) ∧ Below w.heap.size w w' := by
  obtain ⟨W, hW⟩ : ∃ W, ((w.alloc (.cells (A8 T) 33)).alloc (.cells (A8 b) 37)).alloc (.cells (A8 (zeros 8 16)) 37) = W := ⟨_, rfl⟩
  obtain ⟨b0, b1, b2, hb, hz⟩ := new3 _ _ _ _ _ _ _ _ hW
  have P0 := Lib.hid b0
  have Q0 := Lib.hid b1
  have K0 := Lib.hid b2
  have B0 := Lib.hid hb
  have HT := Lib.hid hT
  clear b0 b1 b2 hb hz hT
  go_enter Tryz.func115, Tryz.ntmps115
  go_wp2_with fail
  clear hW
  go_loopw [5] (fun i wr => ∃ j : Nat, j ≤ 16 ∧ i = .int .i64 j ∧ Blk wr w.heap.size 33 (A8 T) ∧ Blk wr (w.heap.size + 1) 37 (A8 (upd (fun i => f (nth b i)) b j)) ∧ Blk wr (w.heap.size + 2) 37 (A8 (zeros 8 16)) ∧ Below w.heap.size w wr) (fun i _ => 16 - (intOf i).toNat)
  case atStart => exact ⟨0, by omega, rfl, P0.out, by rw [upd_zero]; exact Q0.out, K0.out, B0.out⟩
  case round =>
    obtain ⟨j, hj, rfl, hP, hQ, hK, hB⟩ := hrel
    have P1 := Lib.hid hP
    have Q1 := Lib.hid hQ
    have K1 := Lib.hid hK
    have B1 := Lib.hid hB
    clear hP hQ hK hB P0 Q0 K0 B0
    have hul : (upd (fun i => f (nth b i)) b j).length = 16 := by simp [upd, hb16]
    by_cases hj16 : j < 16
    · have j1 : (j : Int) < 16 := by omega
      have j0 : (0 : Int) ≤ (j : Int) := by omega
      obtain ⟨y, hy⟩ : ∃ y, y = nth b j := ⟨_, rfl⟩
      have c1 := Q1.out.cell8 hul j hj16
      rw [upd_at _ _ _ (by omega), ← hy] at c1
      have hyl := y.isLt
      have c2 := P1.out.cell8 hTl y.toNat (by omega)
      rw [HT.out y] at c2
      have fo := Q1.out.frozen j
      have kk := Q1.out.set_ j (v8 (f y))
      rw [A8_set, hy, upd_set (fun i => f (nth b i)) b j (by omega), ← hy] at kk
      have P2 := Lib.hid (P1.out.far (p := ⟨w.heap.size + 1, j, none⟩) (by simp) (v8 (f y)))
      have Q2 := Lib.hid kk
      have K2 := Lib.hid (K1.out.far (p := ⟨w.heap.size + 1, j, none⟩) (by simp) (v8 (f y)))
      have B2 := Lib.hid (B1.out.setCell (p := ⟨w.heap.size + 1, j, none⟩) (by simp) (v8 (f y)))
      obtain ⟨z, hz⟩ : ∃ z, z = f y := ⟨_, rfl⟩
      rw [← hz] at c2 P2 Q2 K2 B2
      clear kk P1 Q1 K1 B1 hy hz
      go_wp2
      exact ⟨⟨j + 1, by omega, by go_num, P2.out, Q2.out, K2.out, B2.out⟩, by simp [intOf]; omega⟩
    · obtain rfl : j = 16 := by omega
      have zz := Q1.out
      rw [upd_sub f b hb16] at zz
      have r1 := zz.row
      have r2 := K1.out.row
      have r3 := K1.out.whole
      clear zz
      go_wp2
      refine bodyPost_row (A8 (sub16 f b)) rfl rfl rfl (Tryz.isAgg37 _) (Tryz.sizeOf37 _) (by rw [A8_size]; exact sub16_length f b) (rowAt_setRow _ r3) ⟨rfl, below_setRow B1.out (by omega) _⟩
set_option linter.unusedSimpArgs false in
set_option maxRecDepth 100000 in
set_option maxHeartbeats 800000 in
theorem refshiftL_any (b : List (BitVec 8)) (w : World) (hb16 : b.length = 16) :
    Calls Tryz.prog 114 #[.agg (A8 b), .bool false] w fun e w' => e = .returned (.agg (A8 (shift16 b))) ∧ Below w.heap.size w w' := by
  obtain ⟨W, hW⟩ : ∃ W, ((w.alloc (.cells (A8 b) 37)).alloc (.cells (A8 (zeros 8 16)) 37)).alloc (.cells (A8 (zeros 8 16)) 37) = W := ⟨_, rfl⟩
  obtain ⟨b0, b1, b2, hb, hz⟩ := new3 _ _ _ _ _ _ _ _ hW
  have P0 := Lib.hid b0
  have K0 := Lib.hid b1
  have Z0 := Lib.hid b2
  have B0 := Lib.hid hb
  clear b0 b1 b2 hb hz
  go_enter Tryz.func114, Tryz.ntmps114
  go_wp2_with fail
  clear hW
  go_loopw [6] (fun i wr => ∃ j : Nat, j ≤ 16 ∧ i = .int .i64 j ∧ Blk wr w.heap.size 37 (A8 b) ∧ Blk wr (w.heap.size + 1) 37 (A8 (zeros 8 16)) ∧ Blk wr (w.heap.size + 2) 37 (A8 (fillN 16 (shift16 b) j)) ∧ Below w.heap.size w wr) (fun i _ => 16 - (intOf i).toNat)
  case atStart => exact ⟨0, by omega, rfl, P0.out, K0.out, by rw [fillN_zero]; exact Z0.out, B0.out⟩
  case round =>
    obtain ⟨j, hj, rfl, hP, hK, hZ, hB⟩ := hrel
    have P1 := Lib.hid hP
    have K1 := Lib.hid hK
    have Z1 := Lib.hid hZ
    have B1 := Lib.hid hB
    clear hP hK hZ hB P0 K0 Z0 B0
    by_cases hj16 : j < 16
    · have j1 : (j : Int) < 16 := by omega
      have j0 : (0 : Int) ≤ (j : Int) := by omega
      obtain ⟨r, hr⟩ : ∃ r, r = j % 4 := ⟨_, rfl⟩
      obtain ⟨q, hq⟩ : ∃ q, q = j / 4 := ⟨_, rfl⟩
      obtain ⟨s4, hs4⟩ : ∃ s, s = q + 4 := ⟨_, rfl⟩
      obtain ⟨s, hs⟩ : ∃ s, s = q + r := ⟨_, rfl⟩
      obtain ⟨d, hd⟩ : ∃ s, s = q + 4 - r := ⟨_, rfl⟩
      obtain ⟨t, ht⟩ : ∃ s, s = (q + r) % 4 := ⟨_, rfl⟩
      obtain ⟨t', ht'⟩ : ∃ s, s = (q + 4 - r) % 4 := ⟨_, rfl⟩
      obtain ⟨u, hu⟩ : ∃ s, s = 4 * ((q + r) % 4) := ⟨_, rfl⟩
      obtain ⟨u', hu'⟩ : ∃ s, s = 4 * ((q + 4 - r) % 4) := ⟨_, rfl⟩
      obtain ⟨p, hp⟩ : ∃ s, s = 4 * ((q + r) % 4) + r := ⟨_, rfl⟩
      obtain ⟨p', hp'⟩ : ∃ s, s = 4 * ((q + 4 - r) % 4) + r := ⟨_, rfl⟩
      have f1 : (j : Int) % 4 = (r : Int) := by omega
      have f2 : (j : Int) / 4 = (q : Int) := by omega
      have f3 : (q : Int) + (r : Int) = (s : Int) := by omega
      have f4 : (q : Int) + 4 = (s4 : Int) := by omega
      have f5 : (s4 : Int) - (r : Int) = (d : Int) := by omega
      have f6 : (s : Int) % 4 = (t : Int) := by omega
      have f7 : (d : Int) % 4 = (t' : Int) := by omega
      have f8 : (4 : Int) * (t : Int) = (u : Int) := by omega
      have f9 : (4 : Int) * (t' : Int) = (u' : Int) := by omega
      have g1 : (u : Int) + (r : Int) = (p : Int) := by omega
      have g2 : (u' : Int) + (r : Int) = (p' : Int) := by omega
      have i1 : IntKind.i64.wrap (q : Int) = (q : Int) := by rw [IntKind.wrap_i64]; omega
      have i2 : IntKind.i64.wrap (s : Int) = (s : Int) := by rw [IntKind.wrap_i64]; omega
      have i3 : IntKind.i64.wrap (s4 : Int) = (s4 : Int) := by rw [IntKind.wrap_i64]; omega
      have i4 : IntKind.i64.wrap (d : Int) = (d : Int) := by rw [IntKind.wrap_i64]; omega
      have i5 : IntKind.i64.wrap (u : Int) = (u : Int) := by rw [IntKind.wrap_i64]; omega
      have i6 : IntKind.i64.wrap (u' : Int) = (u' : Int) := by rw [IntKind.wrap_i64]; omega
      have i7 : IntKind.i64.wrap (p : Int) = (p : Int) := by rw [IntKind.wrap_i64]; omega
      have i8 : IntKind.i64.wrap (p' : Int) = (p' : Int) := by rw [IntKind.wrap_i64]; omega
      have pl : p < 16 := by omega
      have pl' : p' < 16 := by omega
      have pi : (p : Int) < 16 := by omega
      have pi' : (p' : Int) < 16 := by omega
      have pz : (0 : Int) ≤ (p : Int) := by omega
      have pz' : (0 : Int) ≤ (p' : Int) := by omega
      have c1 := P1.out.cell8 hb16 p pl
      have c2 := P1.out.cell8 hb16 p' pl'
      have hsh : shp j = p := by rw [hp, hq, hr]; rfl
      have hun : unshp j = p' := by rw [hp', hq, hr]; rfl
      have hv : nth (shift16 b) j = nth b (shp j) := nth_r16 _ j hj16
      have fo := Z1.out.frozen j
      have c3 := Z1.out.cell8 (fillN_length 16 _ j) j hj16
      have kk := Z1.out.set_ j (v8 (nth (shift16 b) j))
      rw [A8_set, fillN_set 16 _ j hj16] at kk
      have P2 := Lib.hid (P1.out.far (p := ⟨w.heap.size + 2, j, none⟩) (by simp) (v8 (nth (shift16 b) j)))
      have K2 := Lib.hid (K1.out.far (p := ⟨w.heap.size + 2, j, none⟩) (by simp) (v8 (nth (shift16 b) j)))
      have Z2 := Lib.hid kk
      have B2 := Lib.hid (B1.out.setCell (p := ⟨w.heap.size + 2, j, none⟩) (by simp) (v8 (nth (shift16 b) j)))
      rw [hv] at P2 K2 Z2 B2
      simp only [hsh, hun] at P2 K2 Z2 B2
      clear kk P1 K1 Z1 B1 hr hq hs4 hs hd ht ht' hu hu' hp hp' hv hsh hun
      go_wp2
      exact ⟨⟨j + 1, by omega, by go_num, P2.out, K2.out, Z2.out, B2.out⟩, by simp [intOf]; omega⟩
    · obtain rfl : j = 16 := by omega
      have zz := Z1.out
      rw [fillN_full 16 _ (shift16_length b)] at zz
      have r1 := zz.row
      have r2 := K1.out.row
      have r3 := K1.out.whole
      clear zz
      go_wp2
      refine bodyPost_row (A8 (shift16 b)) rfl rfl rfl (Tryz.isAgg37 _) (Tryz.sizeOf37 _) (by rw [A8_size]; exact shift16_length b) (rowAt_setRow _ r3) ⟨rfl, below_setRow B1.out (by omega) _⟩
set_option linter.unusedSimpArgs false in
set_option maxRecDepth 100000 in
set_option maxHeartbeats 800000 in
theorem refshiftR_any (b : List (BitVec 8)) (w : World) (hb16 : b.length = 16) :
    Calls Tryz.prog 114 #[.agg (A8 b), .bool true] w fun e w' => e = .returned (.agg (A8 (unshift16 b))) ∧ Below w.heap.size w w' := by
  obtain ⟨W, hW⟩ : ∃ W, ((w.alloc (.cells (A8 b) 37)).alloc (.cells (A8 (zeros 8 16)) 37)).alloc (.cells (A8 (zeros 8 16)) 37) = W := ⟨_, rfl⟩
  obtain ⟨b0, b1, b2, hb, hz⟩ := new3 _ _ _ _ _ _ _ _ hW
  have P0 := Lib.hid b0
  have K0 := Lib.hid b1
  have Z0 := Lib.hid b2
  have B0 := Lib.hid hb
  clear b0 b1 b2 hb hz
  go_enter Tryz.func114, Tryz.ntmps114
  go_wp2_with fail
  clear hW
  go_loopw [6] (fun i wr => ∃ j : Nat, j ≤ 16 ∧ i = .int .i64 j ∧ Blk wr w.heap.size 37 (A8 b) ∧ Blk wr (w.heap.size + 1) 37 (A8 (zeros 8 16)) ∧ Blk wr (w.heap.size + 2) 37 (A8 (fillN 16 (unshift16 b) j)) ∧ Below w.heap.size w wr) (fun i _ => 16 - (intOf i).toNat)
  case atStart => exact ⟨0, by omega, rfl, P0.out, K0.out, by rw [fillN_zero]; exact Z0.out, B0.out⟩
  case round =>
    obtain ⟨j, hj, rfl, hP, hK, hZ, hB⟩ := hrel
    have P1 := Lib.hid hP
    have K1 := Lib.hid hK
    have Z1 := Lib.hid hZ
    have B1 := Lib.hid hB
    clear hP hK hZ hB P0 K0 Z0 B0
    by_cases hj16 : j < 16
    · have j1 : (j : Int) < 16 := by omega
      have j0 : (0 : Int) ≤ (j : Int) := by omega
      obtain ⟨r, hr⟩ : ∃ r, r = j % 4 := ⟨_, rfl⟩
      obtain ⟨q, hq⟩ : ∃ q, q = j / 4 := ⟨_, rfl⟩
      obtain ⟨s4, hs4⟩ : ∃ s, s = q + 4 := ⟨_, rfl⟩
      obtain ⟨s, hs⟩ : ∃ s, s = q + r := ⟨_, rfl⟩
      obtain ⟨d, hd⟩ : ∃ s, s = q + 4 - r := ⟨_, rfl⟩
      obtain ⟨t, ht⟩ : ∃ s, s = (q + r) % 4 := ⟨_, rfl⟩
      obtain ⟨t', ht'⟩ : ∃ s, s = (q + 4 - r) % 4 := ⟨_, rfl⟩
      obtain ⟨u, hu⟩ : ∃ s, s = 4 * ((q + r) % 4) := ⟨_, rfl⟩
      obtain ⟨u', hu'⟩ : ∃ s, s = 4 * ((q + 4 - r) % 4) := ⟨_, rfl⟩
      obtain ⟨p, hp⟩ : ∃ s, s = 4 * ((q + r) % 4) + r := ⟨_, rfl⟩
      obtain ⟨p', hp'⟩ : ∃ s, s = 4 * ((q + 4 - r) % 4) + r := ⟨_, rfl⟩
      have f1 : (j : Int) % 4 = (r : Int) := by omega
      have f2 : (j : Int) / 4 = (q : Int) := by omega
      have f3 : (q : Int) + (r : Int) = (s : Int) := by omega
      have f4 : (q : Int) + 4 = (s4 : Int) := by omega
      have f5 : (s4 : Int) - (r : Int) = (d : Int) := by omega
      have f6 : (s : Int) % 4 = (t : Int) := by omega
      have f7 : (d : Int) % 4 = (t' : Int) := by omega
      have f8 : (4 : Int) * (t : Int) = (u : Int) := by omega
      have f9 : (4 : Int) * (t' : Int) = (u' : Int) := by omega
      have g1 : (u : Int) + (r : Int) = (p : Int) := by omega
      have g2 : (u' : Int) + (r : Int) = (p' : Int) := by omega
      have i1 : IntKind.i64.wrap (q : Int) = (q : Int) := by rw [IntKind.wrap_i64]; omega
      have i2 : IntKind.i64.wrap (s : Int) = (s : Int) := by rw [IntKind.wrap_i64]; omega
      have i3 : IntKind.i64.wrap (s4 : Int) = (s4 : Int) := by rw [IntKind.wrap_i64]; omega
      have i4 : IntKind.i64.wrap (d : Int) = (d : Int) := by rw [IntKind.wrap_i64]; omega
      have i5 : IntKind.i64.wrap (u : Int) = (u : Int) := by rw [IntKind.wrap_i64]; omega
      have i6 : IntKind.i64.wrap (u' : Int) = (u' : Int) := by rw [IntKind.wrap_i64]; omega
      have i7 : IntKind.i64.wrap (p : Int) = (p : Int) := by rw [IntKind.wrap_i64]; omega
      have i8 : IntKind.i64.wrap (p' : Int) = (p' : Int) := by rw [IntKind.wrap_i64]; omega
      have pl : p < 16 := by omega
      have pl' : p' < 16 := by omega
      have pi : (p : Int) < 16 := by omega
      have pi' : (p' : Int) < 16 := by omega
      have pz : (0 : Int) ≤ (p : Int) := by omega
      have pz' : (0 : Int) ≤ (p' : Int) := by omega
      have c1 := P1.out.cell8 hb16 p pl
      have c2 := P1.out.cell8 hb16 p' pl'
      have hsh : shp j = p := by rw [hp, hq, hr]; rfl
      have hun : unshp j = p' := by rw [hp', hq, hr]; rfl
      have hv : nth (unshift16 b) j = nth b (unshp j) := nth_r16 _ j hj16
      have fo := Z1.out.frozen j
      have c3 := Z1.out.cell8 (fillN_length 16 _ j) j hj16
      have kk := Z1.out.set_ j (v8 (nth (unshift16 b) j))
      rw [A8_set, fillN_set 16 _ j hj16] at kk
      have P2 := Lib.hid (P1.out.far (p := ⟨w.heap.size + 2, j, none⟩) (by simp) (v8 (nth (unshift16 b) j)))
      have K2 := Lib.hid (K1.out.far (p := ⟨w.heap.size + 2, j, none⟩) (by simp) (v8 (nth (unshift16 b) j)))
      have Z2 := Lib.hid kk
      have B2 := Lib.hid (B1.out.setCell (p := ⟨w.heap.size + 2, j, none⟩) (by simp) (v8 (nth (unshift16 b) j)))
      rw [hv] at P2 K2 Z2 B2
      simp only [hsh, hun] at P2 K2 Z2 B2
      clear kk P1 K1 Z1 B1 hr hq hs4 hs hd ht ht' hu hu' hp hp' hv hsh hun
      go_wp2
      exact ⟨⟨j + 1, by omega, by go_num, P2.out, K2.out, Z2.out, B2.out⟩, by simp [intOf]; omega⟩
    · obtain rfl : j = 16 := by omega
      have zz := Z1.out
      rw [fillN_full 16 _ (unshift16_length b)] at zz
      have r1 := zz.row
      have r2 := K1.out.row
      have r3 := K1.out.whole
      clear zz
      go_wp2
      refine bodyPost_row (A8 (unshift16 b)) rfl rfl rfl (Tryz.isAgg37 _) (Tryz.sizeOf37 _) (by rw [A8_size]; exact unshift16_length b) (rowAt_setRow _ r3) ⟨rfl, below_setRow B1.out (by omega) _⟩
end Go.Proofs.YtfdkmjegcghieaaGreatDoor
