/- ring: (*Table).Dot -/
import Derived.Test.YtfdkmjegcghieaaDoorWd3
import Derived.Test.YtfdkmjegcghieaaDoorWd5
namespace Go.Proofs.YtfdkmjegcghieaaDoor
open Go.RowKit
@[go_sem high] theorem buildB2_two (a b : BitVec 8) (w : World) : (buildB2 189 (v8 a) (v8 b)).run Tryd.prog w = .ok (.agg (A8 [a, b])) w := by kernel_rfl
theorem index_two0 (a b : BitVec 8) (w : World) : (Instr.index 189 (.agg (A8 [a, b])) (.int .i64 0)).run Tryd.prog w = .ok (v8 a) w := by kernel_rfl
theorem index_two1 (a b : BitVec 8) (w : World) : (Instr.index 189 (.agg (A8 [a, b])) (.int .i64 1)).run Tryd.prog w = .ok (v8 b) w := by kernel_rfl
def nibB (b : BitVec 8) (j : Nat) : BitVec 8 := if j = 0 then b >>> 4 else b &&& 15#8
theorem index_nib (b : BitVec 8) (j : Nat) (hj : j < 2) (w : World) : (Instr.index 189 (.agg (A8 [b >>> 4, b &&& 15#8])) (.int .i64 (j : Int))).run Tryd.prog w = .ok (v8 (nibB b j)) w := by
  have : j = 0 ∨ j = 1 := by omega
  rcases this with rfl | rfl
  · exact index_two0 _ _ w
  · exact index_two1 _ _ w
theorem nibB_lt (b : BitVec 8) (j : Nat) : (nibB b j).toNat < 16 := by
  have hb := b.isLt
  unfold nibB
  split
  · rw [BitVec.toNat_ushiftRight, Nat.shiftRight_eq_div_pow]
    omega
  · rw [BitVec.toNat_and, show (15#8).toNat = 2 ^ 4 - 1 from rfl, Nat.and_two_pow_sub_one_eq_mod]
    omega
theorem at_nib (q : Nat) (x : BitVec 8) (h : x.toNat < 16) (w : World) : (Instr.indexAt 184 (.pointer (some ⟨q, 0, none⟩)) (v8 x)).run Tryd.prog w = .ok (.pointer (some ⟨q, x.toNat * 2, none⟩)) w := by
  obtain ⟨n, hn⟩ : ∃ n, n = x.toNat := ⟨_, rfl⟩
  rw [v8, ← hn]
  rw [← hn] at h
  clear hn
  have X1 : (n : Int) < 16 := by omega
  have X0 : (0 : Int) ≤ (n : Int) := by omega
  go_simp
/-- a dot by a table, so many half bytes of a row of bytes -/
def dotL (t : Nat → W2) (l : List (BitVec 8)) : Nat → W2
  | 0 => (0#64, 0#64)
  | k + 1 => plusW (upN (dotL t l k) 4) (t (nibB (nth l (15 - k / 2)) (k % 2)).toNat) 1#64
def TableAt (w : World) (q : Nat) (one : W2) : Prop := Blk w q 186 (A64 (flat (tabW one) 16))
set_option linter.unusedSimpArgs false in
set_option maxRecDepth 100000 in
set_option maxHeartbeats 1600000 in
theorem tdot_any (q : Nat) (one : W2) (l : List (BitVec 8)) (hl : l.length = 16) (w : World) (hT : Blk w q 186 (A64 (flat (tabW one) 16))) :
    Calls Tryd.prog 116 #[.pointer (some ⟨q, 0, none⟩), .agg (A8 l)] w fun e w' => e = .returned (.agg (A8 (le64 (dotL (tabW one) l 32).1 ++ le64 (dotL (tabW one) l 32).2))) ∧ Below w.heap.size w w' := by
  obtain ⟨W, hW⟩ : ∃ W, ((w.alloc (.cells (A8 l) 40)).alloc (.cells (A8 (zeros 8 16)) 40)).alloc (.cells (A64 (zeros 64 2)) 63) = W := ⟨_, rfl⟩
  obtain ⟨b0, b1, b2, hb, hz⟩ := new3 _ _ _ _ _ _ _ _ hW
  have P0 := Lib.hid b0
  have Z0 := Lib.hid b1
  have C0 := Lib.hid b2
  have B0 := Lib.hid hb
  have T0 := Lib.hid (hT.belowAll hb)
  have HQ := Lib.hid hT.lt
  clear b0 b1 b2 hb hz hT
  go_enter Tryd.func116, Tryd.ntmps116
  go_wp2_with fail
  clear hW
  go_loopw [13] (fun s wr => ∃ i : Nat, i ≤ 16 ∧ s = .int .i64 i ∧ Blk wr w.heap.size 40 (A8 l) ∧ Blk wr (w.heap.size + 1) 40 (A8 (zeros 8 16)) ∧ Blk wr (w.heap.size + 2) 63 (A64 (wl (dotL (tabW one) l (2 * i)))) ∧ Blk wr q 186 (A64 (flat (tabW one) 16)) ∧ Below w.heap.size w wr) (fun s _ => 16 - (intOf s).toNat)
  case atStart => exact ⟨0, by omega, rfl, P0.out, Z0.out, C0.out, T0.out, B0.out⟩
  case round =>
    obtain ⟨i, hi, rfl, hP, hZ, hC, hT, hB⟩ := hrel
    have P1 := Lib.hid hP
    have Z1 := Lib.hid hZ
    have C1 := Lib.hid hC
    have T1 := Lib.hid hT
    have B1 := Lib.hid hB
    clear hP hZ hC hT hB P0 Z0 C0 T0 B0
    by_cases hi16 : i < 16
    · have i1 : (i : Int) < 16 := by omega
      have i0 : (0 : Int) ≤ (i : Int) := by omega
      obtain ⟨I, hI⟩ : ∃ I, I = 15 - i := ⟨_, rfl⟩
      have eI : (15 : Int) - (i : Int) = (I : Int) := by omega
      have eI2 : IntKind.i64.wrap (I : Int) = (I : Int) := by rw [IntKind.wrap_i64]; omega
      have I0 : (0 : Int) ≤ (I : Int) := by omega
      have I1 : (I : Int) < 16 := by omega
      have HI := Lib.hid hI
      clear hI
      have c1 := P1.out.cell8 hl I (by omega)
      obtain ⟨b, hb⟩ : ∃ b, b = nth l I := ⟨_, rfl⟩
      rw [← hb] at c1
      have HB := Lib.hid hb
      clear hb
      have hD : dotL (tabW one) l (2 * i) = dotL (tabW one) l (2 * i + 0) := rfl
      rw [hD] at C1
      clear hD
      go_wp2_with fail
      go_loopw [25] (fun s wr => ∃ j : Nat, j ≤ 2 ∧ s = .int .i64 j ∧ Blk wr w.heap.size 40 (A8 l) ∧ Blk wr (w.heap.size + 1) 40 (A8 (zeros 8 16)) ∧ Blk wr (w.heap.size + 2) 63 (A64 (wl (dotL (tabW one) l (2 * i + j)))) ∧ Blk wr q 186 (A64 (flat (tabW one) 16)) ∧ Below w.heap.size w wr) (fun s _ => 2 - (intOf s).toNat)
      case atStart => exact ⟨0, by omega, rfl, P1.out, Z1.out, C1.out, T1.out, B1.out⟩
      case round =>
        obtain ⟨j, hj, rfl, hP, hZ, hC, hT, hB⟩ := hrel
        have P2 := Lib.hid hP
        have Z2 := Lib.hid hZ
        have C2 := Lib.hid hC
        have T2 := Lib.hid hT
        have B2 := Lib.hid hB
        clear hP hZ hC hT hB P1 Z1 C1 T1 B1 c1
        by_cases hj2 : j < 2
        · have j1 : (j : Int) < 2 := by omega
          have j0 : (0 : Int) ≤ (j : Int) := by omega
          obtain ⟨D, hD⟩ : ∃ D, D = dotL (tabW one) l (2 * i + j) := ⟨_, rfl⟩
          rw [← hD] at C2
          have HD := Lib.hid hD
          clear hD
          have eX : ∀ w, (Instr.index 189 (.agg (A8 [b >>> 4, b &&& 15#8])) (.int .i64 (j : Int))).run Tryd.prog w = .ok (v8 (nibB b j)) w := index_nib b j hj2
          have hx16 := nibB_lt b j
          obtain ⟨x, hx⟩ : ∃ x, x = nibB b j := ⟨_, rfl⟩
          rw [← hx] at eX hx16
          have HX := Lib.hid hx
          clear hx
          go_wp2_with fail
          go_loopw [28] (fun s wr => ∃ u : Nat, u ≤ 4 ∧ s = .int .i64 u ∧ Blk wr w.heap.size 40 (A8 l) ∧ Blk wr (w.heap.size + 1) 40 (A8 (zeros 8 16)) ∧ Blk wr (w.heap.size + 2) 63 (A64 (wl (upN D u))) ∧ Blk wr q 186 (A64 (flat (tabW one) 16)) ∧ Below w.heap.size w wr) (fun s _ => 4 - (intOf s).toNat)
          case atStart => exact ⟨0, by omega, rfl, P2.out, Z2.out, C2.out, T2.out, B2.out⟩
          case round =>
            obtain ⟨u, hu, rfl, hP, hZ, hC, hT, hB⟩ := hrel
            have P3 := Lib.hid hP
            have Z3 := Lib.hid hZ
            have T3 := Lib.hid hT
            have B3 := Lib.hid hB
            obtain ⟨U, hU⟩ : ∃ U, U = upN D u := ⟨_, rfl⟩
            rw [← hU] at hC
            have C3 := Lib.hid hC
            have HU := Lib.hid hU
            clear hP hZ hC hT hB P2 Z2 C2 T2 B2 hU eX
            have tk : (wl U).take 2 = wl U := rfl
            by_cases hu4 : u < 4
            · have u1 : (u : Int) < 4 := by omega
              have u0 : (0 : Int) ≤ (u : Int) := by omega
              have r1 := C3.out.row
              have r2 := C3.out.whole
              go_wp2_with fail
              refine (rup_any U wr).mono ?_
              rintro e w1 ⟨rfl, d1⟩
              have k1 := C3.out.belowAll d1
              have r3 := k1.row
              have r4 := k1.whole
              have hq := HQ.out
              have T4 := Lib.hid ((T3.out.belowAll d1).farRow (k := w.heap.size + 2) (by omega) (A64 (wl (upW U))))
              have P4 := Lib.hid ((P3.out.belowAll d1).farRow (k := w.heap.size + 2) (by omega) (A64 (wl (upW U))))
              have Z4 := Lib.hid ((Z3.out.belowAll d1).farRow (k := w.heap.size + 2) (by omega) (A64 (wl (upW U))))
              have C4 := Lib.hid (k1.put (A64 (wl (upW U))))
              have B4 := Lib.hid (below_setRow (B3.out.trans (d1.mono B3.out.size)) (show w.heap.size ≤ w.heap.size + 2 by omega) (A64 (wl (upW U))))
              clear r1 r2 T3 C3 B3 P3 Z3 d1 k1 tk hq
              go_wp2
              exact ⟨⟨u + 1, by omega, by go_num, P4.out, Z4.out, by rw [upN, ← HU.out]; exact C4.out, T4.out, B4.out⟩, by simp [intOf]; omega⟩
            · obtain rfl : u = 4 := by omega
              go_upto_region 15 with fail
              refine wp_region_tail [5,0,0,0,0,0,5,2,3] (by kernel_rfl) (by kernel_rfl) (fun C hC0 hCb K' hK' => ?_)
              have q1 : ∀ w1, C w1 → rowAt w1 q = A64 (flat (tabW one) 16) := fun w1 h => (T3.out.drew.belowAll (hCb w1 h)).row
              have q2 : ∀ w1, C w1 → rowAt w1 (w.heap.size + 2) = A64 (wl U) := fun w1 h => (C3.out.drew.belowAll (hCb w1 h)).row
              have fl : (flat (tabW one) 16).length = 32 := flat_length _ _
              have eA : ∀ w, (Instr.indexAt 184 (.pointer (some ⟨q, 0, none⟩)) (v8 x)).run Tryd.prog w = .ok (.pointer (some ⟨q, x.toNat * 2, none⟩)) w := at_nib q x hx16
              have ex : (A64 (flat (tabW one) 16)).extract (x.toNat * 2) (x.toNat * 2 + 2) = A64 (wl (tabW one x.toNat)) := by rw [A64_part, show x.toNat * 2 + 2 - x.toNat * 2 = 2 by omega, Nat.mul_comm x.toNat 2, flat_part _ _ _ hx16 hx16]
              have sz : x.toNat * 2 + 2 ≤ 32 := by omega
              repeat
                first
                  | ((with_reducible refine h_pure (v := ?_) (a' := ?_) ?_ (fun _ => ?_) ?_ ?_); rotate_left; rotate_left; (focus (exact rfl)); (focus (go_simp; (try go_bits); exact rfl)); (focus (simp only [Act.put, List.setIfInBounds_toArray, List.set_cons_succ, List.set_cons_zero, Act.eval, Array.getD_eq_getD_getElem?, List.getElem?_toArray, List.getElem?_cons_succ, List.getElem?_cons_zero, Option.getD_some]; exact rfl)))
                  | ((with_reducible refine h_obl (v := ?_) (a' := ?_) ?_ (fun _ hcw => ?_) ?_ ?_); rotate_left; rotate_left; (focus (exact rfl)); (focus (have f1 := q1 _ hcw; have f2 := q2 _ hcw; go_simp; (try go_bits); exact rfl)); (focus (simp only [Act.put, List.setIfInBounds_toArray, List.set_cons_succ, List.set_cons_zero, Act.eval, Array.getD_eq_getD_getElem?, List.getElem?_toArray, List.getElem?_cons_succ, List.getElem?_cons_zero, Option.getD_some]; exact rfl)))
                  | ((with_reducible refine h_read (v := ?_) (a' := ?_) ?_ (fun _ hbw => ?_) ?_ ?_); rotate_left; rotate_left; (focus (exact rfl)); (focus (skip; go_simp; (try go_bits); exact rfl)); (focus (simp only [Act.put, List.setIfInBounds_toArray, List.set_cons_succ, List.set_cons_zero, Act.eval, Array.getD_eq_getD_getElem?, List.getElem?_toArray, List.getElem?_cons_succ, List.getElem?_cons_zero, Option.getD_some]; exact rfl)))
              (with_reducible refine h_call ?_ ?_)
              · exact rfl
              go_simp
              refine entersW_of ?_
              refine (rplus_any U (tabW one x.toNat) 1#64 wr.drew).mono ?_
              rintro e w1 ⟨rfl, d1⟩
              refine ⟨_, rfl, d1, ?_⟩
              try simp only [Act.put, List.setIfInBounds_toArray, List.set_cons_succ, List.set_cons_zero]
              refine h_tail [2] rfl (by simp) ?_
              refine z_storeRow (cs := A64 (wl (dotL (tabW one) l (2 * i + (j + 1))))) (C3.out.drew.belowAll d1) rfl (by rw [show 2 * i + (j + 1) = 2 * i + j + 1 by omega, dotL, ← HD.out, ← HU.out, show 15 - (2 * i + j) / 2 = I by rw [HI.out]; omega, show (2 * i + j) % 2 = j by omega, ← HB.out, ← HX.out]; rfl) (by rw [A64_size, A64_size]; rfl) (A64_ones _) (by rw [A64_size]; exact Tryd.sizeOf63 _) (fun w5 k5 g5 s5 => ?_)
              refine z_nil (hK' _ _ ?_)
              have hq := HQ.out
              have hne : some q ≠ some (w.heap.size + 2) := by intro e; cases e; omega
              have d4 := B3.out.drew.trans (d1.mono B3.out.drew.size)
              have B5 := Lib.hid (d4.trans (grown_below g5 (by omega) d4.size))
              have P5 := Lib.hid ((P3.out.drew.belowAll d1).grown g5 (by simp))
              have Z5 := Lib.hid ((Z3.out.drew.belowAll d1).grown g5 (by simp))
              have T5 := Lib.hid ((T3.out.drew.belowAll d1).grown g5 hne)
              have C5 := Lib.hid k5
              clear q1 q2 fl ex sz hC0 hCb hK' d1 k5 g5 s5 d4 hq hne tk eA
              go_wp2
              exact ⟨⟨j + 1, by omega, by go_num, P5.out, Z5.out, C5.out, T5.out, B5.out⟩, by simp [intOf]; omega⟩
        · obtain rfl : j = 2 := by omega
          go_wp2
          exact ⟨⟨i + 1, by omega, by go_num, P2.out, Z2.out, C2.out, T2.out, B2.out⟩, by simp [intOf]; omega⟩
    · obtain rfl : i = 16 := by omega
      have r1 := C1.out.row
      have r2 := C1.out.whole
      obtain ⟨U, hU⟩ : ∃ U, U = dotL (tabW one) l (2 * 16) := ⟨_, rfl⟩
      rw [← hU] at r1
      have HU := Lib.hid hU
      clear hU
      have tk : (wl U).take 2 = wl U := rfl
      go_wp2_with fail
      refine (wbytes_any U wr).mono ?_
      rintro e w1 ⟨rfl, d1⟩
      have z1 := Z1.out.belowAll d1
      have r3 := z1.row
      have r4 := z1.whole
      have bl : (le64 U.1 ++ le64 U.2).length = 16 := by simp
      obtain ⟨bb, hbb⟩ : ∃ bb, bb = le64 U.1 ++ le64 U.2 := ⟨_, rfl⟩
      rw [← hbb] at bl
      rw [← hbb]
      have HBB := Lib.hid hbb
      have KK := (z1.put (A8 bb)).row
      have K3 := Lib.hid KK
      have B3 := Lib.hid (below_setRow (B1.out.trans (d1.mono B1.out.size)) (show w.heap.size ≤ w.heap.size + 1 by omega) (A8 bb))
      clear hbb r1 r2 tk z1 KK d1
      go_wp2
      refine bodyPost_row (A8 bb) rfl rfl rfl (Tryd.isAgg40 _) (Tryd.sizeOf40 _) (by rw [A8_size]; exact bl) K3.out ⟨by rw [HBB.out, HU.out], B3.out⟩
end Go.Proofs.YtfdkmjegcghieaaDoor
