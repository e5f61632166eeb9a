/- octet by definition: Put -/
import Derived.Test.YtfdkmjegcghieaaGreatDoorIj
import Derived.Test.YtfdkmjegcghieaaGreatDoorGb
import Derived.Test.YtfdkmjegcghieaaGreatDoorGo
import Derived.Test.YtfdkmjegcghieaaGreatDoorIe
import Derived.Test.YtfdkmjegcghieaaGreatDoorIi
namespace Go.Proofs.YtfdkmjegcghieaaGreatDoor
open Go.RowKit
@[go_sem high] theorem v64_rem256 (t : TypeId) (a : BitVec 64) : binOp .rem t (v64 a) (.int .u64 256) = pure (v64 (a % 256#64)) := by
  simp [v64, binOp, Op.intDiv, Int.tmod_eq_emod_of_nonneg]
@[go_sem high] theorem v64_quo256 (t : TypeId) (a : BitVec 64) : binOp .quo t (v64 a) (.int .u64 256) = pure (v64 (a / 256#64)) := by
  have h := a.isLt
  have e : IntKind.u64.wrap ((a.toNat / 256 : Nat) : Int) = ((a.toNat / 256 : Nat) : Int) := by
    rw [wrap_bv .u64 rfl, BitVec.ofInt_natCast]
    show (((BitVec.ofNat 64 (a.toNat / 256)).toNat : Nat) : Int) = _
    rw [BitVec.toNat_ofNat, Nat.mod_eq_of_lt (by omega)]
  simp only [v64, binOp, Op.intDiv]
  rw [Int.tdiv_eq_ediv_of_nonneg (by omega), show ((a.toNat : Int) / 256) = ((a.toNat / 256 : Nat) : Int) by omega, e]
  simp
def putR (x : BitVec 64) (m : Nat) : List (BitVec 8) := (List.range m).map fun i => (x >>> (8 * i)).setWidth 8
theorem putR_length (x : BitVec 64) (m : Nat) : (putR x m).length = m := by simp [putR]
theorem putR_succ (x : BitVec 64) (m : Nat) : putR x m ++ [(x >>> (8 * m)).setWidth 8] = putR x (m + 1) := by simp [putR, List.range_succ]
theorem rem_byte (x : BitVec 64) : (x % 256#64).setWidth 8 = x.setWidth 8 := by
  apply BitVec.eq_of_toNat_eq
  simp
theorem quo_byte (x : BitVec 64) (j : Nat) : (x >>> (8 * j)) / 256#64 = x >>> (8 * (j + 1)) := by
  apply BitVec.eq_of_toNat_eq
  rw [BitVec.toNat_udiv, BitVec.toNat_ushiftRight, BitVec.toNat_ushiftRight, Nat.shiftRight_eq_div_pow, Nat.shiftRight_eq_div_pow, show 8 * (j + 1) = 8 * j + 8 by omega, Nat.pow_add, ← Nat.div_div_eq_div_mul]
  rfl
set_option linter.unusedSimpArgs false in
set_option maxRecDepth 100000 in
theorem refPut_any (x : BitVec 64) (m : Nat) (w : World) (hm : m ≤ 8) :
    Calls Tryz.prog 86 #[v64 x, .int .i64 m] w fun e w' => ∃ v, e = .returned v ∧ Own8 w' w.heap.size 5 v (putR x m) ∧ Below w.heap.size w w' := by
  go_enter Tryz.func86, Tryz.ntmps86
  go_wp2_with fail
  go_loopw [0, 5, 6] (fun y v i wr => ∃ j : Nat, j ≤ m ∧ i = .int .i64 j ∧ y = v64 (x >>> (8 * j)) ∧ Own8 wr w.heap.size 5 v (putR x j) ∧ Below w.heap.size w wr) (fun _ _ i _ => m - (intOf i).toNat)
  case atStart => exact ⟨0, Nat.zero_le _, rfl, by simp, Own8.nil_ _ _ _, Below.refl _ _⟩
  case round =>
    obtain ⟨j, hj, rfl, rfl, hO, hB⟩ := hrel
    have O1 := Lib.hid hO
    have B1 := Lib.hid hB
    clear hO hB
    by_cases hjm : j < m
    · have j1 : (j : Int) < (m : Int) := by omega
      obtain ⟨y, hy⟩ : ∃ y, y = x >>> (8 * j) := ⟨_, rfl⟩
      rw [← hy]
      have HY := Lib.hid hy
      clear hy
      go_upto_region 5 with fail
      refine wp_region_plain [0,0,0,0,2,2,0] rfl (fun ops' K2 hK2 => ?_)
      repeat
        first
          | ((with_reducible refine z_move (a' := ?_) ?_ ?_); rotate_left; · (simp only [Act.put, List.setIfInBounds_toArray, List.set_cons_succ, List.set_cons_zero, Act.eval, Array.getD_eq_getD_getElem?, List.getElem?_toArray, List.getElem?_cons_succ, List.getElem?_cons_zero, Option.getD_some]; exact rfl))
          | ((with_reducible refine z_assign (a' := ?_) ?_ ?_); rotate_left; · (simp only [Act.put, List.setIfInBounds_toArray, List.set_cons_succ, List.set_cons_zero, Act.eval, Array.getD_eq_getD_getElem?, List.getElem?_toArray, List.getElem?_cons_succ, List.getElem?_cons_zero, Option.getD_some]; exact rfl))
          | ((with_reducible refine z_obl (v := ?_) (a' := ?_) rfl (fun _ => ?_) ?_ ?_); rotate_left; rotate_left; (focus (go_simp; (try go_bits); exact rfl)); (focus (simp only [Act.put, List.setIfInBounds_toArray, List.set_cons_succ, List.set_cons_zero, Act.eval, Array.getD_eq_getD_getElem?, List.getElem?_toArray, List.getElem?_cons_succ, List.getElem?_cons_zero, Option.getD_some]; exact rfl)))
          | ((with_reducible refine z_read (v := ?_) (a' := ?_) rfl ?_ ?_ ?_); rotate_left; rotate_left; (focus (go_simp; (try go_bits); exact rfl)); (focus (simp only [Act.put, List.setIfInBounds_toArray, List.set_cons_succ, List.set_cons_zero, Act.eval, Array.getD_eq_getD_getElem?, List.getElem?_toArray, List.getElem?_cons_succ, List.getElem?_cons_zero, Option.getD_some]; exact rfl)))
      refine z_build1 (x := (y % 256#64).setWidth 8) rfl Tryz.underlying23 info8 (fun w2 b2 hr2 hb2 => ?_)
      simp only [Act.put, List.setIfInBounds_toArray, List.set_cons_succ, List.set_cons_zero]
      refine z_append8 (O1.out.below hb2) hr2 rfl rfl Tryz.underlying23 info8 (by rw [putR_length]; omega) (Nat.le_trans B1.out.size hb2.size) (fun w3 v3 o3 g3 b3 => ?_)
      simp only [Act.put, List.setIfInBounds_toArray, List.set_cons_succ, List.set_cons_zero]
      repeat
        first
          | ((with_reducible refine z_move (a' := ?_) ?_ ?_); rotate_left; · (simp only [Act.put, List.setIfInBounds_toArray, List.set_cons_succ, List.set_cons_zero, Act.eval, Array.getD_eq_getD_getElem?, List.getElem?_toArray, List.getElem?_cons_succ, List.getElem?_cons_zero, Option.getD_some]; exact rfl))
          | ((with_reducible refine z_assign (a' := ?_) ?_ ?_); rotate_left; · (simp only [Act.put, List.setIfInBounds_toArray, List.set_cons_succ, List.set_cons_zero, Act.eval, Array.getD_eq_getD_getElem?, List.getElem?_toArray, List.getElem?_cons_succ, List.getElem?_cons_zero, Option.getD_some]; exact rfl))
          | ((with_reducible refine z_obl (v := ?_) (a' := ?_) rfl (fun _ => ?_) ?_ ?_); rotate_left; rotate_left; (focus (go_simp; (try go_bits); exact rfl)); (focus (simp only [Act.put, List.setIfInBounds_toArray, List.set_cons_succ, List.set_cons_zero, Act.eval, Array.getD_eq_getD_getElem?, List.getElem?_toArray, List.getElem?_cons_succ, List.getElem?_cons_zero, Option.getD_some]; exact rfl)))
          | ((with_reducible refine z_read (v := ?_) (a' := ?_) rfl ?_ ?_ ?_); rotate_left; rotate_left; (focus (go_simp; (try go_bits); exact rfl)); (focus (simp only [Act.put, List.setIfInBounds_toArray, List.set_cons_succ, List.set_cons_zero, Act.eval, Array.getD_eq_getD_getElem?, List.getElem?_toArray, List.getElem?_cons_succ, List.getElem?_cons_zero, Option.getD_some]; exact rfl)))
      refine z_nil (hK2 _ _ ?_)
      rw [rem_byte, HY.out, putR_succ] at o3
      have O3 := Lib.hid o3
      have B3 := Lib.hid ((B1.out.trans (hb2.mono B1.out.size)).trans b3)
      clear o3 g3 b3 hb2 hr2 hK2
      go_wp2
      exact ⟨⟨j + 1, by omega, by go_num, by rw [HY.out, quo_byte], O3.out, B3.out⟩, by simp [intOf]; omega⟩
    · obtain rfl : j = m := by omega
      have j1 : ¬ (j : Int) < (j : Int) := by omega
      clear j1
      go_wp2
      go_ret
      exact ⟨_, rfl, O1.out, B1.out⟩
end Go.Proofs.YtfdkmjegcghieaaGreatDoor
/- xctr by definition: Block -/
namespace Go.Proofs.YtfdkmjegcghieaaGreatDoor
open Go.RowKit
theorem nth_le64 (y : BitVec 64) (i : Nat) (h : i < 8) : nth (le64 y) i = (y >>> (8 * i)).setWidth 8 := by
  have : i = 0 ∨ i = 1 ∨ i = 2 ∨ i = 3 ∨ i = 4 ∨ i = 5 ∨ i = 6 ∨ i = 7 := by omega
  rcases this with rfl | rfl | rfl | rfl | rfl | rfl | rfl | rfl <;> first | rfl | (show y.setWidth 8 = _; simp)
theorem nth_putR (y : BitVec 64) (i : Nat) (h : i < 8) : nth (putR y 8) i = (y >>> (8 * i)).setWidth 8 := by
  rw [putR, nth_range_map _ i h]
theorem xct_put (s : List (BitVec 8)) (y : BitVec 64) : xor16 s (blk (putR y 8)) = xctS s y := by
  unfold xctS xrTo xor16
  refine r16_ext fun i hi => ?_
  have hb : nth (blk (putR y 8)) i = if i < 8 then nth (le64 y) i else 0#8 := by
    rw [← blkTo_full _ (by rw [putR_length]; omega), nth_blkTo _ _ _ hi, if_pos hi]
    by_cases h : i < 8
    · rw [if_pos h, nth_putR y i h, nth_le64 y i h]
    · rw [if_neg h, nth_over _ _ (by rw [putR_length]; omega)]
  rw [hb]
  by_cases h : i < 8
  · rw [if_pos h, if_pos h]
  · rw [if_neg h, if_neg h, BitVec.xor_zero]
set_option linter.unusedSimpArgs false in
set_option maxRecDepth 100000 in
set_option maxHeartbeats 1600000 in
theorem refXBlock_any (X TT KK L s : List (BitVec 8)) (g c m : Nat) (y : BitVec 64) (w : World) (hX : BoxL X TT KK) (hR : RdS w 16 (some ⟨g, 0, none⟩) m c L) (hs : s.length = 16) (hm : 3 ≤ m) (hm2 : m ≤ 100) :
    Calls Tryz.prog 74 #[.agg (A8 X), .slice (some ⟨g, 0, none⟩) m c, .agg (A8 s), v64 y] w fun e w' => e = .returned (.agg (A8 (xblock L m s y))) ∧ Below w.heap.size w w' := by
  obtain ⟨W, hW⟩ : ∃ W, ((w.alloc (.cells (A8 X) 35)).alloc (.cells (A8 s) 37)).alloc (.cells (A8 (zeros 8 16)) 37) = W := ⟨_, rfl⟩
  obtain ⟨b0, b1, b2, hb, hz⟩ := new3 _ _ _ _ _ _ _ _ hW
  have X0 := Lib.hid b0
  have P0 := Lib.hid b1
  have Z0 := Lib.hid b2
  have B0 := Lib.hid hb
  have R0 := Lib.hid (hR.below hb)
  have HX := Lib.hid hX
  have x3 := hX.len
  clear b0 b1 b2 hb hz hX hR
  go_enter Tryz.func74, Tryz.ntmps74
  go_wp2_with fail
  clear hW
  refine (refPut_any y 8 W (by omega)).mono ?_
  rintro e w1 ⟨v1, rfl, o1, d1⟩
  obtain ⟨a1, c1, rfl, hr1, _⟩ := o1.rd
  rw [putR_length] at hr1 ⊢
  go_wp2_with fail
  refine (refBlock16_any (putR y 8) a1 8 c1 w1 hr1 (by omega)).mono ?_
  rintro e w2 ⟨rfl, d2⟩
  obtain ⟨N, hN⟩ : ∃ N, N = blk (putR y 8) := ⟨_, rfl⟩
  have hNl : N.length = 16 := by rw [hN]; exact blk_length _
  rw [← hN]
  have HN := Lib.hid hN
  have D2 := d1.trans (d2.mono d1.size)
  obtain ⟨W3, hW3⟩ : ∃ W3, w2.alloc (.cells (A8 N) 37) = W3 := ⟨_, rfl⟩
  obtain ⟨n3, d3, z3⟩ := new1 _ _ _ _ hW3
  have D3 := D2.trans (d3.mono D2.size)
  have N3 := Lib.hid n3
  have X3 := Lib.hid (X0.out.belowAll D3)
  have P3 := Lib.hid (P0.out.belowAll D3)
  have Z3 := Lib.hid (Z0.out.belowAll D3)
  have R3 := Lib.hid (R0.out.below D3)
  have B3 := Lib.hid (B0.out.trans (D3.mono B0.out.size))
  clear o1 hr1 d1 d2 D2 d3 D3 n3 z3 hN X0 P0 Z0 R0 B0
  go_upto_region 2 with fail
  obtain ⟨pn, hpn⟩ : ∃ p, p = w2.heap.size := ⟨_, rfl⟩
  rw [← hpn] at N3 ⊢
  clear hpn hW3
  refine wp_region_tail [5,0,5,5,2,2,3] (by kernel_rfl) (by kernel_rfl) (fun C hC0 hCb K' hK' => ?_)
  have q0 : ∀ w1, C w1 → rowAt w1 w.heap.size = A8 X := fun w1 h => (X3.out.drew.belowAll (hCb w1 h)).row
  have q1 : ∀ w1, C w1 → rowAt w1 (w.heap.size + 1) = A8 s := fun w1 h => (P3.out.drew.belowAll (hCb w1 h)).row
  have q2 : ∀ w1, C w1 → rowAt w1 pn = A8 N := fun w1 h => (N3.out.drew.belowAll (hCb w1 h)).row
  repeat
    first
      | ((with_reducible refine h_pure (v := ?_) (a' := ?_) ?_ (fun _ => ?_) ?_ ?_); rotate_left; rotate_left; (focus (exact rfl)); (focus (go_simp; (try go_bits); exact rfl)); (focus (simp only [Act.put, List.setIfInBounds_toArray, List.set_cons_succ, List.set_cons_zero, Act.eval, Array.getD_eq_getD_getElem?, List.getElem?_toArray, List.getElem?_cons_succ, List.getElem?_cons_zero, Option.getD_some]; exact rfl)))
      | ((with_reducible refine h_obl (v := ?_) (a' := ?_) ?_ (fun _ hcw => ?_) ?_ ?_); rotate_left; rotate_left; (focus (exact rfl)); (focus (have f := q0 _ hcw; have f' := q1 _ hcw; have f'' := q2 _ hcw; go_simp; (try go_bits); exact rfl)); (focus (simp only [Act.put, List.setIfInBounds_toArray, List.set_cons_succ, List.set_cons_zero, Act.eval, Array.getD_eq_getD_getElem?, List.getElem?_toArray, List.getElem?_cons_succ, List.getElem?_cons_zero, Option.getD_some]; exact rfl)))
      | ((with_reducible refine h_read (v := ?_) (a' := ?_) ?_ (fun _ hbw => ?_) ?_ ?_); rotate_left; rotate_left; (focus (exact rfl)); (focus (skip; go_simp; (try go_bits); exact rfl)); (focus (simp only [Act.put, List.setIfInBounds_toArray, List.set_cons_succ, List.set_cons_zero, Act.eval, Array.getD_eq_getD_getElem?, List.getElem?_toArray, List.getElem?_cons_succ, List.getElem?_cons_zero, Option.getD_some]; exact rfl)))
  (with_reducible refine h_call ?_ ?_)
  · exact rfl
  go_simp
  refine entersW_of ?_
  refine (refSixteen_any s N W3.drew hs hNl).mono ?_
  rintro e w4 ⟨rfl, d4⟩
  refine ⟨_, rfl, d4, ?_⟩
  try simp only [Act.put, List.setIfInBounds_toArray, List.set_cons_succ, List.set_cons_zero]
  rw [HN.out, xct_put s y]
  (with_reducible refine h_call ?_ ?_)
  · exact rfl
  go_simp
  refine entersW_of ?_
  refine (refEncrypt_any X TT KK L (xctS s y) g c m w4 HX.out (R3.out.drew.below d4) (xctS_length s y) hm hm2).mono ?_
  rintro e w5 ⟨rfl, d5⟩
  refine ⟨_, rfl, d5, ?_⟩
  try simp only [Act.put, List.setIfInBounds_toArray, List.set_cons_succ, List.set_cons_zero]
  have D5 := d4.trans (d5.mono d4.size)
  have hYl := xblock_length L m s y
  refine h_tail [2] rfl (by simp) ?_
  refine z_storeRow (cs := A8 (xblock L m s y)) (Z3.out.drew.belowAll D5) rfl rfl (by rw [A8_size, A8_size, hYl, zeros_length]) (A8_ones _) (by rw [A8_size, hYl]; exact Tryz.sizeOf37 _) (fun w6 k6 g6 s6 => ?_)
  refine z_nil (hK' _ _ ?_)
  have r6 := k6.row
  have e6 := B3.out.drew.trans (D5.mono B3.out.size)
  have B6 := e6.trans (grown_below g6 (by omega) e6.size)
  clear q0 q1 q2 hC0 hCb hK' d4 d5 D5 k6 g6 s6 e6
  go_wp2
  refine bodyPost_row (A8 (xblock L m s y)) rfl rfl rfl (Tryz.isAgg37 _) (Tryz.sizeOf37 _) (by rw [A8_size]; exact hYl) r6 ⟨rfl, B6⟩
end Go.Proofs.YtfdkmjegcghieaaGreatDoor
