/- xctr by definition: Block -/
import Derived.Test.YtepijmidafndaaaDoorRefPut
import Derived.Test.YtepijmidafndaaaDoorRg8
import Derived.Test.YtepijmidafndaaaDoorXctr1
namespace Go.Proofs.YtepijmidafndaaaDoor
open Go.RowKit
theorem nth_le64 (y : BitVec 64) (i : Nat) (h : i < 8) : nth (le64 y) i = (y >>> (8 * i)).setWidth 8 := by
  have : i = 0 ∨ i = 1 ∨ i = 2 ∨ i = 3 ∨ i = 4 ∨ i = 5 ∨ i = 6 ∨ i = 7 := by omega
  rcases this with rfl | rfl | rfl | rfl | rfl | rfl | rfl | rfl <;> first | rfl | (show y.setWidth 8 = _; simp)
theorem nth_putR (y : BitVec 64) (i : Nat) (h : i < 8) : nth (putR y 8) i = (y >>> (8 * i)).setWidth 8 := by
  rw [putR, nth_range_map _ i h]
theorem xct_put (s : List (BitVec 8)) (y : BitVec 64) : xor16 s (blk (putR y 8)) = xctS s y := by
  unfold xctS xrTo xor16
  refine r16_ext fun i hi => ?_
  have hb : nth (blk (putR y 8)) i = if i < 8 then nth (le64 y) i else 0#8 := by
    rw [← blkTo_full _ (by rw [putR_length]; omega), nth_blkTo _ _ _ hi, if_pos hi]
    by_cases h : i < 8
    · rw [if_pos h, nth_putR y i h, nth_le64 y i h]
    · rw [if_neg h, nth_over _ _ (by rw [putR_length]; omega)]
  rw [hb]
  by_cases h : i < 8
  · rw [if_pos h, if_pos h]
  · rw [if_neg h, if_neg h, BitVec.xor_zero]
set_option linter.unusedSimpArgs false in
set_option maxRecDepth 100000 in
set_option maxHeartbeats 1600000 in
theorem refXBlock_any (X TT KK L s : List (BitVec 8)) (g c m : Nat) (y : BitVec 64) (w : World) (hX : BoxL X TT KK) (hR : RdS w 16 (some ⟨g, 0, none⟩) m c L) (hs : s.length = 16) (hm : 3 ≤ m) (hm2 : m ≤ 100) :
    Calls Tryd.prog 27 #[.agg (A8 X), .slice (some ⟨g, 0, none⟩) m c, .agg (A8 s), v64 y] w fun e w' => e = .returned (.agg (A8 (xblock L m s y))) ∧ Below w.heap.size w w' := by
  obtain ⟨W, hW⟩ : ∃ W, ((w.alloc (.cells (A8 X) 38)).alloc (.cells (A8 s) 31)).alloc (.cells (A8 (zeros 8 16)) 31) = W := ⟨_, rfl⟩
  obtain ⟨b0, b1, b2, hb, hz⟩ := new3 _ _ _ _ _ _ _ _ hW
  have X0 := Lib.hid b0
  have P0 := Lib.hid b1
  have Z0 := Lib.hid b2
  have B0 := Lib.hid hb
  have R0 := Lib.hid (hR.below hb)
  have HX := Lib.hid hX
  have x3 := hX.len
  clear b0 b1 b2 hb hz hX hR
  go_enter Tryd.func27, Tryd.ntmps27
  go_wp2_with fail
  clear hW
  refine (refPut_any y 8 W (by omega)).mono ?_
  rintro e w1 ⟨v1, rfl, o1, d1⟩
  obtain ⟨a1, c1, rfl, hr1, _⟩ := o1.rd
  rw [putR_length] at hr1 ⊢
  go_wp2_with fail
  refine (refBlock16_any (putR y 8) a1 8 c1 w1 hr1 (by omega)).mono ?_
  rintro e w2 ⟨rfl, d2⟩
  obtain ⟨N, hN⟩ : ∃ N, N = blk (putR y 8) := ⟨_, rfl⟩
  have hNl : N.length = 16 := by rw [hN]; exact blk_length _
  rw [← hN]
  have HN := Lib.hid hN
  have D2 := d1.trans (d2.mono d1.size)
  obtain ⟨W3, hW3⟩ : ∃ W3, w2.alloc (.cells (A8 N) 31) = W3 := ⟨_, rfl⟩
  obtain ⟨n3, d3, z3⟩ := new1 _ _ _ _ hW3
  have D3 := D2.trans (d3.mono D2.size)
  have N3 := Lib.hid n3
  have X3 := Lib.hid (X0.out.belowAll D3)
  have P3 := Lib.hid (P0.out.belowAll D3)
  have Z3 := Lib.hid (Z0.out.belowAll D3)
  have R3 := Lib.hid (R0.out.below D3)
  have B3 := Lib.hid (B0.out.trans (D3.mono B0.out.size))
  clear o1 hr1 d1 d2 D2 d3 D3 n3 z3 hN X0 P0 Z0 R0 B0
  go_upto_region 2 with fail
  obtain ⟨pn, hpn⟩ : ∃ p, p = w2.heap.size := ⟨_, rfl⟩
  rw [← hpn] at N3 ⊢
  clear hpn hW3
  refine wp_region_tail [5,0,5,5,2,2,3] (by kernel_rfl) (by kernel_rfl) (fun C hC0 hCb K' hK' => ?_)
  have q0 : ∀ w1, C w1 → rowAt w1 w.heap.size = A8 X := fun w1 h => (X3.out.drew.belowAll (hCb w1 h)).row
  have q1 : ∀ w1, C w1 → rowAt w1 (w.heap.size + 1) = A8 s := fun w1 h => (P3.out.drew.belowAll (hCb w1 h)).row
  have q2 : ∀ w1, C w1 → rowAt w1 pn = A8 N := fun w1 h => (N3.out.drew.belowAll (hCb w1 h)).row
  repeat
    first
      | ((with_reducible refine h_pure (v := ?_) (a' := ?_) ?_ (fun _ => ?_) ?_ ?_); rotate_left; rotate_left; (focus (exact rfl)); (focus (go_simp; (try go_bits); exact rfl)); (focus (simp only [Act.put, List.setIfInBounds_toArray, List.set_cons_succ, List.set_cons_zero, Act.eval, Array.getD_eq_getD_getElem?, List.getElem?_toArray, List.getElem?_cons_succ, List.getElem?_cons_zero, Option.getD_some]; exact rfl)))
      | ((with_reducible refine h_obl (v := ?_) (a' := ?_) ?_ (fun _ hcw => ?_) ?_ ?_); rotate_left; rotate_left; (focus (exact rfl)); (focus (have f := q0 _ hcw; have f' := q1 _ hcw; have f'' := q2 _ hcw; go_simp; (try go_bits); exact rfl)); (focus (simp only [Act.put, List.setIfInBounds_toArray, List.set_cons_succ, List.set_cons_zero, Act.eval, Array.getD_eq_getD_getElem?, List.getElem?_toArray, List.getElem?_cons_succ, List.getElem?_cons_zero, Option.getD_some]; exact rfl)))
      | ((with_reducible refine h_read (v := ?_) (a' := ?_) ?_ (fun _ hbw => ?_) ?_ ?_); rotate_left; rotate_left; (focus (exact rfl)); (focus (skip; go_simp; (try go_bits); exact rfl)); (focus (simp only [Act.put, List.setIfInBounds_toArray, List.set_cons_succ, List.set_cons_zero, Act.eval, Array.getD_eq_getD_getElem?, List.getElem?_toArray, List.getElem?_cons_succ, List.getElem?_cons_zero, Option.getD_some]; exact rfl)))
  (with_reducible refine h_call ?_ ?_)
  · exact rfl
  go_simp
  refine entersW_of ?_
  refine (refSixteen_any s N W3.drew hs hNl).mono ?_
  rintro e w4 ⟨rfl, d4⟩
  refine ⟨_, rfl, d4, ?_⟩
  try simp only [Act.put, List.setIfInBounds_toArray, List.set_cons_succ, List.set_cons_zero]
  rw [HN.out, xct_put s y]
  (with_reducible refine h_call ?_ ?_)
  · exact rfl
  go_simp
  refine entersW_of ?_
  refine (refEncrypt_any X TT KK L (xctS s y) g c m w4 HX.out (R3.out.drew.below d4) (xctS_length s y) hm hm2).mono ?_
  rintro e w5 ⟨rfl, d5⟩
  refine ⟨_, rfl, d5, ?_⟩
  try simp only [Act.put, List.setIfInBounds_toArray, List.set_cons_succ, List.set_cons_zero]
  have D5 := d4.trans (d5.mono d4.size)
  have hYl := xblock_length L m s y
  refine h_tail [2] rfl (by simp) ?_
  refine z_storeRow (cs := A8 (xblock L m s y)) (Z3.out.drew.belowAll D5) rfl rfl (by rw [A8_size, A8_size, hYl, zeros_length]) (A8_ones _) (by rw [A8_size, hYl]; exact Tryd.sizeOf31 _) (fun w6 k6 g6 s6 => ?_)
  refine z_nil (hK' _ _ ?_)
  have r6 := k6.row
  have e6 := B3.out.drew.trans (D5.mono B3.out.size)
  have B6 := e6.trans (grown_below g6 (by omega) e6.size)
  clear q0 q1 q2 hC0 hCb hK' d4 d5 D5 k6 g6 s6 e6
  go_wp2
  refine bodyPost_row (A8 (xblock L m s y)) rfl rfl rfl (Tryd.isAgg31 _) (Tryd.sizeOf31 _) (by rw [A8_size]; exact hYl) r6 ⟨rfl, B6⟩
end Go.Proofs.YtepijmidafndaaaDoor
