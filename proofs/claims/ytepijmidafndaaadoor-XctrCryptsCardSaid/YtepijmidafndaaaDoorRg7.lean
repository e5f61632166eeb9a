/- turn by definition: rounds there and back -/
import Derived.Test.YtepijmidafndaaaDoorRg6
namespace Go.Proofs.YtepijmidafndaaaDoor
open Go.RowKit
@[go_sem high] theorem buildB4_mix (w : World) : (buildB4 100 (.int .u8 2) (.int .u8 3) (.int .u8 1) (.int .u8 1)).run Tryd.prog w = .ok (.agg (A8 mixM)) w := by kernel_rfl
@[go_sem high] theorem buildB4_unmix (w : World) : (buildB4 100 (.int .u8 14) (.int .u8 11) (.int .u8 13) (.int .u8 9)).run Tryd.prog w = .ok (.agg (A8 unmixM)) w := by kernel_rfl
theorem boxes_to : boxesL.take 256 = boxT := by rw [boxesL, List.take_left' boxT_length]
theorem boxes_back : (boxesL.drop 256).take 256 = backT := by rw [boxesL, List.drop_left' boxT_length, List.take_of_length_le (by rw [backT_length]; omega)]
/-- what the boxes are for a round -/
structure BoxL (X T K : List (BitVec 8)) : Prop where
  len : X.length = 512
  to_ : X.take 256 = T
  back : (X.drop 256).take 256 = K
  lt : T.length = 256
  lk : K.length = 256
  ft : ∀ v : BitVec 8, nth T v.toNat = box v
  fk : ∀ v : BitVec 8, nth K v.toNat = unbox v
theorem boxL_all : BoxL boxesL boxT backT := ⟨boxesL_length, boxes_to, boxes_back, boxT_length, backT_length, fun _ => rfl, fun _ => rfl⟩
set_option linter.unusedSimpArgs false in
set_option maxRecDepth 100000 in
set_option maxHeartbeats 800000 in
theorem refRound_any (X T K b key : List (BitVec 8)) (w : World) (hX : BoxL X T K) (hb16 : b.length = 16) (hk16 : key.length = 16) :
    Calls Tryd.prog 85 #[.agg (A8 X), .agg (A8 b), .agg (A8 key)] w fun e w' => e = .returned (.agg (A8 (roundS b key))) ∧ Below w.heap.size w w' := by
  obtain ⟨W, hW⟩ : ∃ W, (((w.alloc (.cells (A8 X) 38)).alloc (.cells (A8 b) 31)).alloc (.cells (A8 key) 31)).alloc (.cells (A8 (zeros 8 16)) 31) = W := ⟨_, rfl⟩
  obtain ⟨b0, b1, b2, b3, hb, hz⟩ := new4 _ _ _ _ _ _ _ _ _ _ hW
  have X0 := Lib.hid b0
  have P0 := Lib.hid b1
  have Q0 := Lib.hid b2
  have Z0 := Lib.hid b3
  have B0 := Lib.hid hb
  have HX := Lib.hid hX
  have x1 := hX.to_
  have x2 := hX.back
  have x3 := hX.len
  clear b0 b1 b2 b3 hb hz hX
  go_enter Tryd.func85, Tryd.ntmps85
  go_upto_region 1 with fail
  clear hW
  refine wp_region_tail [0,5,5,2,2,0,2,5,2,3] (by kernel_rfl) (by kernel_rfl) (fun C hC0 hCb K' hK' => ?_)
  have R0 : ∀ w1, C w1 → rowAt w1 w.heap.size = A8 X := fun w1 h => (X0.out.drew.belowAll (hCb w1 h)).row
  have R1 : ∀ w1, C w1 → rowAt w1 (w.heap.size + 1) = A8 b := fun w1 h => (P0.out.drew.belowAll (hCb w1 h)).row
  have R2 : ∀ w1, C w1 → rowAt w1 (w.heap.size + 2) = A8 key := fun w1 h => (Q0.out.drew.belowAll (hCb w1 h)).row
  repeat
    first
      | ((with_reducible refine h_pure (v := ?_) (a' := ?_) ?_ (fun _ => ?_) ?_ ?_); rotate_left; rotate_left; (focus (exact rfl)); (focus (go_simp; (try go_bits); exact rfl)); (focus (simp only [Act.put, List.setIfInBounds_toArray, List.set_cons_succ, List.set_cons_zero, Act.eval, Array.getD_eq_getD_getElem?, List.getElem?_toArray, List.getElem?_cons_succ, List.getElem?_cons_zero, Option.getD_some]; exact rfl)))
      | ((with_reducible refine h_obl (v := ?_) (a' := ?_) ?_ (fun _ hcw => ?_) ?_ ?_); rotate_left; rotate_left; (focus (exact rfl)); (focus (have f0 := R0 _ hcw; have f1 := R1 _ hcw; have f2 := R2 _ hcw; go_simp; (try go_bits); exact rfl)); (focus (simp only [Act.put, List.setIfInBounds_toArray, List.set_cons_succ, List.set_cons_zero, Act.eval, Array.getD_eq_getD_getElem?, List.getElem?_toArray, List.getElem?_cons_succ, List.getElem?_cons_zero, Option.getD_some]; exact rfl)))
      | ((with_reducible refine h_read (v := ?_) (a' := ?_) ?_ (fun _ hbw => ?_) ?_ ?_); rotate_left; rotate_left; (focus (exact rfl)); (focus (skip; go_simp; (try go_bits); exact rfl)); (focus (simp only [Act.put, List.setIfInBounds_toArray, List.set_cons_succ, List.set_cons_zero, Act.eval, Array.getD_eq_getD_getElem?, List.getElem?_toArray, List.getElem?_cons_succ, List.getElem?_cons_zero, Option.getD_some]; exact rfl)))
  (with_reducible refine h_call ?_ ?_)
  · exact rfl
  go_simp
  refine entersW_of ?_
  refine (refsub_any box T b W.drew HX.out.lt HX.out.ft hb16).mono ?_
  rintro e w1 ⟨rfl, d1⟩
  refine ⟨_, rfl, d1, ?_⟩
  try simp only [Act.put, List.setIfInBounds_toArray, List.set_cons_succ, List.set_cons_zero]
  (with_reducible refine h_call ?_ ?_)
  · exact rfl
  go_simp
  refine entersW_of ?_
  refine (refshiftL_any (sub16 box b) w1 (sub16_length _ _)).mono ?_
  rintro e w2 ⟨rfl, d2⟩
  refine ⟨_, rfl, d2, ?_⟩
  try simp only [Act.put, List.setIfInBounds_toArray, List.set_cons_succ, List.set_cons_zero]
  repeat
    first
      | ((with_reducible refine h_pure (v := ?_) (a' := ?_) ?_ (fun _ => ?_) ?_ ?_); rotate_left; rotate_left; (focus (exact rfl)); (focus (go_simp; (try go_bits); exact rfl)); (focus (simp only [Act.put, List.setIfInBounds_toArray, List.set_cons_succ, List.set_cons_zero, Act.eval, Array.getD_eq_getD_getElem?, List.getElem?_toArray, List.getElem?_cons_succ, List.getElem?_cons_zero, Option.getD_some]; exact rfl)))
      | ((with_reducible refine h_obl (v := ?_) (a' := ?_) ?_ (fun _ hcw => ?_) ?_ ?_); rotate_left; rotate_left; (focus (exact rfl)); (focus (have f0 := R0 _ hcw; have f1 := R1 _ hcw; have f2 := R2 _ hcw; go_simp; (try go_bits); exact rfl)); (focus (simp only [Act.put, List.setIfInBounds_toArray, List.set_cons_succ, List.set_cons_zero, Act.eval, Array.getD_eq_getD_getElem?, List.getElem?_toArray, List.getElem?_cons_succ, List.getElem?_cons_zero, Option.getD_some]; exact rfl)))
      | ((with_reducible refine h_read (v := ?_) (a' := ?_) ?_ (fun _ hbw => ?_) ?_ ?_); rotate_left; rotate_left; (focus (exact rfl)); (focus (skip; go_simp; (try go_bits); exact rfl)); (focus (simp only [Act.put, List.setIfInBounds_toArray, List.set_cons_succ, List.set_cons_zero, Act.eval, Array.getD_eq_getD_getElem?, List.getElem?_toArray, List.getElem?_cons_succ, List.getElem?_cons_zero, Option.getD_some]; exact rfl)))
  (with_reducible refine h_call ?_ ?_)
  · exact rfl
  go_simp
  refine entersW_of ?_
  refine (refmix_any mixM (shift16 (sub16 box b)) w2 rfl (shift16_length _)).mono ?_
  rintro e w3 ⟨rfl, d3⟩
  refine ⟨_, rfl, d3, ?_⟩
  try simp only [Act.put, List.setIfInBounds_toArray, List.set_cons_succ, List.set_cons_zero]
  repeat
    first
      | ((with_reducible refine h_pure (v := ?_) (a' := ?_) ?_ (fun _ => ?_) ?_ ?_); rotate_left; rotate_left; (focus (exact rfl)); (focus (go_simp; (try go_bits); exact rfl)); (focus (simp only [Act.put, List.setIfInBounds_toArray, List.set_cons_succ, List.set_cons_zero, Act.eval, Array.getD_eq_getD_getElem?, List.getElem?_toArray, List.getElem?_cons_succ, List.getElem?_cons_zero, Option.getD_some]; exact rfl)))
      | ((with_reducible refine h_obl (v := ?_) (a' := ?_) ?_ (fun _ hcw => ?_) ?_ ?_); rotate_left; rotate_left; (focus (exact rfl)); (focus (have f0 := R0 _ hcw; have f1 := R1 _ hcw; have f2 := R2 _ hcw; go_simp; (try go_bits); exact rfl)); (focus (simp only [Act.put, List.setIfInBounds_toArray, List.set_cons_succ, List.set_cons_zero, Act.eval, Array.getD_eq_getD_getElem?, List.getElem?_toArray, List.getElem?_cons_succ, List.getElem?_cons_zero, Option.getD_some]; exact rfl)))
      | ((with_reducible refine h_read (v := ?_) (a' := ?_) ?_ (fun _ hbw => ?_) ?_ ?_); rotate_left; rotate_left; (focus (exact rfl)); (focus (skip; go_simp; (try go_bits); exact rfl)); (focus (simp only [Act.put, List.setIfInBounds_toArray, List.set_cons_succ, List.set_cons_zero, Act.eval, Array.getD_eq_getD_getElem?, List.getElem?_toArray, List.getElem?_cons_succ, List.getElem?_cons_zero, Option.getD_some]; exact rfl)))
  (with_reducible refine h_call ?_ ?_)
  · exact rfl
  go_simp
  refine entersW_of ?_
  refine (refSixteen_any (mix16 mixM (shift16 (sub16 box b))) key w3 (mix16_length _ _) hk16).mono ?_
  rintro e w4 ⟨rfl, d4⟩
  refine ⟨_, rfl, d4, ?_⟩
  try simp only [Act.put, List.setIfInBounds_toArray, List.set_cons_succ, List.set_cons_zero]
  have DD := (((d1).trans (d2.mono (d1).size)).trans (d3.mono ((d1).trans (d2.mono (d1).size)).size)).trans (d4.mono (((d1).trans (d2.mono (d1).size)).trans (d3.mono ((d1).trans (d2.mono (d1).size)).size)).size)
  refine h_tail [2] rfl (by simp) ?_
  have hYl := roundS_length b key
  refine z_storeRow (cs := A8 (roundS b key)) (Z0.out.drew.belowAll DD) rfl rfl (by rw [A8_size, A8_size, hYl, zeros_length]) (A8_ones _) (by rw [A8_size, hYl]; exact Tryd.sizeOf31 _) (fun w5 k5 g5 s5 => ?_)
  refine z_nil (hK' _ _ ?_)
  have r5 := k5.row
  have e5 := B0.out.drew.trans (DD.mono B0.out.size)
  have B5 := e5.trans (grown_below g5 (by omega) e5.size)
  clear R0 R1 R2 hC0 hCb hK' DD
  go_wp2
  refine bodyPost_row (A8 (roundS b key)) rfl rfl rfl (Tryd.isAgg31 _) (Tryd.sizeOf31 _) (by rw [A8_size]; exact hYl) r5 ⟨rfl, B5⟩
set_option linter.unusedSimpArgs false in
set_option maxRecDepth 100000 in
set_option maxHeartbeats 800000 in
theorem refLast_any (X T K b key : List (BitVec 8)) (w : World) (hX : BoxL X T K) (hb16 : b.length = 16) (hk16 : key.length = 16) :
    Calls Tryd.prog 86 #[.agg (A8 X), .agg (A8 b), .agg (A8 key)] w fun e w' => e = .returned (.agg (A8 (lastS b key))) ∧ Below w.heap.size w w' := by
  obtain ⟨W, hW⟩ : ∃ W, (((w.alloc (.cells (A8 X) 38)).alloc (.cells (A8 b) 31)).alloc (.cells (A8 key) 31)).alloc (.cells (A8 (zeros 8 16)) 31) = W := ⟨_, rfl⟩
  obtain ⟨b0, b1, b2, b3, hb, hz⟩ := new4 _ _ _ _ _ _ _ _ _ _ hW
  have X0 := Lib.hid b0
  have P0 := Lib.hid b1
  have Q0 := Lib.hid b2
  have Z0 := Lib.hid b3
  have B0 := Lib.hid hb
  have HX := Lib.hid hX
  have x1 := hX.to_
  have x2 := hX.back
  have x3 := hX.len
  clear b0 b1 b2 b3 hb hz hX
  go_enter Tryd.func86, Tryd.ntmps86
  go_upto_region 1 with fail
  clear hW
  refine wp_region_tail [0,5,5,2,2,5,2,3] (by kernel_rfl) (by kernel_rfl) (fun C hC0 hCb K' hK' => ?_)
  have R0 : ∀ w1, C w1 → rowAt w1 w.heap.size = A8 X := fun w1 h => (X0.out.drew.belowAll (hCb w1 h)).row
  have R1 : ∀ w1, C w1 → rowAt w1 (w.heap.size + 1) = A8 b := fun w1 h => (P0.out.drew.belowAll (hCb w1 h)).row
  have R2 : ∀ w1, C w1 → rowAt w1 (w.heap.size + 2) = A8 key := fun w1 h => (Q0.out.drew.belowAll (hCb w1 h)).row
  repeat
    first
      | ((with_reducible refine h_pure (v := ?_) (a' := ?_) ?_ (fun _ => ?_) ?_ ?_); rotate_left; rotate_left; (focus (exact rfl)); (focus (go_simp; (try go_bits); exact rfl)); (focus (simp only [Act.put, List.setIfInBounds_toArray, List.set_cons_succ, List.set_cons_zero, Act.eval, Array.getD_eq_getD_getElem?, List.getElem?_toArray, List.getElem?_cons_succ, List.getElem?_cons_zero, Option.getD_some]; exact rfl)))
      | ((with_reducible refine h_obl (v := ?_) (a' := ?_) ?_ (fun _ hcw => ?_) ?_ ?_); rotate_left; rotate_left; (focus (exact rfl)); (focus (have f0 := R0 _ hcw; have f1 := R1 _ hcw; have f2 := R2 _ hcw; go_simp; (try go_bits); exact rfl)); (focus (simp only [Act.put, List.setIfInBounds_toArray, List.set_cons_succ, List.set_cons_zero, Act.eval, Array.getD_eq_getD_getElem?, List.getElem?_toArray, List.getElem?_cons_succ, List.getElem?_cons_zero, Option.getD_some]; exact rfl)))
      | ((with_reducible refine h_read (v := ?_) (a' := ?_) ?_ (fun _ hbw => ?_) ?_ ?_); rotate_left; rotate_left; (focus (exact rfl)); (focus (skip; go_simp; (try go_bits); exact rfl)); (focus (simp only [Act.put, List.setIfInBounds_toArray, List.set_cons_succ, List.set_cons_zero, Act.eval, Array.getD_eq_getD_getElem?, List.getElem?_toArray, List.getElem?_cons_succ, List.getElem?_cons_zero, Option.getD_some]; exact rfl)))
  (with_reducible refine h_call ?_ ?_)
  · exact rfl
  go_simp
  refine entersW_of ?_
  refine (refsub_any box T b W.drew HX.out.lt HX.out.ft hb16).mono ?_
  rintro e w1 ⟨rfl, d1⟩
  refine ⟨_, rfl, d1, ?_⟩
  try simp only [Act.put, List.setIfInBounds_toArray, List.set_cons_succ, List.set_cons_zero]
  (with_reducible refine h_call ?_ ?_)
  · exact rfl
  go_simp
  refine entersW_of ?_
  refine (refshiftL_any (sub16 box b) w1 (sub16_length _ _)).mono ?_
  rintro e w2 ⟨rfl, d2⟩
  refine ⟨_, rfl, d2, ?_⟩
  try simp only [Act.put, List.setIfInBounds_toArray, List.set_cons_succ, List.set_cons_zero]
  repeat
    first
      | ((with_reducible refine h_pure (v := ?_) (a' := ?_) ?_ (fun _ => ?_) ?_ ?_); rotate_left; rotate_left; (focus (exact rfl)); (focus (go_simp; (try go_bits); exact rfl)); (focus (simp only [Act.put, List.setIfInBounds_toArray, List.set_cons_succ, List.set_cons_zero, Act.eval, Array.getD_eq_getD_getElem?, List.getElem?_toArray, List.getElem?_cons_succ, List.getElem?_cons_zero, Option.getD_some]; exact rfl)))
      | ((with_reducible refine h_obl (v := ?_) (a' := ?_) ?_ (fun _ hcw => ?_) ?_ ?_); rotate_left; rotate_left; (focus (exact rfl)); (focus (have f0 := R0 _ hcw; have f1 := R1 _ hcw; have f2 := R2 _ hcw; go_simp; (try go_bits); exact rfl)); (focus (simp only [Act.put, List.setIfInBounds_toArray, List.set_cons_succ, List.set_cons_zero, Act.eval, Array.getD_eq_getD_getElem?, List.getElem?_toArray, List.getElem?_cons_succ, List.getElem?_cons_zero, Option.getD_some]; exact rfl)))
      | ((with_reducible refine h_read (v := ?_) (a' := ?_) ?_ (fun _ hbw => ?_) ?_ ?_); rotate_left; rotate_left; (focus (exact rfl)); (focus (skip; go_simp; (try go_bits); exact rfl)); (focus (simp only [Act.put, List.setIfInBounds_toArray, List.set_cons_succ, List.set_cons_zero, Act.eval, Array.getD_eq_getD_getElem?, List.getElem?_toArray, List.getElem?_cons_succ, List.getElem?_cons_zero, Option.getD_some]; exact rfl)))
  (with_reducible refine h_call ?_ ?_)
  · exact rfl
  go_simp
  refine entersW_of ?_
  refine (refSixteen_any (shift16 (sub16 box b)) key w2 (shift16_length _) hk16).mono ?_
  rintro e w3 ⟨rfl, d3⟩
  refine ⟨_, rfl, d3, ?_⟩
  try simp only [Act.put, List.setIfInBounds_toArray, List.set_cons_succ, List.set_cons_zero]
  have DD := ((d1).trans (d2.mono (d1).size)).trans (d3.mono ((d1).trans (d2.mono (d1).size)).size)
  refine h_tail [2] rfl (by simp) ?_
  have hYl := lastS_length b key
  refine z_storeRow (cs := A8 (lastS b key)) (Z0.out.drew.belowAll DD) rfl rfl (by rw [A8_size, A8_size, hYl, zeros_length]) (A8_ones _) (by rw [A8_size, hYl]; exact Tryd.sizeOf31 _) (fun w5 k5 g5 s5 => ?_)
  refine z_nil (hK' _ _ ?_)
  have r5 := k5.row
  have e5 := B0.out.drew.trans (DD.mono B0.out.size)
  have B5 := e5.trans (grown_below g5 (by omega) e5.size)
  clear R0 R1 R2 hC0 hCb hK' DD
  go_wp2
  refine bodyPost_row (A8 (lastS b key)) rfl rfl rfl (Tryd.isAgg31 _) (Tryd.sizeOf31 _) (by rw [A8_size]; exact hYl) r5 ⟨rfl, B5⟩
set_option linter.unusedSimpArgs false in
set_option maxRecDepth 100000 in
set_option maxHeartbeats 800000 in
theorem refUnround_any (X T K b key : List (BitVec 8)) (w : World) (hX : BoxL X T K) (hb16 : b.length = 16) (hk16 : key.length = 16) :
    Calls Tryd.prog 88 #[.agg (A8 X), .agg (A8 b), .agg (A8 key)] w fun e w' => e = .returned (.agg (A8 (unroundS b key))) ∧ Below w.heap.size w w' := by
  obtain ⟨W, hW⟩ : ∃ W, (((w.alloc (.cells (A8 X) 38)).alloc (.cells (A8 b) 31)).alloc (.cells (A8 key) 31)).alloc (.cells (A8 (zeros 8 16)) 31) = W := ⟨_, rfl⟩
  obtain ⟨b0, b1, b2, b3, hb, hz⟩ := new4 _ _ _ _ _ _ _ _ _ _ hW
  have X0 := Lib.hid b0
  have P0 := Lib.hid b1
  have Q0 := Lib.hid b2
  have Z0 := Lib.hid b3
  have B0 := Lib.hid hb
  have HX := Lib.hid hX
  have x1 := hX.to_
  have x2 := hX.back
  have x3 := hX.len
  clear b0 b1 b2 b3 hb hz hX
  go_enter Tryd.func88, Tryd.ntmps88
  go_upto_region 1 with fail
  clear hW
  refine wp_region_tail [0,5,5,5,2,0,2,2,2,3] (by kernel_rfl) (by kernel_rfl) (fun C hC0 hCb K' hK' => ?_)
  have R0 : ∀ w1, C w1 → rowAt w1 w.heap.size = A8 X := fun w1 h => (X0.out.drew.belowAll (hCb w1 h)).row
  have R1 : ∀ w1, C w1 → rowAt w1 (w.heap.size + 1) = A8 b := fun w1 h => (P0.out.drew.belowAll (hCb w1 h)).row
  have R2 : ∀ w1, C w1 → rowAt w1 (w.heap.size + 2) = A8 key := fun w1 h => (Q0.out.drew.belowAll (hCb w1 h)).row
  repeat
    first
      | ((with_reducible refine h_pure (v := ?_) (a' := ?_) ?_ (fun _ => ?_) ?_ ?_); rotate_left; rotate_left; (focus (exact rfl)); (focus (go_simp; (try go_bits); exact rfl)); (focus (simp only [Act.put, List.setIfInBounds_toArray, List.set_cons_succ, List.set_cons_zero, Act.eval, Array.getD_eq_getD_getElem?, List.getElem?_toArray, List.getElem?_cons_succ, List.getElem?_cons_zero, Option.getD_some]; exact rfl)))
      | ((with_reducible refine h_obl (v := ?_) (a' := ?_) ?_ (fun _ hcw => ?_) ?_ ?_); rotate_left; rotate_left; (focus (exact rfl)); (focus (have f0 := R0 _ hcw; have f1 := R1 _ hcw; have f2 := R2 _ hcw; go_simp; (try go_bits); exact rfl)); (focus (simp only [Act.put, List.setIfInBounds_toArray, List.set_cons_succ, List.set_cons_zero, Act.eval, Array.getD_eq_getD_getElem?, List.getElem?_toArray, List.getElem?_cons_succ, List.getElem?_cons_zero, Option.getD_some]; exact rfl)))
      | ((with_reducible refine h_read (v := ?_) (a' := ?_) ?_ (fun _ hbw => ?_) ?_ ?_); rotate_left; rotate_left; (focus (exact rfl)); (focus (skip; go_simp; (try go_bits); exact rfl)); (focus (simp only [Act.put, List.setIfInBounds_toArray, List.set_cons_succ, List.set_cons_zero, Act.eval, Array.getD_eq_getD_getElem?, List.getElem?_toArray, List.getElem?_cons_succ, List.getElem?_cons_zero, Option.getD_some]; exact rfl)))
  (with_reducible refine h_call ?_ ?_)
  · exact rfl
  go_simp
  refine entersW_of ?_
  refine (refSixteen_any b key W.drew hb16 hk16).mono ?_
  rintro e w1 ⟨rfl, d1⟩
  refine ⟨_, rfl, d1, ?_⟩
  try simp only [Act.put, List.setIfInBounds_toArray, List.set_cons_succ, List.set_cons_zero]
  repeat
    first
      | ((with_reducible refine h_pure (v := ?_) (a' := ?_) ?_ (fun _ => ?_) ?_ ?_); rotate_left; rotate_left; (focus (exact rfl)); (focus (go_simp; (try go_bits); exact rfl)); (focus (simp only [Act.put, List.setIfInBounds_toArray, List.set_cons_succ, List.set_cons_zero, Act.eval, Array.getD_eq_getD_getElem?, List.getElem?_toArray, List.getElem?_cons_succ, List.getElem?_cons_zero, Option.getD_some]; exact rfl)))
      | ((with_reducible refine h_obl (v := ?_) (a' := ?_) ?_ (fun _ hcw => ?_) ?_ ?_); rotate_left; rotate_left; (focus (exact rfl)); (focus (have f0 := R0 _ hcw; have f1 := R1 _ hcw; have f2 := R2 _ hcw; go_simp; (try go_bits); exact rfl)); (focus (simp only [Act.put, List.setIfInBounds_toArray, List.set_cons_succ, List.set_cons_zero, Act.eval, Array.getD_eq_getD_getElem?, List.getElem?_toArray, List.getElem?_cons_succ, List.getElem?_cons_zero, Option.getD_some]; exact rfl)))
      | ((with_reducible refine h_read (v := ?_) (a' := ?_) ?_ (fun _ hbw => ?_) ?_ ?_); rotate_left; rotate_left; (focus (exact rfl)); (focus (skip; go_simp; (try go_bits); exact rfl)); (focus (simp only [Act.put, List.setIfInBounds_toArray, List.set_cons_succ, List.set_cons_zero, Act.eval, Array.getD_eq_getD_getElem?, List.getElem?_toArray, List.getElem?_cons_succ, List.getElem?_cons_zero, Option.getD_some]; exact rfl)))
  (with_reducible refine h_call ?_ ?_)
  · exact rfl
  go_simp
  refine entersW_of ?_
  refine (refmix_any unmixM (xor16 b key) w1 rfl (xor16_length _ _)).mono ?_
  rintro e w2 ⟨rfl, d2⟩
  refine ⟨_, rfl, d2, ?_⟩
  try simp only [Act.put, List.setIfInBounds_toArray, List.set_cons_succ, List.set_cons_zero]
  (with_reducible refine h_call ?_ ?_)
  · exact rfl
  go_simp
  refine entersW_of ?_
  refine (refshiftR_any (mix16 unmixM (xor16 b key)) w2 (mix16_length _ _)).mono ?_
  rintro e w3 ⟨rfl, d3⟩
  refine ⟨_, rfl, d3, ?_⟩
  try simp only [Act.put, List.setIfInBounds_toArray, List.set_cons_succ, List.set_cons_zero]
  (with_reducible refine h_call ?_ ?_)
  · exact rfl
  go_simp
  refine entersW_of ?_
  refine (refsub_any unbox K (unshift16 (mix16 unmixM (xor16 b key))) w3 HX.out.lk HX.out.fk (unshift16_length _)).mono ?_
  rintro e w4 ⟨rfl, d4⟩
  refine ⟨_, rfl, d4, ?_⟩
  try simp only [Act.put, List.setIfInBounds_toArray, List.set_cons_succ, List.set_cons_zero]
  have DD := (((d1).trans (d2.mono (d1).size)).trans (d3.mono ((d1).trans (d2.mono (d1).size)).size)).trans (d4.mono (((d1).trans (d2.mono (d1).size)).trans (d3.mono ((d1).trans (d2.mono (d1).size)).size)).size)
  refine h_tail [2] rfl (by simp) ?_
  have hYl := unroundS_length b key
  refine z_storeRow (cs := A8 (unroundS b key)) (Z0.out.drew.belowAll DD) rfl rfl (by rw [A8_size, A8_size, hYl, zeros_length]) (A8_ones _) (by rw [A8_size, hYl]; exact Tryd.sizeOf31 _) (fun w5 k5 g5 s5 => ?_)
  refine z_nil (hK' _ _ ?_)
  have r5 := k5.row
  have e5 := B0.out.drew.trans (DD.mono B0.out.size)
  have B5 := e5.trans (grown_below g5 (by omega) e5.size)
  clear R0 R1 R2 hC0 hCb hK' DD
  go_wp2
  refine bodyPost_row (A8 (unroundS b key)) rfl rfl rfl (Tryd.isAgg31 _) (Tryd.sizeOf31 _) (by rw [A8_size]; exact hYl) r5 ⟨rfl, B5⟩
set_option linter.unusedSimpArgs false in
set_option maxRecDepth 100000 in
set_option maxHeartbeats 800000 in
theorem refUnlast_any (X T K b key : List (BitVec 8)) (w : World) (hX : BoxL X T K) (hb16 : b.length = 16) (hk16 : key.length = 16) :
    Calls Tryd.prog 87 #[.agg (A8 X), .agg (A8 b), .agg (A8 key)] w fun e w' => e = .returned (.agg (A8 (unlastS b key))) ∧ Below w.heap.size w w' := by
  obtain ⟨W, hW⟩ : ∃ W, (((w.alloc (.cells (A8 X) 38)).alloc (.cells (A8 b) 31)).alloc (.cells (A8 key) 31)).alloc (.cells (A8 (zeros 8 16)) 31) = W := ⟨_, rfl⟩
  obtain ⟨b0, b1, b2, b3, hb, hz⟩ := new4 _ _ _ _ _ _ _ _ _ _ hW
  have X0 := Lib.hid b0
  have P0 := Lib.hid b1
  have Q0 := Lib.hid b2
  have Z0 := Lib.hid b3
  have B0 := Lib.hid hb
  have HX := Lib.hid hX
  have x1 := hX.to_
  have x2 := hX.back
  have x3 := hX.len
  clear b0 b1 b2 b3 hb hz hX
  go_enter Tryd.func87, Tryd.ntmps87
  go_upto_region 1 with fail
  clear hW
  refine wp_region_tail [0,5,5,5,2,2,2,3] (by kernel_rfl) (by kernel_rfl) (fun C hC0 hCb K' hK' => ?_)
  have R0 : ∀ w1, C w1 → rowAt w1 w.heap.size = A8 X := fun w1 h => (X0.out.drew.belowAll (hCb w1 h)).row
  have R1 : ∀ w1, C w1 → rowAt w1 (w.heap.size + 1) = A8 b := fun w1 h => (P0.out.drew.belowAll (hCb w1 h)).row
  have R2 : ∀ w1, C w1 → rowAt w1 (w.heap.size + 2) = A8 key := fun w1 h => (Q0.out.drew.belowAll (hCb w1 h)).row
  repeat
    first
      | ((with_reducible refine h_pure (v := ?_) (a' := ?_) ?_ (fun _ => ?_) ?_ ?_); rotate_left; rotate_left; (focus (exact rfl)); (focus (go_simp; (try go_bits); exact rfl)); (focus (simp only [Act.put, List.setIfInBounds_toArray, List.set_cons_succ, List.set_cons_zero, Act.eval, Array.getD_eq_getD_getElem?, List.getElem?_toArray, List.getElem?_cons_succ, List.getElem?_cons_zero, Option.getD_some]; exact rfl)))
      | ((with_reducible refine h_obl (v := ?_) (a' := ?_) ?_ (fun _ hcw => ?_) ?_ ?_); rotate_left; rotate_left; (focus (exact rfl)); (focus (have f0 := R0 _ hcw; have f1 := R1 _ hcw; have f2 := R2 _ hcw; go_simp; (try go_bits); exact rfl)); (focus (simp only [Act.put, List.setIfInBounds_toArray, List.set_cons_succ, List.set_cons_zero, Act.eval, Array.getD_eq_getD_getElem?, List.getElem?_toArray, List.getElem?_cons_succ, List.getElem?_cons_zero, Option.getD_some]; exact rfl)))
      | ((with_reducible refine h_read (v := ?_) (a' := ?_) ?_ (fun _ hbw => ?_) ?_ ?_); rotate_left; rotate_left; (focus (exact rfl)); (focus (skip; go_simp; (try go_bits); exact rfl)); (focus (simp only [Act.put, List.setIfInBounds_toArray, List.set_cons_succ, List.set_cons_zero, Act.eval, Array.getD_eq_getD_getElem?, List.getElem?_toArray, List.getElem?_cons_succ, List.getElem?_cons_zero, Option.getD_some]; exact rfl)))
  (with_reducible refine h_call ?_ ?_)
  · exact rfl
  go_simp
  refine entersW_of ?_
  refine (refSixteen_any b key W.drew hb16 hk16).mono ?_
  rintro e w1 ⟨rfl, d1⟩
  refine ⟨_, rfl, d1, ?_⟩
  try simp only [Act.put, List.setIfInBounds_toArray, List.set_cons_succ, List.set_cons_zero]
  (with_reducible refine h_call ?_ ?_)
  · exact rfl
  go_simp
  refine entersW_of ?_
  refine (refshiftR_any (xor16 b key) w1 (xor16_length _ _)).mono ?_
  rintro e w2 ⟨rfl, d2⟩
  refine ⟨_, rfl, d2, ?_⟩
  try simp only [Act.put, List.setIfInBounds_toArray, List.set_cons_succ, List.set_cons_zero]
  (with_reducible refine h_call ?_ ?_)
  · exact rfl
  go_simp
  refine entersW_of ?_
  refine (refsub_any unbox K (unshift16 (xor16 b key)) w2 HX.out.lk HX.out.fk (unshift16_length _)).mono ?_
  rintro e w3 ⟨rfl, d3⟩
  refine ⟨_, rfl, d3, ?_⟩
  try simp only [Act.put, List.setIfInBounds_toArray, List.set_cons_succ, List.set_cons_zero]
  have DD := ((d1).trans (d2.mono (d1).size)).trans (d3.mono ((d1).trans (d2.mono (d1).size)).size)
  refine h_tail [2] rfl (by simp) ?_
  have hYl := unlastS_length b key
  refine z_storeRow (cs := A8 (unlastS b key)) (Z0.out.drew.belowAll DD) rfl rfl (by rw [A8_size, A8_size, hYl, zeros_length]) (A8_ones _) (by rw [A8_size, hYl]; exact Tryd.sizeOf31 _) (fun w5 k5 g5 s5 => ?_)
  refine z_nil (hK' _ _ ?_)
  have r5 := k5.row
  have e5 := B0.out.drew.trans (DD.mono B0.out.size)
  have B5 := e5.trans (grown_below g5 (by omega) e5.size)
  clear R0 R1 R2 hC0 hCb hK' DD
  go_wp2
  refine bodyPost_row (A8 (unlastS b key)) rfl rfl rfl (Tryd.isAgg31 _) (Tryd.sizeOf31 _) (by rw [A8_size]; exact hYl) r5 ⟨rfl, B5⟩
end Go.Proofs.YtepijmidafndaaaDoor
