/- turn by definition: rounds there and back -/
import Derived.Test.YtfdkmjegcghieaaGreatDoorMRg6
import Derived.Test.YtfdkmjegcghieaaGreatDoorMGh
import Derived.Test.YtfdkmjegcghieaaGreatDoorMGk
namespace Go.Proofs.YtfdkmjegcghieaaGreatDoor
open Lib (hid)
set_option linter.unusedSimpArgs false
set_option maxRecDepth 100000
set_option maxHeartbeats 1600000
open Go.RowKit
@[go_sem high] theorem buildB4_mix (w : World) : (buildB4 106 (.int .u8 2) (.int .u8 3) (.int .u8 1) (.int .u8 1)).run Tryz.prog w = .ok (.agg (A8 mixM)) w := by kernel_rfl
@[go_sem high] theorem buildB4_unmix (w : World) : (buildB4 106 (.int .u8 14) (.int .u8 11) (.int .u8 13) (.int .u8 9)).run Tryz.prog w = .ok (.agg (A8 unmixM)) w := by kernel_rfl
theorem boxes_to : boxesL.take 256 = boxT := by rw [boxesL, List.take_left' boxT_length]
theorem boxes_back : (boxesL.drop 256).take 256 = backT := by rw [boxesL, List.drop_left' boxT_length, List.take_of_length_le (by rw [backT_length]; omega)]
structure BoxL (X T K : List (BitVec 8)) : Prop where
 len : X.length = 512
 to_ : X.take 256 = T
 back : (X.drop 256).take 256 = K
 lt : T.length = 256
 lk : K.length = 256
 ft : ∀ v : BitVec 8, nth T v.toNat = box v
 fk : ∀ v : BitVec 8, nth K v.toNat = unbox v
theorem boxL_all : BoxL boxesL boxT backT := ⟨boxesL_length, boxes_to, boxes_back, boxT_length, backT_length, fun _ => rfl, fun _ => rfl⟩
theorem refRound_any (X T K b key : List (BitVec 8)) (w : World) (hX : BoxL X T K) (hb16 : b.length = 16) (hk16 : key.length = 16) :
  Calls Tryz.prog 68 #[.agg (A8 X), .agg (A8 b), .agg (A8 key)] w fun e w' => e = .returned (.agg (A8 (roundS b key))) ∧ Below w.heap.size w w' := by
 obtain ⟨W, hW⟩ : ∃ W, (((w.alloc (.cells (A8 X) 35)).alloc (.cells (A8 b) 37)).alloc (.cells (A8 key) 37)).alloc (.cells (A8 (zeros 8 16)) 37) = W := ⟨_, rfl⟩
 obtain ⟨b0, b1, b2, b3, hb, hz⟩ := new4 _ _ _ _ _ _ _ _ _ _ hW
 have X0 := hid b0
 have P0 := hid b1
 have Q0 := hid b2
 have Z0 := hid b3
 have B0 := hid hb
 have HX := hid hX
 have x1 := hX.to_
 have x2 := hX.back
 have x3 := hX.len
 clear b0 b1 b2 b3 hb hz hX
 go_enter Tryz.func68, Tryz.ntmps68
 go_upto_region 1 with fail
 clear hW
 refine wp_region_tail [0,5,5,2,2,0,2,5,2,3] (by kernel_rfl) (by kernel_rfl) (fun C hC0 hCb K' hK' => ?_)
 have R0 : ∀ w1, C w1 → rowAt w1 w.heap.size = A8 X := fun w1 h => (X0.out.drew.belowAll (hCb w1 h)).row
 have R1 : ∀ w1, C w1 → rowAt w1 (w.heap.size + 1) = A8 b := fun w1 h => (P0.out.drew.belowAll (hCb w1 h)).row
 have R2 : ∀ w1, C w1 → rowAt w1 (w.heap.size + 2) = A8 key := fun w1 h => (Q0.out.drew.belowAll (hCb w1 h)).row
 repeat
  (first
   | (with_reducible refine h_pure (v := ?_) (a' := ?_) ?_ (fun _ => ?_) ?_ ?_); rotate_left 2; (focus (exact rfl)); (focus (go_simp; (try go_bits); exact rfl))
   | (with_reducible refine h_obl (v := ?_) (a' := ?_) ?_ (fun _ hcw => ?_) ?_ ?_); rotate_left 2; (focus (exact rfl)); (focus (have f0 := R0 _ hcw; have f1 := R1 _ hcw; have f2 := R2 _ hcw; go_simp; (try go_bits); exact rfl))
   | (with_reducible refine h_read (v := ?_) (a' := ?_) ?_ (fun _ hbw => ?_) ?_ ?_); rotate_left 2; (focus (exact rfl)); (focus (go_simp; (try go_bits); exact rfl)))
  focus (simp only [Act.put, zz1, zz2, zz3, Act.eval, zz4, zz5, zz6, zz7, zz8]; exact rfl)
 (with_reducible refine h_call ?_ ?_)
 ·exact rfl
 go_simp
 refine entersW_of ?_
 refine (refsub_any box T b W.drew HX.out.lt HX.out.ft hb16).mono ?_
 rintro e w1 ⟨rfl, d1⟩
 refine ⟨_, rfl, d1, ?_⟩
 try simp only [Act.put, zz1, zz2, zz3]
 (with_reducible refine h_call ?_ ?_)
 ·exact rfl
 go_simp
 refine entersW_of ?_
 refine (refshiftL_any (sub16 box b) w1 (sub16_length _ _)).mono ?_
 rintro e w2 ⟨rfl, d2⟩
 refine ⟨_, rfl, d2, ?_⟩
 try simp only [Act.put, zz1, zz2, zz3]
 repeat
  (first
   | (with_reducible refine h_pure (v := ?_) (a' := ?_) ?_ (fun _ => ?_) ?_ ?_); rotate_left 2; (focus (exact rfl)); (focus (go_simp; (try go_bits); exact rfl))
   | (with_reducible refine h_obl (v := ?_) (a' := ?_) ?_ (fun _ hcw => ?_) ?_ ?_); rotate_left 2; (focus (exact rfl)); (focus (have f0 := R0 _ hcw; have f1 := R1 _ hcw; have f2 := R2 _ hcw; go_simp; (try go_bits); exact rfl))
   | (with_reducible refine h_read (v := ?_) (a' := ?_) ?_ (fun _ hbw => ?_) ?_ ?_); rotate_left 2; (focus (exact rfl)); (focus (go_simp; (try go_bits); exact rfl)))
  focus (simp only [Act.put, zz1, zz2, zz3, Act.eval, zz4, zz5, zz6, zz7, zz8]; exact rfl)
 (with_reducible refine h_call ?_ ?_)
 ·exact rfl
 go_simp
 refine entersW_of ?_
 refine (refmix_any mixM (shift16 (sub16 box b)) w2 rfl (shift16_length _)).mono ?_
 rintro e w3 ⟨rfl, d3⟩
 refine ⟨_, rfl, d3, ?_⟩
 try simp only [Act.put, zz1, zz2, zz3]
 repeat
  (first
   | (with_reducible refine h_pure (v := ?_) (a' := ?_) ?_ (fun _ => ?_) ?_ ?_); rotate_left 2; (focus (exact rfl)); (focus (go_simp; (try go_bits); exact rfl))
   | (with_reducible refine h_obl (v := ?_) (a' := ?_) ?_ (fun _ hcw => ?_) ?_ ?_); rotate_left 2; (focus (exact rfl)); (focus (have f0 := R0 _ hcw; have f1 := R1 _ hcw; have f2 := R2 _ hcw; go_simp; (try go_bits); exact rfl))
   | (with_reducible refine h_read (v := ?_) (a' := ?_) ?_ (fun _ hbw => ?_) ?_ ?_); rotate_left 2; (focus (exact rfl)); (focus (go_simp; (try go_bits); exact rfl)))
  focus (simp only [Act.put, zz1, zz2, zz3, Act.eval, zz4, zz5, zz6, zz7, zz8]; exact rfl)
 (with_reducible refine h_call ?_ ?_)
 ·exact rfl
 go_simp
 refine entersW_of ?_
 refine (refSixteen_any (mix16 mixM (shift16 (sub16 box b))) key w3 (mix16_length _ _) hk16).mono ?_
 rintro e w4 ⟨rfl, d4⟩
 refine ⟨_, rfl, d4, ?_⟩
 try simp only [Act.put, zz1, zz2, zz3]
 have DD := (((d1).trans (d2.mono (d1).size)).trans (d3.mono ((d1).trans (d2.mono (d1).size)).size)).trans (d4.mono (((d1).trans (d2.mono (d1).size)).trans (d3.mono ((d1).trans (d2.mono (d1).size)).size)).size)
 refine h_tail [2] rfl (by simp) ?_
 have hYl := roundS_length b key
 refine z_storeRow (cs := A8 (roundS b key)) (Z0.out.drew.belowAll DD) rfl rfl (by rw [A8_size, A8_size, hYl, zeros_length]) (A8_ones _) (by rw [A8_size, hYl]; exact Tryz.sizeOf37 _) (fun w5 k5 g5 s5 => ?_)
 refine z_nil (hK' _ _ ?_)
 have r5 := k5.row
 have e5 := B0.out.drew.trans (DD.mono B0.out.size)
 have B5 := e5.trans (grown_below g5 (by omega) e5.size)
 clear R0 R1 R2 hC0 hCb hK' DD
 go_wp2
 refine bodyPost_row (A8 (roundS b key)) rfl rfl rfl (Tryz.isAgg37 _) (Tryz.sizeOf37 _) (by rw [A8_size]; exact hYl) r5 ⟨rfl, B5⟩
theorem refLast_any (X T K b key : List (BitVec 8)) (w : World) (hX : BoxL X T K) (hb16 : b.length = 16) (hk16 : key.length = 16) :
  Calls Tryz.prog 69 #[.agg (A8 X), .agg (A8 b), .agg (A8 key)] w fun e w' => e = .returned (.agg (A8 (lastS b key))) ∧ Below w.heap.size w w' := by
 obtain ⟨W, hW⟩ : ∃ W, (((w.alloc (.cells (A8 X) 35)).alloc (.cells (A8 b) 37)).alloc (.cells (A8 key) 37)).alloc (.cells (A8 (zeros 8 16)) 37) = W := ⟨_, rfl⟩
 obtain ⟨b0, b1, b2, b3, hb, hz⟩ := new4 _ _ _ _ _ _ _ _ _ _ hW
 have X0 := hid b0
 have P0 := hid b1
 have Q0 := hid b2
 have Z0 := hid b3
 have B0 := hid hb
 have HX := hid hX
 have x1 := hX.to_
 have x2 := hX.back
 have x3 := hX.len
 clear b0 b1 b2 b3 hb hz hX
 go_enter Tryz.func69, Tryz.ntmps69
 go_upto_region 1 with fail
 clear hW
 refine wp_region_tail [0,5,5,2,2,5,2,3] (by kernel_rfl) (by kernel_rfl) (fun C hC0 hCb K' hK' => ?_)
 have R0 : ∀ w1, C w1 → rowAt w1 w.heap.size = A8 X := fun w1 h => (X0.out.drew.belowAll (hCb w1 h)).row
 have R1 : ∀ w1, C w1 → rowAt w1 (w.heap.size + 1) = A8 b := fun w1 h => (P0.out.drew.belowAll (hCb w1 h)).row
 have R2 : ∀ w1, C w1 → rowAt w1 (w.heap.size + 2) = A8 key := fun w1 h => (Q0.out.drew.belowAll (hCb w1 h)).row
 repeat
  (first
   | (with_reducible refine h_pure (v := ?_) (a' := ?_) ?_ (fun _ => ?_) ?_ ?_); rotate_left 2; (focus (exact rfl)); (focus (go_simp; (try go_bits); exact rfl))
   | (with_reducible refine h_obl (v := ?_) (a' := ?_) ?_ (fun _ hcw => ?_) ?_ ?_); rotate_left 2; (focus (exact rfl)); (focus (have f0 := R0 _ hcw; have f1 := R1 _ hcw; have f2 := R2 _ hcw; go_simp; (try go_bits); exact rfl))
   | (with_reducible refine h_read (v := ?_) (a' := ?_) ?_ (fun _ hbw => ?_) ?_ ?_); rotate_left 2; (focus (exact rfl)); (focus (go_simp; (try go_bits); exact rfl)))
  focus (simp only [Act.put, zz1, zz2, zz3, Act.eval, zz4, zz5, zz6, zz7, zz8]; exact rfl)
 (with_reducible refine h_call ?_ ?_)
 ·exact rfl
 go_simp
 refine entersW_of ?_
 refine (refsub_any box T b W.drew HX.out.lt HX.out.ft hb16).mono ?_
 rintro e w1 ⟨rfl, d1⟩
 refine ⟨_, rfl, d1, ?_⟩
 try simp only [Act.put, zz1, zz2, zz3]
 (with_reducible refine h_call ?_ ?_)
 ·exact rfl
 go_simp
 refine entersW_of ?_
 refine (refshiftL_any (sub16 box b) w1 (sub16_length _ _)).mono ?_
 rintro e w2 ⟨rfl, d2⟩
 refine ⟨_, rfl, d2, ?_⟩
 try simp only [Act.put, zz1, zz2, zz3]
 repeat
  (first
   | (with_reducible refine h_pure (v := ?_) (a' := ?_) ?_ (fun _ => ?_) ?_ ?_); rotate_left 2; (focus (exact rfl)); (focus (go_simp; (try go_bits); exact rfl))
   | (with_reducible refine h_obl (v := ?_) (a' := ?_) ?_ (fun _ hcw => ?_) ?_ ?_); rotate_left 2; (focus (exact rfl)); (focus (have f0 := R0 _ hcw; have f1 := R1 _ hcw; have f2 := R2 _ hcw; go_simp; (try go_bits); exact rfl))
   | (with_reducible refine h_read (v := ?_) (a' := ?_) ?_ (fun _ hbw => ?_) ?_ ?_); rotate_left 2; (focus (exact rfl)); (focus (go_simp; (try go_bits); exact rfl)))
  focus (simp only [Act.put, zz1, zz2, zz3, Act.eval, zz4, zz5, zz6, zz7, zz8]; exact rfl)
 (with_reducible refine h_call ?_ ?_)
 ·exact rfl
 go_simp
 refine entersW_of ?_
 refine (refSixteen_any (shift16 (sub16 box b)) key w2 (shift16_length _) hk16).mono ?_
 rintro e w3 ⟨rfl, d3⟩
 refine ⟨_, rfl, d3, ?_⟩
 try simp only [Act.put, zz1, zz2, zz3]
 have DD := ((d1).trans (d2.mono (d1).size)).trans (d3.mono ((d1).trans (d2.mono (d1).size)).size)
 refine h_tail [2] rfl (by simp) ?_
 have hYl := lastS_length b key
 refine z_storeRow (cs := A8 (lastS b key)) (Z0.out.drew.belowAll DD) rfl rfl (by rw [A8_size, A8_size, hYl, zeros_length]) (A8_ones _) (by rw [A8_size, hYl]; exact Tryz.sizeOf37 _) (fun w5 k5 g5 s5 => ?_)
 refine z_nil (hK' _ _ ?_)
 have r5 := k5.row
 have e5 := B0.out.drew.trans (DD.mono B0.out.size)
 have B5 := e5.trans (grown_below g5 (by omega) e5.size)
 clear R0 R1 R2 hC0 hCb hK' DD
 go_wp2
 refine bodyPost_row (A8 (lastS b key)) rfl rfl rfl (Tryz.isAgg37 _) (Tryz.sizeOf37 _) (by rw [A8_size]; exact hYl) r5 ⟨rfl, B5⟩
theorem refUnround_any (X T K b key : List (BitVec 8)) (w : World) (hX : BoxL X T K) (hb16 : b.length = 16) (hk16 : key.length = 16) :
  Calls Tryz.prog 76 #[.agg (A8 X), .agg (A8 b), .agg (A8 key)] w fun e w' => e = .returned (.agg (A8 (unroundS b key))) ∧ Below w.heap.size w w' := by
 obtain ⟨W, hW⟩ : ∃ W, (((w.alloc (.cells (A8 X) 35)).alloc (.cells (A8 b) 37)).alloc (.cells (A8 key) 37)).alloc (.cells (A8 (zeros 8 16)) 37) = W := ⟨_, rfl⟩
 obtain ⟨b0, b1, b2, b3, hb, hz⟩ := new4 _ _ _ _ _ _ _ _ _ _ hW
 have X0 := hid b0
 have P0 := hid b1
 have Q0 := hid b2
 have Z0 := hid b3
 have B0 := hid hb
 have HX := hid hX
 have x1 := hX.to_
 have x2 := hX.back
 have x3 := hX.len
 clear b0 b1 b2 b3 hb hz hX
 go_enter Tryz.func76, Tryz.ntmps76
 go_upto_region 1 with fail
 clear hW
 refine wp_region_tail [0,5,5,5,2,0,2,2,2,3] (by kernel_rfl) (by kernel_rfl) (fun C hC0 hCb K' hK' => ?_)
 have R0 : ∀ w1, C w1 → rowAt w1 w.heap.size = A8 X := fun w1 h => (X0.out.drew.belowAll (hCb w1 h)).row
 have R1 : ∀ w1, C w1 → rowAt w1 (w.heap.size + 1) = A8 b := fun w1 h => (P0.out.drew.belowAll (hCb w1 h)).row
 have R2 : ∀ w1, C w1 → rowAt w1 (w.heap.size + 2) = A8 key := fun w1 h => (Q0.out.drew.belowAll (hCb w1 h)).row
 repeat
  (first
   | (with_reducible refine h_pure (v := ?_) (a' := ?_) ?_ (fun _ => ?_) ?_ ?_); rotate_left 2; (focus (exact rfl)); (focus (go_simp; (try go_bits); exact rfl))
   | (with_reducible refine h_obl (v := ?_) (a' := ?_) ?_ (fun _ hcw => ?_) ?_ ?_); rotate_left 2; (focus (exact rfl)); (focus (have f0 := R0 _ hcw; have f1 := R1 _ hcw; have f2 := R2 _ hcw; go_simp; (try go_bits); exact rfl))
   | (with_reducible refine h_read (v := ?_) (a' := ?_) ?_ (fun _ hbw => ?_) ?_ ?_); rotate_left 2; (focus (exact rfl)); (focus (go_simp; (try go_bits); exact rfl)))
  focus (simp only [Act.put, zz1, zz2, zz3, Act.eval, zz4, zz5, zz6, zz7, zz8]; exact rfl)
 (with_reducible refine h_call ?_ ?_)
 ·exact rfl
 go_simp
 refine entersW_of ?_
 refine (refSixteen_any b key W.drew hb16 hk16).mono ?_
 rintro e w1 ⟨rfl, d1⟩
 refine ⟨_, rfl, d1, ?_⟩
 try simp only [Act.put, zz1, zz2, zz3]
 repeat
  (first
   | (with_reducible refine h_pure (v := ?_) (a' := ?_) ?_ (fun _ => ?_) ?_ ?_); rotate_left 2; (focus (exact rfl)); (focus (go_simp; (try go_bits); exact rfl))
   | (with_reducible refine h_obl (v := ?_) (a' := ?_) ?_ (fun _ hcw => ?_) ?_ ?_); rotate_left 2; (focus (exact rfl)); (focus (have f0 := R0 _ hcw; have f1 := R1 _ hcw; have f2 := R2 _ hcw; go_simp; (try go_bits); exact rfl))
   | (with_reducible refine h_read (v := ?_) (a' := ?_) ?_ (fun _ hbw => ?_) ?_ ?_); rotate_left 2; (focus (exact rfl)); (focus (go_simp; (try go_bits); exact rfl)))
  focus (simp only [Act.put, zz1, zz2, zz3, Act.eval, zz4, zz5, zz6, zz7, zz8]; exact rfl)
 (with_reducible refine h_call ?_ ?_)
 ·exact rfl
 go_simp
 refine entersW_of ?_
 refine (refmix_any unmixM (xor16 b key) w1 rfl (xor16_length _ _)).mono ?_
 rintro e w2 ⟨rfl, d2⟩
 refine ⟨_, rfl, d2, ?_⟩
 try simp only [Act.put, zz1, zz2, zz3]
 (with_reducible refine h_call ?_ ?_)
 ·exact rfl
 go_simp
 refine entersW_of ?_
 refine (refshiftR_any (mix16 unmixM (xor16 b key)) w2 (mix16_length _ _)).mono ?_
 rintro e w3 ⟨rfl, d3⟩
 refine ⟨_, rfl, d3, ?_⟩
 try simp only [Act.put, zz1, zz2, zz3]
 (with_reducible refine h_call ?_ ?_)
 ·exact rfl
 go_simp
 refine entersW_of ?_
 refine (refsub_any unbox K (unshift16 (mix16 unmixM (xor16 b key))) w3 HX.out.lk HX.out.fk (unshift16_length _)).mono ?_
 rintro e w4 ⟨rfl, d4⟩
 refine ⟨_, rfl, d4, ?_⟩
 try simp only [Act.put, zz1, zz2, zz3]
 have DD := (((d1).trans (d2.mono (d1).size)).trans (d3.mono ((d1).trans (d2.mono (d1).size)).size)).trans (d4.mono (((d1).trans (d2.mono (d1).size)).trans (d3.mono ((d1).trans (d2.mono (d1).size)).size)).size)
 refine h_tail [2] rfl (by simp) ?_
 have hYl := unroundS_length b key
 refine z_storeRow (cs := A8 (unroundS b key)) (Z0.out.drew.belowAll DD) rfl rfl (by rw [A8_size, A8_size, hYl, zeros_length]) (A8_ones _) (by rw [A8_size, hYl]; exact Tryz.sizeOf37 _) (fun w5 k5 g5 s5 => ?_)
 refine z_nil (hK' _ _ ?_)
 have r5 := k5.row
 have e5 := B0.out.drew.trans (DD.mono B0.out.size)
 have B5 := e5.trans (grown_below g5 (by omega) e5.size)
 clear R0 R1 R2 hC0 hCb hK' DD
 go_wp2
 refine bodyPost_row (A8 (unroundS b key)) rfl rfl rfl (Tryz.isAgg37 _) (Tryz.sizeOf37 _) (by rw [A8_size]; exact hYl) r5 ⟨rfl, B5⟩
theorem refUnlast_any (X T K b key : List (BitVec 8)) (w : World) (hX : BoxL X T K) (hb16 : b.length = 16) (hk16 : key.length = 16) :
  Calls Tryz.prog 75 #[.agg (A8 X), .agg (A8 b), .agg (A8 key)] w fun e w' => e = .returned (.agg (A8 (unlastS b key))) ∧ Below w.heap.size w w' := by
 obtain ⟨W, hW⟩ : ∃ W, (((w.alloc (.cells (A8 X) 35)).alloc (.cells (A8 b) 37)).alloc (.cells (A8 key) 37)).alloc (.cells (A8 (zeros 8 16)) 37) = W := ⟨_, rfl⟩
 obtain ⟨b0, b1, b2, b3, hb, hz⟩ := new4 _ _ _ _ _ _ _ _ _ _ hW
 have X0 := hid b0
 have P0 := hid b1
 have Q0 := hid b2
 have Z0 := hid b3
 have B0 := hid hb
 have HX := hid hX
 have x1 := hX.to_
 have x2 := hX.back
 have x3 := hX.len
 clear b0 b1 b2 b3 hb hz hX
 go_enter Tryz.func75, Tryz.ntmps75
 go_upto_region 1 with fail
 clear hW
 refine wp_region_tail [0,5,5,5,2,2,2,3] (by kernel_rfl) (by kernel_rfl) (fun C hC0 hCb K' hK' => ?_)
 have R0 : ∀ w1, C w1 → rowAt w1 w.heap.size = A8 X := fun w1 h => (X0.out.drew.belowAll (hCb w1 h)).row
 have R1 : ∀ w1, C w1 → rowAt w1 (w.heap.size + 1) = A8 b := fun w1 h => (P0.out.drew.belowAll (hCb w1 h)).row
 have R2 : ∀ w1, C w1 → rowAt w1 (w.heap.size + 2) = A8 key := fun w1 h => (Q0.out.drew.belowAll (hCb w1 h)).row
 repeat
  (first
   | (with_reducible refine h_pure (v := ?_) (a' := ?_) ?_ (fun _ => ?_) ?_ ?_); rotate_left 2; (focus (exact rfl)); (focus (go_simp; (try go_bits); exact rfl))
   | (with_reducible refine h_obl (v := ?_) (a' := ?_) ?_ (fun _ hcw => ?_) ?_ ?_); rotate_left 2; (focus (exact rfl)); (focus (have f0 := R0 _ hcw; have f1 := R1 _ hcw; have f2 := R2 _ hcw; go_simp; (try go_bits); exact rfl))
   | (with_reducible refine h_read (v := ?_) (a' := ?_) ?_ (fun _ hbw => ?_) ?_ ?_); rotate_left 2; (focus (exact rfl)); (focus (go_simp; (try go_bits); exact rfl)))
  focus (simp only [Act.put, zz1, zz2, zz3, Act.eval, zz4, zz5, zz6, zz7, zz8]; exact rfl)
 (with_reducible refine h_call ?_ ?_)
 ·exact rfl
 go_simp
 refine entersW_of ?_
 refine (refSixteen_any b key W.drew hb16 hk16).mono ?_
 rintro e w1 ⟨rfl, d1⟩
 refine ⟨_, rfl, d1, ?_⟩
 try simp only [Act.put, zz1, zz2, zz3]
 (with_reducible refine h_call ?_ ?_)
 ·exact rfl
 go_simp
 refine entersW_of ?_
 refine (refshiftR_any (xor16 b key) w1 (xor16_length _ _)).mono ?_
 rintro e w2 ⟨rfl, d2⟩
 refine ⟨_, rfl, d2, ?_⟩
 try simp only [Act.put, zz1, zz2, zz3]
 (with_reducible refine h_call ?_ ?_)
 ·exact rfl
 go_simp
 refine entersW_of ?_
 refine (refsub_any unbox K (unshift16 (xor16 b key)) w2 HX.out.lk HX.out.fk (unshift16_length _)).mono ?_
 rintro e w3 ⟨rfl, d3⟩
 refine ⟨_, rfl, d3, ?_⟩
 try simp only [Act.put, zz1, zz2, zz3]
 have DD := ((d1).trans (d2.mono (d1).size)).trans (d3.mono ((d1).trans (d2.mono (d1).size)).size)
 refine h_tail [2] rfl (by simp) ?_
 have hYl := unlastS_length b key
 refine z_storeRow (cs := A8 (unlastS b key)) (Z0.out.drew.belowAll DD) rfl rfl (by rw [A8_size, A8_size, hYl, zeros_length]) (A8_ones _) (by rw [A8_size, hYl]; exact Tryz.sizeOf37 _) (fun w5 k5 g5 s5 => ?_)
 refine z_nil (hK' _ _ ?_)
 have r5 := k5.row
 have e5 := B0.out.drew.trans (DD.mono B0.out.size)
 have B5 := e5.trans (grown_below g5 (by omega) e5.size)
 clear R0 R1 R2 hC0 hCb hK' DD
 go_wp2
 refine bodyPost_row (A8 (unlastS b key)) rfl rfl rfl (Tryz.isAgg37 _) (Tryz.sizeOf37 _) (by rw [A8_size]; exact hYl) r5 ⟨rfl, B5⟩
open Go.RowKit
theorem refEncrypt_any (X TT KK L b : List (BitVec 8)) (g c m : Nat) (w : World) (hX : BoxL X TT KK) (hR : RdS w 16 (some ⟨g, 0, none⟩) m c L) (hb16 : b.length = 16) (hm : 3 ≤ m) (hm2 : m ≤ 100) :
  Calls Tryz.prog 31 #[.agg (A8 X), .slice (some ⟨g, 0, none⟩) m c, .agg (A8 b)] w fun e w' => e = .returned (.agg (A8 (encS L m b))) ∧ Below w.heap.size w w' := by
 obtain ⟨W, hW⟩ : ∃ W, ((w.alloc (.cells (A8 X) 35)).alloc (.cells (A8 b) 37)).alloc (.cells (A8 (zeros 8 16)) 37) = W := ⟨_, rfl⟩
 obtain ⟨b0, b1, b2, hb, hz⟩ := new3 _ _ _ _ _ _ _ _ hW
 have X0 := hid b0
 have P0 := hid b1
 have Z0 := hid b2
 have B0 := hid hb
 have R0 := hid (hR.below hb)
 have HX := hid hX
 have x3 := hX.len
 have HLL := hid hR.1
 have RW := hid hR
 obtain ⟨I, hI⟩ : ∃ I, I = m - 1 := ⟨_, rfl⟩
 have f1 : (m : Int) - 1 = (I : Int) := by omega
 have f2 : IntKind.i64.wrap (I : Int) = (I : Int) := by rw [IntKind.wrap_i64]; omega
 have f3 : (0 : Int) ≤ (I : Int) := by omega
 have f4 : (I : Int) < (m : Int) := by omega
 have f5 : 0 < m := by omega
 have HI := hid hI
 clear b0 b1 b2 hb hz hX hR hI
 obtain ⟨k0, hk0⟩ : ∃ k0, k0 = keyAt L 0 := ⟨_, rfl⟩
 have hk0l : k0.length = 16 := by rw [hk0]; exact keyAt_length L m 0 HLL.out (by omega)
 have HK0 := hid hk0
 clear hk0
 go_enter Tryz.func31, Tryz.ntmps31
 go_upto_region 1 with fail
 clear hW
 refine wp_region_tail [5,0,0,5,2,3] (by kernel_rfl) (by kernel_rfl) (fun C hC0 hCb K' hK' => ?_)
 have q1 : ∀ w1, C w1 → rowAt w1 (w.heap.size + 1) = A8 b := fun w1 h => (P0.out.drew.belowAll (hCb w1 h)).row
 have q2 : ∀ w1, C w1 → (getAt 37 (.pointer (some ⟨g, 0, none⟩))).run Tryz.prog w1 = .ok (.agg (A8 k0)) w1 := fun w1 h => by
  have c3 := (R0.out.drew.below (hCb w1 h)).row (t := 37) (Tryz.isAgg37 _) (Tryz.sizeOf37 _) 0 (by omega)
  rw [HK0.out]; exact c3
 repeat
  (first
   | (with_reducible refine h_pure (v := ?_) (a' := ?_) ?_ (fun _ => ?_) ?_ ?_); rotate_left 2; (focus (exact rfl)); (focus (go_simp; (try go_bits); exact rfl))
   | (with_reducible refine h_obl (v := ?_) (a' := ?_) ?_ (fun _ hcw => ?_) ?_ ?_); rotate_left 2; (focus (exact rfl)); (focus (have f := q1 _ hcw; have f' := q2 _ hcw; go_simp; (try go_bits); exact rfl))
   | (with_reducible refine h_read (v := ?_) (a' := ?_) ?_ (fun _ hbw => ?_) ?_ ?_); rotate_left 2; (focus (exact rfl)); (focus (go_simp; (try go_bits); exact rfl)))
  focus (simp only [Act.put, zz1, zz2, zz3, Act.eval, zz4, zz5, zz6, zz7, zz8]; exact rfl)
 (with_reducible refine h_call ?_ ?_)
 ·exact rfl
 go_simp
 refine entersW_of ?_
 refine (refSixteen_any b k0 W.drew hb16 hk0l).mono ?_
 rintro e w3 ⟨rfl, b3⟩
 refine ⟨_, rfl, b3, ?_⟩
 try simp only [Act.put, zz1, zz2, zz3]
 refine h_tail [2] rfl (by simp) ?_
 have hYl := xor16_length b k0
 refine z_storeRow (P0.out.drew.belowAll b3) rfl rfl (by rw [A8_size, A8_size, hYl, hb16]) (A8_ones _) (by rw [A8_size, hYl]; exact Tryz.sizeOf37 _) (fun w5 k5 g5 s5 => ?_)
 refine z_nil (hK' _ _ ?_)
 have d4 := B0.out.drew.trans (b3.mono B0.out.size)
 have B5 := hid (d4.trans (grown_below g5 (by omega) d4.size))
 have X5 := hid ((X0.out.drew.belowAll b3).grown g5 (by simp))
 have Z5 := hid ((Z0.out.drew.belowAll b3).grown g5 (by simp))
 obtain ⟨M, hM⟩ : ∃ M, M = midKeys L m := ⟨_, rfl⟩
 have HM := hid hM
 have P5 : Hid (Blk w5 (w.heap.size + 1) 37 (A8 (rnds M (xor16 b k0) 0))) := hid k5
 clear q1 q2 hC0 hCb hK' b3 k5 g5 s5 d4 hYl P0 X0 Z0 hM R0 B0
 have hD0 : (xor16 b k0).length = 16 := xor16_length b k0
 obtain ⟨d, hd⟩ : ∃ d, d = xor16 b k0 := ⟨_, rfl⟩
 have HD := hid hd
 rw [← hd] at P5 hD0
 clear hd hk0l
 go_wp2_with fail
 go_loopw [7] (fun s7 wr => ∃ t i : Nat, t + 2 ≤ m ∧ i = t + 1 ∧ s7 = .int .i64 i ∧ Blk wr w.heap.size 35 (A8 X) ∧ Blk wr (w.heap.size + 1) 37 (A8 (rnds M d t)) ∧ Blk wr (w.heap.size + 2) 37 (A8 (zeros 8 16)) ∧ Below w.heap.size w wr) (fun s7 _ => m - (intOf s7).toNat)
 case atStart => exact ⟨0, 1, by omega, rfl, rfl, X5.out, P5.out, Z5.out, B5.out⟩
 case round =>
  obtain ⟨t, i, ht, hi, rfl, hX, hP, hZ, hB⟩ := hrel
  have X1 := hid hX
  have P1 := hid hP
  have Z1 := hid hZ
  have B1 := hid hB
  have HTI := hid hi
  clear hX hP hZ hB X5 P5 Z5 B5 hi
  obtain ⟨y, hy⟩ : ∃ y, y = rnds M d t := ⟨_, rfl⟩
  have hyl : y.length = 16 := by rw [hy]; exact rnds_length _ _ hD0 _
  have HY := hid hy
  have j0 : (0 : Int) ≤ (i : Int) := by omega
  by_cases hiI : i < I
  ·have j1 : (i : Int) < (I : Int) := by omega
   have j2 : (i : Int) < (m : Int) := by omega
   obtain ⟨ke, hke⟩ : ∃ ke, ke = keyAt L i := ⟨_, rfl⟩
   have hkel : ke.length = 16 := by rw [hke]; exact keyAt_length L m _ HLL.out (by omega)
   have HKE := hid hke
   have hnext : rnds M d (t + 1) = roundS y ke := by
    rw [rnds, hy, hke, HM.out, mid_keyAt L m t (by have := HI.out; have := HTI.out; omega) HLL.out, HTI.out]
   have HN := hid hnext
   clear hke hy hnext
   go_upto_region 5 with fail
   refine wp_region_tail [5,5,0,0,0,5,2,3] (by kernel_rfl) (by kernel_rfl) (fun C hC0 hCb K' hK' => ?_)
   have q0 : ∀ w1, C w1 → rowAt w1 w.heap.size = A8 X := fun w1 h => (X1.out.drew.belowAll (hCb w1 h)).row
   have q1 : ∀ w1, C w1 → rowAt w1 (w.heap.size + 1) = A8 y := fun w1 h => by rw [HY.out]; exact (P1.out.drew.belowAll (hCb w1 h)).row
   have q2 : ∀ w1, C w1 → (getAt 37 (.pointer (some ⟨g, i * 16, none⟩))).run Tryz.prog w1 = .ok (.agg (A8 ke)) w1 := fun w1 h => by
    have c3 := ((RW.out.below B1.out).drew.below (hCb w1 h)).row (t := 37) (Tryz.isAgg37 _) (Tryz.sizeOf37 _) i (by omega)
    rw [Nat.zero_add] at c3
    rw [HKE.out]; exact c3
   repeat
    (first
     | (with_reducible refine h_pure (v := ?_) (a' := ?_) ?_ (fun _ => ?_) ?_ ?_); rotate_left 2; (focus (exact rfl)); (focus (go_simp; (try go_bits); exact rfl))
     | (with_reducible refine h_obl (v := ?_) (a' := ?_) ?_ (fun _ hcw => ?_) ?_ ?_); rotate_left 2; (focus (exact rfl)); (focus (have f := q0 _ hcw; have f' := q1 _ hcw; have f'' := q2 _ hcw; go_simp; (try go_bits); exact rfl))
     | (with_reducible refine h_read (v := ?_) (a' := ?_) ?_ (fun _ hbw => ?_) ?_ ?_); rotate_left 2; (focus (exact rfl)); (focus (go_simp; (try go_bits); exact rfl)))
    focus (simp only [Act.put, zz1, zz2, zz3, Act.eval, zz4, zz5, zz6, zz7, zz8]; exact rfl)
   (with_reducible refine h_call ?_ ?_)
   ·exact rfl
   go_simp
   refine entersW_of ?_
   refine (refRound_any X TT KK y ke wr.drew HX.out hyl hkel).mono ?_
   rintro e w3 ⟨rfl, b3⟩
   refine ⟨_, rfl, b3, ?_⟩
   try simp only [Act.put, zz1, zz2, zz3]
   refine h_tail [2] rfl (by simp) ?_
   have hYl := roundS_length y ke
   refine z_storeRow (P1.out.drew.belowAll b3) rfl rfl (by rw [A8_size, A8_size, hYl, ← HY.out, hyl]) (A8_ones _) (by rw [A8_size, hYl]; exact Tryz.sizeOf37 _) (fun w5 k5 g5 s5 => ?_)
   refine z_nil (hK' _ _ ?_)
   rw [← HN.out] at k5
   have d4 := B1.out.drew.trans (b3.mono B1.out.size)
   have B5 := hid (d4.trans (grown_below g5 (by omega) d4.size))
   have X5 := hid ((X1.out.drew.belowAll b3).grown g5 (by simp))
   have Z5 := hid ((Z1.out.drew.belowAll b3).grown g5 (by simp))
   have P5 := hid k5
   clear q0 q1 q2 hC0 hCb hK' b3 k5 g5 s5 d4 hYl P1 X1 Z1 B1
   go_wp2
   exact ⟨⟨t + 1, i + 1, by have := HI.out; have := HTI.out; omega, by have := HTI.out; omega, by go_num, X5.out, P5.out, Z5.out, B5.out⟩, by simp [intOf]; omega⟩
  ·have j1 : ¬ (i : Int) < (I : Int) := by omega
   obtain ⟨ke, hke⟩ : ∃ ke, ke = keyAt L I := ⟨_, rfl⟩
   have hkel : ke.length = 16 := by rw [hke]; exact keyAt_length L m _ HLL.out (by omega)
   have HKE := hid hke
   have hfin : lastS y ke = encS L m b := by
    have h1 := HI.out
    have h2 := HTI.out
    rw [hy, hke, HM.out, HD.out, HK0.out, encS, h1, show t = m - 2 by omega]
   have HF := hid hfin
   clear hke hy hfin
   go_upto_region 6 with fail
   refine wp_region_tail [5,5,0,0,0,0,0,5,2,3] (by kernel_rfl) (by kernel_rfl) (fun C hC0 hCb K' hK' => ?_)
   have q0 : ∀ w1, C w1 → rowAt w1 w.heap.size = A8 X := fun w1 h => (X1.out.drew.belowAll (hCb w1 h)).row
   have q1 : ∀ w1, C w1 → rowAt w1 (w.heap.size + 1) = A8 y := fun w1 h => by rw [HY.out]; exact (P1.out.drew.belowAll (hCb w1 h)).row
   have q2 : ∀ w1, C w1 → (getAt 37 (.pointer (some ⟨g, I * 16, none⟩))).run Tryz.prog w1 = .ok (.agg (A8 ke)) w1 := fun w1 h => by
    have c3 := ((RW.out.below B1.out).drew.below (hCb w1 h)).row (t := 37) (Tryz.isAgg37 _) (Tryz.sizeOf37 _) I (by omega)
    rw [Nat.zero_add] at c3
    rw [HKE.out]; exact c3
   repeat
    (first
     | (with_reducible refine h_pure (v := ?_) (a' := ?_) ?_ (fun _ => ?_) ?_ ?_); rotate_left 2; (focus (exact rfl)); (focus (go_simp; (try go_bits); exact rfl))
     | (with_reducible refine h_obl (v := ?_) (a' := ?_) ?_ (fun _ hcw => ?_) ?_ ?_); rotate_left 2; (focus (exact rfl)); (focus (have f := q0 _ hcw; have f' := q1 _ hcw; have f'' := q2 _ hcw; go_simp; (try go_bits); exact rfl))
     | (with_reducible refine h_read (v := ?_) (a' := ?_) ?_ (fun _ hbw => ?_) ?_ ?_); rotate_left 2; (focus (exact rfl)); (focus (go_simp; (try go_bits); exact rfl)))
    focus (simp only [Act.put, zz1, zz2, zz3, Act.eval, zz4, zz5, zz6, zz7, zz8]; exact rfl)
   (with_reducible refine h_call ?_ ?_)
   ·exact rfl
   go_simp
   refine entersW_of ?_
   refine (refLast_any X TT KK y ke wr.drew HX.out hyl hkel).mono ?_
   rintro e w3 ⟨rfl, b3⟩
   refine ⟨_, rfl, b3, ?_⟩
   try simp only [Act.put, zz1, zz2, zz3]
   refine h_tail [2] rfl (by simp) ?_
   have hYl := lastS_length y ke
   refine z_storeRow (Z1.out.drew.belowAll b3) rfl rfl (by rw [A8_size, A8_size, hYl, zeros_length]) (A8_ones _) (by rw [A8_size, hYl]; exact Tryz.sizeOf37 _) (fun w5 k5 g5 s5 => ?_)
   refine z_nil (hK' _ _ ?_)
   have r5 := k5.row
   have d4 := B1.out.drew.trans (b3.mono B1.out.size)
   have B5 := d4.trans (grown_below g5 (by omega) d4.size)
   obtain ⟨Y, hY⟩ : ∃ Y, Y = lastS y ke := ⟨_, rfl⟩
   rw [← hY] at r5 hYl
   have HF2 : Hid (Y = encS L m b) := hid (by rw [hY]; exact HF.out)
   clear q0 q1 q2 hC0 hCb hK' b3 k5 g5 s5 d4 P1 X1 Z1 B1 hY
   go_wp2
   refine bodyPost_row (A8 Y) rfl rfl rfl (Tryz.isAgg37 _) (Tryz.sizeOf37 _) (by rw [A8_size]; exact hYl) r5 ⟨by rw [HF2.out], B5⟩
open Go.RowKit
theorem refDecrypt_any (X TT KK L b : List (BitVec 8)) (g c m : Nat) (w : World) (hX : BoxL X TT KK) (hR : RdS w 16 (some ⟨g, 0, none⟩) m c L) (hb16 : b.length = 16) (hm : 3 ≤ m) (hm2 : m ≤ 100) :
  Calls Tryz.prog 37 #[.agg (A8 X), .slice (some ⟨g, 0, none⟩) m c, .agg (A8 b)] w fun e w' => e = .returned (.agg (A8 (decS L m b))) ∧ Below w.heap.size w w' := by
 obtain ⟨W, hW⟩ : ∃ W, ((w.alloc (.cells (A8 X) 35)).alloc (.cells (A8 b) 37)).alloc (.cells (A8 (zeros 8 16)) 37) = W := ⟨_, rfl⟩
 obtain ⟨b0, b1, b2, hb, hz⟩ := new3 _ _ _ _ _ _ _ _ hW
 have X0 := hid b0
 have P0 := hid b1
 have Z0 := hid b2
 have B0 := hid hb
 have R0 := hid (hR.below hb)
 have HX := hid hX
 have x3 := hX.len
 have HLL := hid hR.1
 have RW := hid hR
 obtain ⟨I, hI⟩ : ∃ I, I = m - 1 := ⟨_, rfl⟩
 obtain ⟨I2, hI2⟩ : ∃ I, I = m - 2 := ⟨_, rfl⟩
 have f1 : (m : Int) - 1 = (I : Int) := by omega
 have f2 : IntKind.i64.wrap (I : Int) = (I : Int) := by rw [IntKind.wrap_i64]; omega
 have f3 : (0 : Int) ≤ (I : Int) := by omega
 have f4 : (I : Int) < (m : Int) := by omega
 have f5 : 0 < m := by omega
 have f6 : (m : Int) - 2 = (I2 : Int) := by omega
 have f7 : IntKind.i64.wrap (I2 : Int) = (I2 : Int) := by rw [IntKind.wrap_i64]; omega
 have HI := hid hI
 have HI2 := hid hI2
 clear b0 b1 b2 hb hz hX hR hI hI2
 obtain ⟨kl, hkl⟩ : ∃ kl, kl = keyAt L I := ⟨_, rfl⟩
 have hkll : kl.length = 16 := by rw [hkl]; exact keyAt_length L m _ HLL.out (by omega)
 have HKL := hid hkl
 clear hkl
 go_enter Tryz.func37, Tryz.ntmps37
 go_upto_region 1 with fail
 clear hW
 refine wp_region_tail [5,5,0,0,0,0,0,5,2,3] (by kernel_rfl) (by kernel_rfl) (fun C hC0 hCb K' hK' => ?_)
 have q0 : ∀ w1, C w1 → rowAt w1 w.heap.size = A8 X := fun w1 h => (X0.out.drew.belowAll (hCb w1 h)).row
 have q1 : ∀ w1, C w1 → rowAt w1 (w.heap.size + 1) = A8 b := fun w1 h => (P0.out.drew.belowAll (hCb w1 h)).row
 have q2 : ∀ w1, C w1 → (getAt 37 (.pointer (some ⟨g, I * 16, none⟩))).run Tryz.prog w1 = .ok (.agg (A8 kl)) w1 := fun w1 h => by
  have c3 := (R0.out.drew.below (hCb w1 h)).row (t := 37) (Tryz.isAgg37 _) (Tryz.sizeOf37 _) I (by omega)
  rw [Nat.zero_add] at c3
  rw [HKL.out]; exact c3
 repeat
  (first
   | (with_reducible refine h_pure (v := ?_) (a' := ?_) ?_ (fun _ => ?_) ?_ ?_); rotate_left 2; (focus (exact rfl)); (focus (go_simp; (try go_bits); exact rfl))
   | (with_reducible refine h_obl (v := ?_) (a' := ?_) ?_ (fun _ hcw => ?_) ?_ ?_); rotate_left 2; (focus (exact rfl)); (focus (have f := q0 _ hcw; have f' := q1 _ hcw; have f'' := q2 _ hcw; go_simp; (try go_bits); exact rfl))
   | (with_reducible refine h_read (v := ?_) (a' := ?_) ?_ (fun _ hbw => ?_) ?_ ?_); rotate_left 2; (focus (exact rfl)); (focus (go_simp; (try go_bits); exact rfl)))
  focus (simp only [Act.put, zz1, zz2, zz3, Act.eval, zz4, zz5, zz6, zz7, zz8]; exact rfl)
 (with_reducible refine h_call ?_ ?_)
 ·exact rfl
 go_simp
 refine entersW_of ?_
 refine (refUnlast_any X TT KK b kl W.drew HX.out hb16 hkll).mono ?_
 rintro e w3 ⟨rfl, b3⟩
 refine ⟨_, rfl, b3, ?_⟩
 try simp only [Act.put, zz1, zz2, zz3]
 refine h_tail [2] rfl (by simp) ?_
 have hYl := unlastS_length b kl
 refine z_storeRow (P0.out.drew.belowAll b3) rfl rfl (by rw [A8_size, A8_size, hYl, hb16]) (A8_ones _) (by rw [A8_size, hYl]; exact Tryz.sizeOf37 _) (fun w5 k5 g5 s5 => ?_)
 refine z_nil (hK' _ _ ?_)
 have d4 := B0.out.drew.trans (b3.mono B0.out.size)
 have B5 := hid (d4.trans (grown_below g5 (by omega) d4.size))
 have X5 := hid ((X0.out.drew.belowAll b3).grown g5 (by simp))
 have Z5 := hid ((Z0.out.drew.belowAll b3).grown g5 (by simp))
 have P5 : Hid (Blk w5 (w.heap.size + 1) 37 (A8 (unrnds L m b 0))) := hid (by rw [unrnds, ← HI.out, ← HKL.out]; exact k5)
 clear q0 q1 q2 hC0 hCb hK' b3 k5 g5 s5 d4 hYl P0 X0 Z0 R0 B0 hkll f1 f2 f3 f4
 go_wp2_with fail
 go_loopw [7] (fun s7 wr => ∃ t i : Nat, t + 2 ≤ m ∧ i + t + 2 = m ∧ s7 = .int .i64 i ∧ Blk wr w.heap.size 35 (A8 X) ∧ Blk wr (w.heap.size + 1) 37 (A8 (unrnds L m b t)) ∧ Blk wr (w.heap.size + 2) 37 (A8 (zeros 8 16)) ∧ Below w.heap.size w wr) (fun s7 _ => (intOf s7).toNat)
 case atStart => exact ⟨0, I2, by omega, by have := HI2.out; omega, rfl, X5.out, P5.out, Z5.out, B5.out⟩
 case round =>
  obtain ⟨t, i, ht, hi, rfl, hX, hP, hZ, hB⟩ := hrel
  have X1 := hid hX
  have P1 := hid hP
  have Z1 := hid hZ
  have B1 := hid hB
  have HTI := hid hi
  have him : i < m := by omega
  clear hX hP hZ hB X5 P5 Z5 B5 hi ht f6 f7
  obtain ⟨y, hy⟩ : ∃ y, y = unrnds L m b t := ⟨_, rfl⟩
  have hyl : y.length = 16 := by rw [hy]; exact unrnds_length _ _ _ _
  have HY := hid hy
  have j0 : (0 : Int) ≤ (i : Int) := by omega
  by_cases hi1 : 1 ≤ i
  ·have j1 : (1 : Int) ≤ (i : Int) := by omega
   have j2 : (i : Int) < (m : Int) := by omega
   obtain ⟨i', hi'⟩ : ∃ q, q = i - 1 := ⟨_, rfl⟩
   have j3 : (i : Int) - 1 = (i' : Int) := by omega
   have j4 : IntKind.i64.wrap (i' : Int) = (i' : Int) := by rw [IntKind.wrap_i64]; omega
   have HI' := hid hi'
   obtain ⟨ke, hke⟩ : ∃ ke, ke = keyAt L i := ⟨_, rfl⟩
   have hkel : ke.length = 16 := by rw [hke]; exact keyAt_length L m _ HLL.out (by omega)
   have HKE := hid hke
   have hnext : unrnds L m b (t + 1) = unroundS y ke := by
    rw [unrnds, hy, hke, show m - 2 - t = i by have := HTI.out; omega]
   have HN := hid hnext
   clear hke hy hnext hi'
   go_upto_region 5 with fail
   refine wp_region_tail [5,5,0,0,0,5,2,3] (by kernel_rfl) (by kernel_rfl) (fun C hC0 hCb K' hK' => ?_)
   have q0 : ∀ w1, C w1 → rowAt w1 w.heap.size = A8 X := fun w1 h => (X1.out.drew.belowAll (hCb w1 h)).row
   have q1 : ∀ w1, C w1 → rowAt w1 (w.heap.size + 1) = A8 y := fun w1 h => by rw [HY.out]; exact (P1.out.drew.belowAll (hCb w1 h)).row
   have q2 : ∀ w1, C w1 → (getAt 37 (.pointer (some ⟨g, i * 16, none⟩))).run Tryz.prog w1 = .ok (.agg (A8 ke)) w1 := fun w1 h => by
    have c3 := ((RW.out.below B1.out).drew.below (hCb w1 h)).row (t := 37) (Tryz.isAgg37 _) (Tryz.sizeOf37 _) i him
    rw [Nat.zero_add] at c3
    rw [HKE.out]; exact c3
   repeat
    (first
     | (with_reducible refine h_pure (v := ?_) (a' := ?_) ?_ (fun _ => ?_) ?_ ?_); rotate_left 2; (focus (exact rfl)); (focus (go_simp; (try go_bits); exact rfl))
     | (with_reducible refine h_obl (v := ?_) (a' := ?_) ?_ (fun _ hcw => ?_) ?_ ?_); rotate_left 2; (focus (exact rfl)); (focus (have f := q0 _ hcw; have f' := q1 _ hcw; have f'' := q2 _ hcw; go_simp; (try go_bits); exact rfl))
     | (with_reducible refine h_read (v := ?_) (a' := ?_) ?_ (fun _ hbw => ?_) ?_ ?_); rotate_left 2; (focus (exact rfl)); (focus (go_simp; (try go_bits); exact rfl)))
    focus (simp only [Act.put, zz1, zz2, zz3, Act.eval, zz4, zz5, zz6, zz7, zz8]; exact rfl)
   (with_reducible refine h_call ?_ ?_)
   ·exact rfl
   go_simp
   refine entersW_of ?_
   refine (refUnround_any X TT KK y ke wr.drew HX.out hyl hkel).mono ?_
   rintro e w3 ⟨rfl, b3⟩
   refine ⟨_, rfl, b3, ?_⟩
   try simp only [Act.put, zz1, zz2, zz3]
   refine h_tail [2] rfl (by simp) ?_
   have hYl := unroundS_length y ke
   refine z_storeRow (P1.out.drew.belowAll b3) rfl rfl (by rw [A8_size, A8_size, hYl, ← HY.out, hyl]) (A8_ones _) (by rw [A8_size, hYl]; exact Tryz.sizeOf37 _) (fun w5 k5 g5 s5 => ?_)
   refine z_nil (hK' _ _ ?_)
   rw [← HN.out] at k5
   have d4 := B1.out.drew.trans (b3.mono B1.out.size)
   have B5 := hid (d4.trans (grown_below g5 (by omega) d4.size))
   have X5 := hid ((X1.out.drew.belowAll b3).grown g5 (by simp))
   have Z5 := hid ((Z1.out.drew.belowAll b3).grown g5 (by simp))
   have P5 := hid k5
   clear q0 q1 q2 hC0 hCb hK' b3 k5 g5 s5 d4 hYl P1 X1 Z1 B1
   go_wp2
   exact ⟨⟨t + 1, i', by have := HI'.out; have := HTI.out; omega, by have := HI'.out; have := HTI.out; omega, rfl, X5.out, P5.out, Z5.out, B5.out⟩, by have := HI'.out; simp [intOf]; omega⟩
  ·have j1 : ¬ (1 : Int) ≤ (i : Int) := by omega
   obtain ⟨ke, hke⟩ : ∃ ke, ke = keyAt L 0 := ⟨_, rfl⟩
   have hkel : ke.length = 16 := by rw [hke]; exact keyAt_length L m _ HLL.out (by omega)
   have HKE := hid hke
   have hfin : xor16 y ke = decS L m b := by
    have h2 := HTI.out
    rw [hy, hke, decS, show t = m - 2 by omega]
   have HF := hid hfin
   clear hke hy hfin
   go_upto_region 6 with fail
   refine wp_region_tail [5,0,0,5,2,3] (by kernel_rfl) (by kernel_rfl) (fun C hC0 hCb K' hK' => ?_)
   have q1 : ∀ w1, C w1 → rowAt w1 (w.heap.size + 1) = A8 y := fun w1 h => by rw [HY.out]; exact (P1.out.drew.belowAll (hCb w1 h)).row
   have q2 : ∀ w1, C w1 → (getAt 37 (.pointer (some ⟨g, 0, none⟩))).run Tryz.prog w1 = .ok (.agg (A8 ke)) w1 := fun w1 h => by
    have c3 := ((RW.out.below B1.out).drew.below (hCb w1 h)).row (t := 37) (Tryz.isAgg37 _) (Tryz.sizeOf37 _) 0 (by omega)
    rw [HKE.out]; exact c3
   repeat
    (first
     | (with_reducible refine h_pure (v := ?_) (a' := ?_) ?_ (fun _ => ?_) ?_ ?_); rotate_left 2; (focus (exact rfl)); (focus (go_simp; (try go_bits); exact rfl))
     | (with_reducible refine h_obl (v := ?_) (a' := ?_) ?_ (fun _ hcw => ?_) ?_ ?_); rotate_left 2; (focus (exact rfl)); (focus (have f' := q1 _ hcw; have f'' := q2 _ hcw; go_simp; (try go_bits); exact rfl))
     | (with_reducible refine h_read (v := ?_) (a' := ?_) ?_ (fun _ hbw => ?_) ?_ ?_); rotate_left 2; (focus (exact rfl)); (focus (go_simp; (try go_bits); exact rfl)))
    focus (simp only [Act.put, zz1, zz2, zz3, Act.eval, zz4, zz5, zz6, zz7, zz8]; exact rfl)
   (with_reducible refine h_call ?_ ?_)
   ·exact rfl
   go_simp
   refine entersW_of ?_
   refine (refSixteen_any y ke wr.drew hyl hkel).mono ?_
   rintro e w3 ⟨rfl, b3⟩
   refine ⟨_, rfl, b3, ?_⟩
   try simp only [Act.put, zz1, zz2, zz3]
   refine h_tail [2] rfl (by simp) ?_
   have hYl := xor16_length y ke
   refine z_storeRow (Z1.out.drew.belowAll b3) rfl rfl (by rw [A8_size, A8_size, hYl, zeros_length]) (A8_ones _) (by rw [A8_size, hYl]; exact Tryz.sizeOf37 _) (fun w5 k5 g5 s5 => ?_)
   refine z_nil (hK' _ _ ?_)
   have r5 := k5.row
   have d4 := B1.out.drew.trans (b3.mono B1.out.size)
   have B5 := d4.trans (grown_below g5 (by omega) d4.size)
   obtain ⟨Y, hY⟩ : ∃ Y, Y = xor16 y ke := ⟨_, rfl⟩
   rw [← hY] at r5 hYl
   have HF2 : Hid (Y = decS L m b) := hid (by rw [hY]; exact HF.out)
   clear q1 q2 hC0 hCb hK' b3 k5 g5 s5 d4 P1 X1 Z1 B1 hY
   go_wp2
   refine bodyPost_row (A8 Y) rfl rfl rfl (Tryz.isAgg37 _) (Tryz.sizeOf37 _) (by rw [A8_size]; exact hYl) r5 ⟨by rw [HF2.out], B5⟩
end Go.Proofs.YtfdkmjegcghieaaGreatDoor
