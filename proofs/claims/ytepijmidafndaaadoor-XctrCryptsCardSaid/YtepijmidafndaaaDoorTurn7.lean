/- turn: unboxed, Unlast, Unround -/
import Derived.Test.YtepijmidafndaaaDoorTurn6
namespace Go.Proofs.YtepijmidafndaaaDoor
open Go.RowKit
set_option linter.unusedSimpArgs false in
set_option maxRecDepth 100000 in
set_option maxHeartbeats 1600000 in
theorem unboxed_any (p : Nat) (b : List (BitVec 8)) (w : World) (hT : TabAt w p) (hb16 : b.length = 16) :
    Calls Tryd.prog 120 #[.pointer (some ⟨p, 0, none⟩), .agg (A8 b)] w fun e w' => e = .returned (.agg (A8 (sub16 unbox (unshift16 b)))) ∧ Below w.heap.size w w' := by
  obtain ⟨W, hW⟩ : ∃ W, ((w.alloc (.cells (A8 b) 31)).alloc (.cells (A8 (zeros 8 16)) 31)).alloc (.cells (A8 (zeros 8 16)) 31) = W := ⟨_, rfl⟩
  obtain ⟨b0, b1, b2, hb, hz⟩ := new3 _ _ _ _ _ _ _ _ hW
  obtain ⟨q, hT1, hT2⟩ := hT
  have T0 := Lib.hid hT1
  have X0 := Lib.hid hT2
  have P0 := Lib.hid b0
  have Z0 := Lib.hid b1
  have O0 := Lib.hid b2
  have B0 := Lib.hid hb
  have huf := unTo_full b
  rw [← huf]
  clear b0 b1 b2 hb hz hT1 hT2 huf
  go_enter Tryd.func120, Tryd.ntmps120
  go_wp2_with fail
  go_loopw [8] (fun i wr => ∃ c : Nat, c ≤ 4 ∧ i = .int .i64 c ∧ Blk wr w.heap.size 31 (A8 b) ∧ Blk wr (w.heap.size + 1) 31 (A8 (zeros 8 16)) ∧ Blk wr (w.heap.size + 2) 31 (A8 (unTo b (4 * c))) ∧ Below w.heap.size w wr) (fun i _ => 4 - (intOf i).toNat)
  case atStart => exact ⟨0, by omega, rfl, P0.out, Z0.out, by rw [Nat.mul_zero, unTo_zero]; exact O0.out, B0.out⟩
  case round =>
    obtain ⟨c, hc, rfl, hP, hZ, hO, hB⟩ := hrel
    have P1 := Lib.hid hP
    have Z1 := Lib.hid hZ
    have O1 := Lib.hid hO
    have B1 := Lib.hid hB
    clear hP hZ hO hB P0 Z0 O0 B0 hW
    by_cases hc4 : c < 4
    · have j1 : (c : Int) < 4 := by omega
      have j0 : (0 : Int) ≤ (c : Int) := by omega
      obtain ⟨E, hE⟩ : ∃ E, E = 4 * c := ⟨_, rfl⟩
      have f1 : (4 : Int) * (c : Int) = (E : Int) := by omega
      have f2 : IntKind.i64.wrap (E : Int) = (E : Int) := by rw [IntKind.wrap_i64]; omega
      have HE := Lib.hid hE
      clear hE
      go_wp2_with fail
      go_loopw [11] (fun i wx => ∃ r : Nat, r ≤ 4 ∧ i = .int .i64 r ∧ Blk wx w.heap.size 31 (A8 b) ∧ Blk wx (w.heap.size + 1) 31 (A8 (zeros 8 16)) ∧ Blk wx (w.heap.size + 2) 31 (A8 (unTo b (4 * c + r))) ∧ Below w.heap.size w wx) (fun i _ => 4 - (intOf i).toNat)
      case atStart => exact ⟨0, by omega, rfl, P1.out, Z1.out, O1.out, B1.out⟩
      case round =>
        obtain ⟨r, hr, rfl, hP, hZ, hO, hB⟩ := hrel
        have P2 := Lib.hid hP
        have Z2 := Lib.hid hZ
        have O2 := Lib.hid hO
        have B2 := Lib.hid hB
        clear hP hZ hO hB P1 Z1 O1 B1
        by_cases hr4 : r < 4
        · have k1 : (r : Int) < 4 := by omega
          have k0 : (0 : Int) ≤ (r : Int) := by omega
          obtain ⟨F, hF⟩ : ∃ F, F = r + 4 * ((c + r) % 4) := ⟨_, rfl⟩
          have hF16 : F < 16 := by omega
          have k3 : (F : Int) < 16 := by omega
          have k4 : (0 : Int) ≤ (F : Int) := by omega
          obtain ⟨G, hG⟩ : ∃ G, G = 4 * c + r := ⟨_, rfl⟩
          have hG16 : G < 16 := by omega
          have g1 : (r : Int) + (E : Int) = (G : Int) := by have := HE.out; omega
          have g2 : IntKind.i64.wrap (G : Int) = (G : Int) := by rw [IntKind.wrap_i64]; omega
          have g3 : (G : Int) < 16 := by omega
          have g4 : (0 : Int) ≤ (G : Int) := by omega
          have c1 := P2.out.drew.cell8 hb16 G hG16
          have c2 := (T0.out.belowAll B2.out).drew.cell 0
          rw [PA_zero] at c2
          have hsp : shp G = F := by rw [hG, hF]; unfold shp; omega
          rw [← hG] at O2
          have HSP := Lib.hid hsp
          have HF := Lib.hid hF
          have HG := Lib.hid hG
          clear hF hG hsp
          go_upto_region 8 with fail
          refine wp_region_text3' [0,0,3,0,0,0,1,0,0,0,0,0,1,1,0,2] (by kernel_rfl) (by kernel_rfl) (fun ops' K2 hK2 => ?_)
          repeat
            first
              | ((with_reducible refine z_move (a' := ?_) ?_ ?_); rotate_left; · (simp only [Act.put, List.setIfInBounds_toArray, List.set_cons_succ, List.set_cons_zero, Act.eval, Array.getD_eq_getD_getElem?, List.getElem?_toArray, List.getElem?_cons_succ, List.getElem?_cons_zero, Option.getD_some]; exact rfl))
              | ((with_reducible refine z_assign (a' := ?_) ?_ ?_); rotate_left; · (simp only [Act.put, List.setIfInBounds_toArray, List.set_cons_succ, List.set_cons_zero, Act.eval, Array.getD_eq_getD_getElem?, List.getElem?_toArray, List.getElem?_cons_succ, List.getElem?_cons_zero, Option.getD_some]; exact rfl))
              | ((with_reducible refine z_obl (v := ?_) (a' := ?_) rfl (fun _ => ?_) ?_ ?_); rotate_left; rotate_left; (focus (go_simp; (try go_bits); exact rfl)); (focus (simp only [Act.put, List.setIfInBounds_toArray, List.set_cons_succ, List.set_cons_zero, Act.eval, Array.getD_eq_getD_getElem?, List.getElem?_toArray, List.getElem?_cons_succ, List.getElem?_cons_zero, Option.getD_some]; exact rfl)))
              | ((with_reducible refine z_read (v := ?_) (a' := ?_) rfl ?_ ?_ ?_); rotate_left; rotate_left; (focus (go_simp; (try go_bits); exact rfl)); (focus (simp only [Act.put, List.setIfInBounds_toArray, List.set_cons_succ, List.set_cons_zero, Act.eval, Array.getD_eq_getD_getElem?, List.getElem?_toArray, List.getElem?_cons_succ, List.getElem?_cons_zero, Option.getD_some]; exact rfl)))
          ((with_reducible refine z_call (v := ?_) (a' := ?_) rfl (fun _ => ?_) ?_ ?_); rotate_left; rotate_left)
          · go_simp
            refine enters_of ?_
            exact shifted_at r c F _ hr4 hc4 HF.out
          · (simp only [Act.put, List.setIfInBounds_toArray, List.set_cons_succ, List.set_cons_zero, Act.eval, Array.getD_eq_getD_getElem?, List.getElem?_toArray, List.getElem?_cons_succ, List.getElem?_cons_zero, Option.getD_some]; exact rfl)
          repeat
            first
              | ((with_reducible refine z_move (a' := ?_) ?_ ?_); rotate_left; · (simp only [Act.put, List.setIfInBounds_toArray, List.set_cons_succ, List.set_cons_zero, Act.eval, Array.getD_eq_getD_getElem?, List.getElem?_toArray, List.getElem?_cons_succ, List.getElem?_cons_zero, Option.getD_some]; exact rfl))
              | ((with_reducible refine z_assign (a' := ?_) ?_ ?_); rotate_left; · (simp only [Act.put, List.setIfInBounds_toArray, List.set_cons_succ, List.set_cons_zero, Act.eval, Array.getD_eq_getD_getElem?, List.getElem?_toArray, List.getElem?_cons_succ, List.getElem?_cons_zero, Option.getD_some]; exact rfl))
              | ((with_reducible refine z_obl (v := ?_) (a' := ?_) rfl (fun _ => ?_) ?_ ?_); rotate_left; rotate_left; (focus (go_simp; (try go_bits); exact rfl)); (focus (simp only [Act.put, List.setIfInBounds_toArray, List.set_cons_succ, List.set_cons_zero, Act.eval, Array.getD_eq_getD_getElem?, List.getElem?_toArray, List.getElem?_cons_succ, List.getElem?_cons_zero, Option.getD_some]; exact rfl)))
              | ((with_reducible refine z_read (v := ?_) (a' := ?_) rfl ?_ ?_ ?_); rotate_left; rotate_left; (focus (go_simp; (try go_bits); exact rfl)); (focus (simp only [Act.put, List.setIfInBounds_toArray, List.set_cons_succ, List.set_cons_zero, Act.eval, Array.getD_eq_getD_getElem?, List.getElem?_toArray, List.getElem?_cons_succ, List.getElem?_cons_zero, Option.getD_some]; exact rfl)))
          ((with_reducible refine z_rcall (v := ?_) (a' := ?_) rfl ?_ ?_ ?_); rotate_left; rotate_left)
          · go_simp
            refine enters_of ?_
            exact back_any q (nth b G) _ (X0.out.belowAll B2.out).drew
          · (simp only [Act.put, List.setIfInBounds_toArray, List.set_cons_succ, List.set_cons_zero, Act.eval, Array.getD_eq_getD_getElem?, List.getElem?_toArray, List.getElem?_cons_succ, List.getElem?_cons_zero, Option.getD_some]; exact rfl)
          repeat
            first
              | ((with_reducible refine z_move (a' := ?_) ?_ ?_); rotate_left; · (simp only [Act.put, List.setIfInBounds_toArray, List.set_cons_succ, List.set_cons_zero, Act.eval, Array.getD_eq_getD_getElem?, List.getElem?_toArray, List.getElem?_cons_succ, List.getElem?_cons_zero, Option.getD_some]; exact rfl))
              | ((with_reducible refine z_assign (a' := ?_) ?_ ?_); rotate_left; · (simp only [Act.put, List.setIfInBounds_toArray, List.set_cons_succ, List.set_cons_zero, Act.eval, Array.getD_eq_getD_getElem?, List.getElem?_toArray, List.getElem?_cons_succ, List.getElem?_cons_zero, Option.getD_some]; exact rfl))
              | ((with_reducible refine z_obl (v := ?_) (a' := ?_) rfl (fun _ => ?_) ?_ ?_); rotate_left; rotate_left; (focus (go_simp; (try go_bits); exact rfl)); (focus (simp only [Act.put, List.setIfInBounds_toArray, List.set_cons_succ, List.set_cons_zero, Act.eval, Array.getD_eq_getD_getElem?, List.getElem?_toArray, List.getElem?_cons_succ, List.getElem?_cons_zero, Option.getD_some]; exact rfl)))
              | ((with_reducible refine z_read (v := ?_) (a' := ?_) rfl ?_ ?_ ?_); rotate_left; rotate_left; (focus (go_simp; (try go_bits); exact rfl)); (focus (simp only [Act.put, List.setIfInBounds_toArray, List.set_cons_succ, List.set_cons_zero, Act.eval, Array.getD_eq_getD_getElem?, List.getElem?_toArray, List.getElem?_cons_succ, List.getElem?_cons_zero, Option.getD_some]; exact rfl)))
          refine z_store8 O2.out.drew rfl rfl (by rw [unTo_length]; exact hF16) (Tryd.sizeOf5 _) (fun w5 k5 g5 s5 => ?_)
          refine z_nil (hK2 _ _ ?_)
          rw [← HSP.out, unTo_set b G hG16, HG.out] at k5
          have P5 := Lib.hid (P2.out.drew.grown g5 (by simp))
          have Z5 := Lib.hid (Z2.out.drew.grown g5 (by simp))
          have O5 := Lib.hid k5
          have B5 := Lib.hid (B2.out.drew.trans (grown_below g5 (by omega) B2.out.size))
          clear k5 g5 s5 c1 c2 hK2 P2 Z2 O2 B2
          go_wp2
          exact ⟨⟨r + 1, by omega, by go_num, P5.out, Z5.out, O5.out, B5.out⟩, by simp [intOf]; omega⟩
        · obtain rfl : r = 4 := by omega
          have hO := O2.out
          rw [show 4 * c + 4 = 4 * (c + 1) by omega] at hO
          have O3 := Lib.hid hO
          clear hO O2
          go_wp2
          exact ⟨⟨c + 1, by omega, by go_num, P2.out, Z2.out, O3.out, B2.out⟩, by simp [intOf]; omega⟩
    · obtain rfl : c = 4 := by omega
      have zz := O1.out
      rw [show 4 * 4 = 16 from rfl] at zz
      have hl := unTo_length b 16
      have r1 := zz.row
      have r3 := Z1.out.whole
      have r4 := Z1.out.row
      clear zz
      go_wp2
      refine bodyPost_row (A8 (unTo b 16)) rfl rfl rfl (Tryd.isAgg31 _) (Tryd.sizeOf31 _) (by rw [A8_size]; exact hl) (rowAt_setRow _ r3) ⟨rfl, below_setRow B1.out (by omega) _⟩
set_option linter.unusedSimpArgs false in
set_option maxRecDepth 100000 in
set_option maxHeartbeats 400000 in
theorem tunlast_any (p : Nat) (b key : List (BitVec 8)) (w : World) (hT : TabAt w p) (hb16 : b.length = 16) (hk16 : key.length = 16) :
    Calls Tryd.prog 83 #[.pointer (some ⟨p, 0, none⟩), .agg (A8 b), .agg (A8 key)] w fun e w' => e = .returned (.agg (A8 (unlastS b key))) ∧ Below w.heap.size w w' := by
  obtain ⟨W, hW⟩ : ∃ W, ((w.alloc (.cells (A8 b) 31)).alloc (.cells (A8 key) 31)).alloc (.cells (A8 (zeros 8 16)) 31) = W := ⟨_, rfl⟩
  obtain ⟨b0, b1, b2, hb, hz⟩ := new3 _ _ _ _ _ _ _ _ hW
  have T0 := Lib.hid (hT.below hb)
  have r0 := b0.row
  have r1 := b1.row
  have Z0 := Lib.hid b2
  have B0 := Lib.hid hb
  clear b0 b1 b2 hb hz
  go_enter Tryd.func83, Tryd.ntmps83
  go_wp2_with fail
  refine (tboth_any b key W hb16 hk16).mono ?_
  rintro e w1 ⟨rfl, hb1⟩
  have T1 := Lib.hid (T0.out.below hb1)
  have Z1 := Lib.hid (Z0.out.belowAll hb1)
  have B1 := Lib.hid (B0.out.trans (hb1.mono B0.out.size))
  clear hb1 hW r0 r1 T0 Z0 B0
  go_wp2_with fail
  refine (unboxed_any p (xor16 b key) w1 T1.out (xor16_length b key)).mono ?_
  rintro e w2 ⟨rfl, hb2⟩
  have r3 := (Z1.out.belowAll hb2).whole
  have r4 := (Z1.out.belowAll hb2).row
  have B2 := B1.out.trans (hb2.mono B1.out.size)
  have hl := sub16_length unbox (unshift16 (xor16 b key))
  go_wp2
  refine bodyPost_row (A8 (unlastS b key)) rfl rfl rfl (Tryd.isAgg31 _) (Tryd.sizeOf31 _) (by rw [A8_size]; exact hl) (rowAt_setRow _ r3) ⟨rfl, below_setRow B2 (by omega) _⟩
end Go.Proofs.YtepijmidafndaaaDoor
