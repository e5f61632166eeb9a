/- turn: Last, unboxed, Unlast -/
import Derived.Test.YtepijmidafndaaaDoorTurn5
namespace Go.Proofs.YtepijmidafndaaaDoor
open Go.RowKit
theorem last_nth (b : List (BitVec 8)) (c r : Nat) (hc : c < 4) (hr : r < 4) : nth (shift16 (sub16 box b)) (4 * c + r) = box (nth b (r + 4 * ((c + r) % 4))) := by
  rw [shift16, nth_r16 _ _ (by omega), sub16, nth_r16 _ _ (by unfold shp; omega), show shp (4 * c + r) = r + 4 * ((c + r) % 4) by unfold shp; omega]
/-- boxed back and shifted back, so many bytes of them -/
def unTo (b : List (BitVec 8)) (m : Nat) : List (BitVec 8) := r16 fun i => if unshp i < m then unbox (nth b (unshp i)) else 0
@[simp] theorem unTo_length (b : List (BitVec 8)) (m : Nat) : (unTo b m).length = 16 := by simp [unTo]
theorem unTo_zero (b : List (BitVec 8)) : unTo b 0 = zeros 8 16 := by
  apply ext_nth
  · simp
  · intro i hi
    rw [unTo_length] at hi
    rw [unTo, nth_r16 _ _ hi, nth_zeros]; simp
theorem unTo_full (b : List (BitVec 8)) : unTo b 16 = sub16 unbox (unshift16 b) := r16_ext fun i hi => by
  rw [if_pos (shp_lt i hi).2.1, unshift16, nth_r16 _ _ hi]
theorem unTo_set (b : List (BitVec 8)) (m : Nat) (hm : m < 16) : (unTo b m).set (shp m) (unbox (nth b m)) = unTo b (m + 1) := by
  apply ext_nth
  · simp
  · intro i hi
    rw [List.length_set, unTo_length] at hi
    rw [nth_set _ _ _ _ (by rw [unTo_length]; exact (shp_lt m hm).1), unTo, nth_r16 _ _ hi, unTo, nth_r16 _ _ hi]
    by_cases h : shp m = i
    · subst h; rw [if_pos rfl, (shp_lt m hm).2.2.2, if_pos (by omega)]
    · have hne : unshp i ≠ m := fun e => h (by rw [← e]; exact (shp_lt i hi).2.2.1)
      rw [if_neg h]
      by_cases h2 : unshp i < m
      · rw [if_pos h2, if_pos (by omega)]
      · rw [if_neg h2, if_neg (by omega)]
set_option linter.unusedSimpArgs false in
set_option maxRecDepth 100000 in
set_option maxHeartbeats 1600000 in
theorem tlast_any (p : Nat) (b key : List (BitVec 8)) (w : World) (hT : TabAt w p) (hb16 : b.length = 16) (hk16 : key.length = 16) :
    Calls Tryd.prog 82 #[.pointer (some ⟨p, 0, none⟩), .agg (A8 b), .agg (A8 key)] w fun e w' => e = .returned (.agg (A8 (lastS b key))) ∧ Below w.heap.size w w' := by
  obtain ⟨W, hW⟩ : ∃ W, (((w.alloc (.cells (A8 b) 31)).alloc (.cells (A8 key) 31)).alloc (.cells (A8 (zeros 8 16)) 31)).alloc (.cells (A8 (zeros 8 16)) 31) = W := ⟨_, rfl⟩
  obtain ⟨b0, b1, b2, b3, hb, hz⟩ := new4 _ _ _ _ _ _ _ _ _ _ hW
  obtain ⟨q, hT1, hT2⟩ := hT
  have T0 := Lib.hid hT1
  have X0 := Lib.hid hT2
  have P0 := Lib.hid b0
  have Q0 := Lib.hid b1
  have Z0 := Lib.hid b2
  have O0 := Lib.hid b3
  have B0 := Lib.hid hb
  obtain ⟨L, hL⟩ : ∃ L, L = shift16 (sub16 box b) := ⟨_, rfl⟩
  have hLl : L.length = 16 := by rw [hL]; simp
  have hnth : ∀ c r, c < 4 → r < 4 → box (nth b (r + 4 * ((c + r) % 4))) = nth L (4 * c + r) := fun c r hc hr => by rw [hL]; exact (last_nth b c r hc hr).symm
  rw [show lastS b key = xor16 L key by rw [hL]; rfl]
  have HN := Lib.hid hnth
  have HL := Lib.hid hLl
  clear b0 b1 b2 b3 hb hz hT1 hT2 hL hnth hLl
  go_enter Tryd.func82, Tryd.ntmps82
  go_wp2_with fail
  go_loopw [13] (fun i wr => ∃ c : Nat, c ≤ 4 ∧ i = .int .i64 c ∧ Blk wr w.heap.size 31 (A8 b) ∧ Blk wr (w.heap.size + 1) 31 (A8 key) ∧ Blk wr (w.heap.size + 2) 31 (A8 (zeros 8 16)) ∧ Blk wr (w.heap.size + 3) 31 (A8 (fillN 16 L (4 * c))) ∧ Below w.heap.size w wr) (fun i _ => 4 - (intOf i).toNat)
  case atStart => exact ⟨0, by omega, rfl, P0.out, Q0.out, Z0.out, by rw [Nat.mul_zero, fillN_zero]; exact O0.out, B0.out⟩
  case round =>
    obtain ⟨c, hc, rfl, hP, hQ, hZ, hO, hB⟩ := hrel
    have P1 := Lib.hid hP
    have Q1 := Lib.hid hQ
    have Z1 := Lib.hid hZ
    have O1 := Lib.hid hO
    have B1 := Lib.hid hB
    clear hP hQ hZ hO hB P0 Q0 Z0 O0 B0 hW
    by_cases hc4 : c < 4
    · have j1 : (c : Int) < 4 := by omega
      have j0 : (0 : Int) ≤ (c : Int) := by omega
      obtain ⟨E, hE⟩ : ∃ E, E = 4 * c := ⟨_, rfl⟩
      have f1 : (4 : Int) * (c : Int) = (E : Int) := by omega
      have f2 : IntKind.i64.wrap (E : Int) = (E : Int) := by rw [IntKind.wrap_i64]; omega
      have HE := Lib.hid hE
      clear hE
      go_wp2_with fail
      go_loopw [16] (fun i wx => ∃ r : Nat, r ≤ 4 ∧ i = .int .i64 r ∧ Blk wx w.heap.size 31 (A8 b) ∧ Blk wx (w.heap.size + 1) 31 (A8 key) ∧ Blk wx (w.heap.size + 2) 31 (A8 (zeros 8 16)) ∧ Blk wx (w.heap.size + 3) 31 (A8 (fillN 16 L (4 * c + r))) ∧ Below w.heap.size w wx) (fun i _ => 4 - (intOf i).toNat)
      case atStart => exact ⟨0, by omega, rfl, P1.out, Q1.out, Z1.out, O1.out, B1.out⟩
      case round =>
        obtain ⟨r, hr, rfl, hP, hQ, hZ, hO, hB⟩ := hrel
        have P2 := Lib.hid hP
        have Q2 := Lib.hid hQ
        have Z2 := Lib.hid hZ
        have O2 := Lib.hid hO
        have B2 := Lib.hid hB
        clear hP hQ hZ hO hB P1 Q1 Z1 O1 B1
        by_cases hr4 : r < 4
        · have k1 : (r : Int) < 4 := by omega
          have k0 : (0 : Int) ≤ (r : Int) := by omega
          obtain ⟨F, hF⟩ : ∃ F, F = r + 4 * ((c + r) % 4) := ⟨_, rfl⟩
          have hF16 : F < 16 := by omega
          have k3 : (F : Int) < 16 := by omega
          have k4 : (0 : Int) ≤ (F : Int) := by omega
          obtain ⟨G, hG⟩ : ∃ G, G = 4 * c + r := ⟨_, rfl⟩
          have hG16 : G < 16 := by omega
          have g1 : (r : Int) + (E : Int) = (G : Int) := by have := HE.out; omega
          have g2 : IntKind.i64.wrap (G : Int) = (G : Int) := by rw [IntKind.wrap_i64]; omega
          have g3 : (G : Int) < 16 := by omega
          have g4 : (0 : Int) ≤ (G : Int) := by omega
          have c1 := P2.out.drew.cell8 hb16 F hF16
          have c2 := (T0.out.belowAll B2.out).drew.cell 0
          rw [PA_zero] at c2
          have hnb := HN.out c r hc4 hr4
          rw [← hF, ← hG] at hnb
          rw [← hG] at O2
          have HNB := Lib.hid hnb
          have HF := Lib.hid hF
          have HG := Lib.hid hG
          clear hF hG hnb
          go_upto_region 10 with fail
          refine wp_region_text3' [0,0,0,0,0,0,0,1,0,0,3,0,1,1,0,2] (by kernel_rfl) (by kernel_rfl) (fun ops' K2 hK2 => ?_)
          repeat
            first
              | ((with_reducible refine z_move (a' := ?_) ?_ ?_); rotate_left; · (simp only [Act.put, List.setIfInBounds_toArray, List.set_cons_succ, List.set_cons_zero, Act.eval, Array.getD_eq_getD_getElem?, List.getElem?_toArray, List.getElem?_cons_succ, List.getElem?_cons_zero, Option.getD_some]; exact rfl))
              | ((with_reducible refine z_assign (a' := ?_) ?_ ?_); rotate_left; · (simp only [Act.put, List.setIfInBounds_toArray, List.set_cons_succ, List.set_cons_zero, Act.eval, Array.getD_eq_getD_getElem?, List.getElem?_toArray, List.getElem?_cons_succ, List.getElem?_cons_zero, Option.getD_some]; exact rfl))
              | ((with_reducible refine z_obl (v := ?_) (a' := ?_) rfl (fun _ => ?_) ?_ ?_); rotate_left; rotate_left; (focus (go_simp; (try go_bits); exact rfl)); (focus (simp only [Act.put, List.setIfInBounds_toArray, List.set_cons_succ, List.set_cons_zero, Act.eval, Array.getD_eq_getD_getElem?, List.getElem?_toArray, List.getElem?_cons_succ, List.getElem?_cons_zero, Option.getD_some]; exact rfl)))
              | ((with_reducible refine z_read (v := ?_) (a' := ?_) rfl ?_ ?_ ?_); rotate_left; rotate_left; (focus (go_simp; (try go_bits); exact rfl)); (focus (simp only [Act.put, List.setIfInBounds_toArray, List.set_cons_succ, List.set_cons_zero, Act.eval, Array.getD_eq_getD_getElem?, List.getElem?_toArray, List.getElem?_cons_succ, List.getElem?_cons_zero, Option.getD_some]; exact rfl)))
          ((with_reducible refine z_call (v := ?_) (a' := ?_) rfl (fun _ => ?_) ?_ ?_); rotate_left; rotate_left)
          · go_simp
            refine enters_of ?_
            exact shifted_at r c F _ hr4 hc4 HF.out
          · (simp only [Act.put, List.setIfInBounds_toArray, List.set_cons_succ, List.set_cons_zero, Act.eval, Array.getD_eq_getD_getElem?, List.getElem?_toArray, List.getElem?_cons_succ, List.getElem?_cons_zero, Option.getD_some]; exact rfl)
          repeat
            first
              | ((with_reducible refine z_move (a' := ?_) ?_ ?_); rotate_left; · (simp only [Act.put, List.setIfInBounds_toArray, List.set_cons_succ, List.set_cons_zero, Act.eval, Array.getD_eq_getD_getElem?, List.getElem?_toArray, List.getElem?_cons_succ, List.getElem?_cons_zero, Option.getD_some]; exact rfl))
              | ((with_reducible refine z_assign (a' := ?_) ?_ ?_); rotate_left; · (simp only [Act.put, List.setIfInBounds_toArray, List.set_cons_succ, List.set_cons_zero, Act.eval, Array.getD_eq_getD_getElem?, List.getElem?_toArray, List.getElem?_cons_succ, List.getElem?_cons_zero, Option.getD_some]; exact rfl))
              | ((with_reducible refine z_obl (v := ?_) (a' := ?_) rfl (fun _ => ?_) ?_ ?_); rotate_left; rotate_left; (focus (go_simp; (try go_bits); exact rfl)); (focus (simp only [Act.put, List.setIfInBounds_toArray, List.set_cons_succ, List.set_cons_zero, Act.eval, Array.getD_eq_getD_getElem?, List.getElem?_toArray, List.getElem?_cons_succ, List.getElem?_cons_zero, Option.getD_some]; exact rfl)))
              | ((with_reducible refine z_read (v := ?_) (a' := ?_) rfl ?_ ?_ ?_); rotate_left; rotate_left; (focus (go_simp; (try go_bits); exact rfl)); (focus (simp only [Act.put, List.setIfInBounds_toArray, List.set_cons_succ, List.set_cons_zero, Act.eval, Array.getD_eq_getD_getElem?, List.getElem?_toArray, List.getElem?_cons_succ, List.getElem?_cons_zero, Option.getD_some]; exact rfl)))
          ((with_reducible refine z_rcall (v := ?_) (a' := ?_) rfl ?_ ?_ ?_); rotate_left; rotate_left)
          · go_simp
            refine enters_of ?_
            exact to_any q (nth b F) _ (X0.out.belowAll B2.out).drew
          · (simp only [Act.put, List.setIfInBounds_toArray, List.set_cons_succ, List.set_cons_zero, Act.eval, Array.getD_eq_getD_getElem?, List.getElem?_toArray, List.getElem?_cons_succ, List.getElem?_cons_zero, Option.getD_some]; exact rfl)
          repeat
            first
              | ((with_reducible refine z_move (a' := ?_) ?_ ?_); rotate_left; · (simp only [Act.put, List.setIfInBounds_toArray, List.set_cons_succ, List.set_cons_zero, Act.eval, Array.getD_eq_getD_getElem?, List.getElem?_toArray, List.getElem?_cons_succ, List.getElem?_cons_zero, Option.getD_some]; exact rfl))
              | ((with_reducible refine z_assign (a' := ?_) ?_ ?_); rotate_left; · (simp only [Act.put, List.setIfInBounds_toArray, List.set_cons_succ, List.set_cons_zero, Act.eval, Array.getD_eq_getD_getElem?, List.getElem?_toArray, List.getElem?_cons_succ, List.getElem?_cons_zero, Option.getD_some]; exact rfl))
              | ((with_reducible refine z_obl (v := ?_) (a' := ?_) rfl (fun _ => ?_) ?_ ?_); rotate_left; rotate_left; (focus (go_simp; (try go_bits); exact rfl)); (focus (simp only [Act.put, List.setIfInBounds_toArray, List.set_cons_succ, List.set_cons_zero, Act.eval, Array.getD_eq_getD_getElem?, List.getElem?_toArray, List.getElem?_cons_succ, List.getElem?_cons_zero, Option.getD_some]; exact rfl)))
              | ((with_reducible refine z_read (v := ?_) (a' := ?_) rfl ?_ ?_ ?_); rotate_left; rotate_left; (focus (go_simp; (try go_bits); exact rfl)); (focus (simp only [Act.put, List.setIfInBounds_toArray, List.set_cons_succ, List.set_cons_zero, Act.eval, Array.getD_eq_getD_getElem?, List.getElem?_toArray, List.getElem?_cons_succ, List.getElem?_cons_zero, Option.getD_some]; exact rfl)))
          refine z_store8 O2.out.drew rfl rfl (by rw [fillN_length]; exact hG16) (Tryd.sizeOf5 _) (fun w5 k5 g5 s5 => ?_)
          refine z_nil (hK2 _ _ ?_)
          rw [HNB.out, fillN_set 16 L G hG16, HG.out] at k5
          have P5 := Lib.hid (P2.out.drew.grown g5 (by simp))
          have Q5 := Lib.hid (Q2.out.drew.grown g5 (by simp))
          have Z5 := Lib.hid (Z2.out.drew.grown g5 (by simp))
          have O5 := Lib.hid k5
          have B5 := Lib.hid (B2.out.drew.trans (grown_below g5 (by omega) B2.out.size))
          clear k5 g5 s5 c1 c2 hK2 P2 Q2 Z2 O2 B2
          go_wp2
          exact ⟨⟨r + 1, by omega, by go_num, P5.out, Q5.out, Z5.out, O5.out, B5.out⟩, by simp [intOf]; omega⟩
        · obtain rfl : r = 4 := by omega
          have hO := O2.out
          rw [show 4 * c + 4 = 4 * (c + 1) by omega] at hO
          have O3 := Lib.hid hO
          clear hO O2
          go_wp2
          exact ⟨⟨c + 1, by omega, by go_num, P2.out, Q2.out, Z2.out, O3.out, B2.out⟩, by simp [intOf]; omega⟩
    · obtain rfl : c = 4 := by omega
      have zz := O1.out
      rw [show 4 * 4 = 16 from rfl, fillN_full 16 L HL.out] at zz
      have hl := HL.out
      have r1 := zz.row
      have r2 := Q1.out.row
      clear zz
      go_wp2_with fail
      refine (tboth_any L key wr hl hk16).mono ?_
      rintro e w5 ⟨rfl, hb5⟩
      have r3 := (Z1.out.belowAll hb5).whole
      have r4 := (Z1.out.belowAll hb5).row
      have B5 := B1.out.trans (hb5.mono B1.out.size)
      have hlx := xor16_length L key
      go_wp2
      refine bodyPost_row (A8 (xor16 L key)) rfl rfl rfl (Tryd.isAgg31 _) (Tryd.sizeOf31 _) (by rw [A8_size]; exact hlx) (rowAt_setRow _ r3) ⟨rfl, below_setRow B5 (by omega) _⟩
end Go.Proofs.YtepijmidafndaaaDoor
