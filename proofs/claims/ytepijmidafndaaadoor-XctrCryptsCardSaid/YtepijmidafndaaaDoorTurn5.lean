/- turn: Round -/
import Derived.Test.YtepijmidafndaaaDoorGc
namespace Go.Proofs.YtepijmidafndaaaDoor
open Go.RowKit
theorem shifted_at (r c F : Nat) (w : World) (hr : r < 4) (hc : c < 4) (hF : F = r + 4 * ((c + r) % 4)) :
    Calls Tryd.prog 118 #[.int .i64 r, .int .i64 c] w fun e w' => e = .returned (.int .i64 (F : Int)) ∧ w = w' := by
  subst hF; exact shifted_any r c w hr hc
theorem ofNat_self (x : BitVec 8) : BitVec.ofNat 8 x.toNat = x := by simp
theorem TabAt.mix {w : World} {p : Nat} (h : TabAt w p) (r : Nat) (x : BitVec 8) (hr : r < 4) : w.cell? ⟨p, 1 + r * 256 + x.toNat, none⟩ = some (v32 (col mixM r (box x))) := by
  obtain ⟨q, h1, h2⟩ := h
  have hx := x.isLt
  rw [show 1 + r * 256 + x.toNat = 1 + (256 * r + x.toNat) by omega, h1.cell, PA_get _ _ _ (by rw [tabL_length]; omega), nth_tabL _ (by omega), tabF_mix r _ hr (by omega), ofNat_self]
theorem TabAt.unmix {w : World} {p : Nat} (h : TabAt w p) (r : Nat) (x : BitVec 8) (hr : r < 4) : w.cell? ⟨p, 1025 + r * 256 + x.toNat, none⟩ = some (v32 (col unmixM r x)) := by
  obtain ⟨q, h1, h2⟩ := h
  have hx := x.isLt
  rw [show 1025 + r * 256 + x.toNat = 1 + (1024 + (256 * r + x.toNat)) by omega, h1.cell, PA_get _ _ _ (by rw [tabL_length]; omega), nth_tabL _ (by omega), tabF_unmix r _ hr (by omega), ofNat_self]
set_option linter.unusedSimpArgs false in
set_option maxRecDepth 100000 in
set_option maxHeartbeats 1600000 in
theorem tround_any (p : Nat) (b key : List (BitVec 8)) (w : World) (hT : TabAt w p) (hb16 : b.length = 16) (hk16 : key.length = 16) :
    Calls Tryd.prog 117 #[.pointer (some ⟨p, 0, none⟩), .agg (A8 b), .agg (A8 key)] w fun e w' => e = .returned (.agg (A8 (roundS b key))) ∧ Below w.heap.size w w' := by
  obtain ⟨W, hW⟩ : ∃ W, (((w.alloc (.cells (A8 b) 31)).alloc (.cells (A8 key) 31)).alloc (.cells (A8 (zeros 8 16)) 31)).alloc (.cells (A8 (zeros 8 16)) 31) = W := ⟨_, rfl⟩
  obtain ⟨b0, b1, b2, b3, hb, hz⟩ := new4 _ _ _ _ _ _ _ _ _ _ hW
  have T0 := Lib.hid hT
  have P0 := Lib.hid b0
  have Q0 := Lib.hid b1
  have Z0 := Lib.hid b2
  have O0 := Lib.hid b3
  have B0 := Lib.hid hb
  obtain ⟨L, hL⟩ : ∃ L, L = roundS b key := ⟨_, rfl⟩
  have hLl : L.length = 16 := by rw [hL]; simp
  have hcol : ∀ c, c < 4 → le32 (colTo mixM (word key (4 * c)) (fun r => box (nth b (r + 4 * ((c + r) % 4)))) 4) = (L.drop (4 * c)).take 4 := fun c hc => by rw [hL]; exact round_bytes b key c hc
  rw [← hL]
  have HC := Lib.hid hcol
  have HL := Lib.hid hLl
  clear b0 b1 b2 b3 hb hz hT hL hcol hLl
  go_enter Tryd.func117, Tryd.ntmps117
  go_wp2_with fail
  go_loopw [15] (fun i wr => ∃ c : Nat, c ≤ 4 ∧ i = .int .i64 c ∧ Blk wr w.heap.size 31 (A8 b) ∧ Blk wr (w.heap.size + 1) 31 (A8 key) ∧ Blk wr (w.heap.size + 2) 31 (A8 (zeros 8 16)) ∧ Blk wr (w.heap.size + 3) 31 (A8 (fillN 16 L (4 * c))) ∧ Below w.heap.size w wr) (fun i _ => 4 - (intOf i).toNat)
  case atStart => exact ⟨0, by omega, rfl, P0.out, Q0.out, Z0.out, by rw [Nat.mul_zero, fillN_zero]; exact O0.out, B0.out⟩
  case round =>
    obtain ⟨c, hc, rfl, hP, hQ, hZ, hO, hB⟩ := hrel
    have P1 := Lib.hid hP
    have Q1 := Lib.hid hQ
    have Z1 := Lib.hid hZ
    have O1 := Lib.hid hO
    have B1 := Lib.hid hB
    clear hP hQ hZ hO hB P0 Q0 Z0 O0 B0 hW
    by_cases hc4 : c < 4
    · have j1 : (c : Int) < 4 := by omega
      have j0 : (0 : Int) ≤ (c : Int) := by omega
      obtain ⟨E, hE⟩ : ∃ E, E = 4 * c := ⟨_, rfl⟩
      have f1 : (4 : Int) * (c : Int) = (E : Int) := by omega
      have f2 : IntKind.i64.wrap (E : Int) = (E : Int) := by rw [IntKind.wrap_i64]; omega
      have HE := Lib.hid hE
      have rk := Q1.out.rd8 16 (by omega) (by rw [hk16]; unfold maxLen; omega)
      rw [List.take_of_length_le (by omega), hk16] at rk
      have RK := Lib.hid rk
      clear hE rk
      go_wp2_with fail
      refine (word_any key _ 16 16 (E : Int) wr RK.out (by omega) (by have := HE.out; omega)).mono ?_
      rintro e w1 ⟨rfl, hb1⟩
      rw [Int.toNat_natCast]
      have P2 := Lib.hid (P1.out.belowAll hb1)
      have Q2 := Lib.hid (Q1.out.belowAll hb1)
      have Z2 := Lib.hid (Z1.out.belowAll hb1)
      have O2 := Lib.hid (O1.out.belowAll hb1)
      have B2 := Lib.hid (B1.out.trans (hb1.mono B1.out.size))
      have hz3 := O1.out.lt
      clear hb1 P1 Q1 Z1 O1 B1 RK
      go_wp2_with fail
      go_loopw [9, 22] (fun n i wx => ∃ r : Nat, r ≤ 4 ∧ i = .int .i64 r ∧ n = v32 (colTo mixM (word key E) (fun r => box (nth b (r + 4 * ((c + r) % 4)))) r) ∧ Below w1.heap.size w1 wx) (fun _ i _ => 4 - (intOf i).toNat)
      case atStart => exact ⟨0, by omega, rfl, rfl, Below.refl _ _⟩
      case round =>
        obtain ⟨r, hr, rfl, rfl, hB⟩ := hrel
        have B3 := Lib.hid hB
        clear hB
        by_cases hr4 : r < 4
        · have k1 : (r : Int) < 4 := by omega
          have k0 : (0 : Int) ≤ (r : Int) := by omega
          obtain ⟨F, hF⟩ : ∃ F, F = r + 4 * ((c + r) % 4) := ⟨_, rfl⟩
          have hF16 : F < 16 := by omega
          have k3 : (F : Int) < 16 := by omega
          have k4 : (0 : Int) ≤ (F : Int) := by omega
          have c1 := (P2.out.belowAll B3.out).drew.cell8 hb16 F hF16
          have c2 := ((T0.out.below (B2.out.trans (B3.out.mono B2.out.size))).drew).mix r (nth b F) hr4
          obtain ⟨N, hN⟩ : ∃ N, N = colTo mixM (word key E) (fun r => box (nth b (r + 4 * ((c + r) % 4)))) r := ⟨_, rfl⟩
          rw [← hN]
          have HN := Lib.hid hN
          have HF := Lib.hid hF
          clear hN hF
          go_upto_region 11 with fail
          refine wp_region_text3' [0,0,0,0,0,3,0,1,0,0,0,0,1,0,0] (by kernel_rfl) (by kernel_rfl) (fun ops' K2 hK2 => ?_)
          repeat
            first
              | ((with_reducible refine z_move (a' := ?_) ?_ ?_); rotate_left; · (simp only [Act.put, List.setIfInBounds_toArray, List.set_cons_succ, List.set_cons_zero, Act.eval, Array.getD_eq_getD_getElem?, List.getElem?_toArray, List.getElem?_cons_succ, List.getElem?_cons_zero, Option.getD_some]; exact rfl))
              | ((with_reducible refine z_assign (a' := ?_) ?_ ?_); rotate_left; · (simp only [Act.put, List.setIfInBounds_toArray, List.set_cons_succ, List.set_cons_zero, Act.eval, Array.getD_eq_getD_getElem?, List.getElem?_toArray, List.getElem?_cons_succ, List.getElem?_cons_zero, Option.getD_some]; exact rfl))
              | ((with_reducible refine z_obl (v := ?_) (a' := ?_) rfl (fun _ => ?_) ?_ ?_); rotate_left; rotate_left; (focus (go_simp; (try go_bits); exact rfl)); (focus (simp only [Act.put, List.setIfInBounds_toArray, List.set_cons_succ, List.set_cons_zero, Act.eval, Array.getD_eq_getD_getElem?, List.getElem?_toArray, List.getElem?_cons_succ, List.getElem?_cons_zero, Option.getD_some]; exact rfl)))
              | ((with_reducible refine z_read (v := ?_) (a' := ?_) rfl ?_ ?_ ?_); rotate_left; rotate_left; (focus (go_simp; (try go_bits); exact rfl)); (focus (simp only [Act.put, List.setIfInBounds_toArray, List.set_cons_succ, List.set_cons_zero, Act.eval, Array.getD_eq_getD_getElem?, List.getElem?_toArray, List.getElem?_cons_succ, List.getElem?_cons_zero, Option.getD_some]; exact rfl)))
          ((with_reducible refine z_call (v := ?_) (a' := ?_) rfl (fun _ => ?_) ?_ ?_); rotate_left; rotate_left)
          · go_simp
            refine enters_of ?_
            exact shifted_at r c F _ hr4 hc4 HF.out
          · (simp only [Act.put, List.setIfInBounds_toArray, List.set_cons_succ, List.set_cons_zero, Act.eval, Array.getD_eq_getD_getElem?, List.getElem?_toArray, List.getElem?_cons_succ, List.getElem?_cons_zero, Option.getD_some]; exact rfl)
          repeat
            first
              | ((with_reducible refine z_move (a' := ?_) ?_ ?_); rotate_left; · (simp only [Act.put, List.setIfInBounds_toArray, List.set_cons_succ, List.set_cons_zero, Act.eval, Array.getD_eq_getD_getElem?, List.getElem?_toArray, List.getElem?_cons_succ, List.getElem?_cons_zero, Option.getD_some]; exact rfl))
              | ((with_reducible refine z_assign (a' := ?_) ?_ ?_); rotate_left; · (simp only [Act.put, List.setIfInBounds_toArray, List.set_cons_succ, List.set_cons_zero, Act.eval, Array.getD_eq_getD_getElem?, List.getElem?_toArray, List.getElem?_cons_succ, List.getElem?_cons_zero, Option.getD_some]; exact rfl))
              | ((with_reducible refine z_obl (v := ?_) (a' := ?_) rfl (fun _ => ?_) ?_ ?_); rotate_left; rotate_left; (focus (go_simp; (try go_bits); exact rfl)); (focus (simp only [Act.put, List.setIfInBounds_toArray, List.set_cons_succ, List.set_cons_zero, Act.eval, Array.getD_eq_getD_getElem?, List.getElem?_toArray, List.getElem?_cons_succ, List.getElem?_cons_zero, Option.getD_some]; exact rfl)))
              | ((with_reducible refine z_read (v := ?_) (a' := ?_) rfl ?_ ?_ ?_); rotate_left; rotate_left; (focus (go_simp; (try go_bits); exact rfl)); (focus (simp only [Act.put, List.setIfInBounds_toArray, List.set_cons_succ, List.set_cons_zero, Act.eval, Array.getD_eq_getD_getElem?, List.getElem?_toArray, List.getElem?_cons_succ, List.getElem?_cons_zero, Option.getD_some]; exact rfl)))
          refine z_nil (hK2 _ _ ?_)
          clear c1 c2 hK2
          go_wp2
          refine ⟨⟨r + 1, by omega, by go_num, ?_, B3.out.drew⟩, by simp [intOf]; omega⟩
          rw [colTo, ← HN.out, ← HF.out]
        · obtain rfl : r = 4 := by omega
          have hcc := HC.out c hc4
          rw [← HE.out] at hcc
          obtain ⟨N, hN⟩ : ∃ N, N = colTo mixM (word key E) (fun r => box (nth b (r + 4 * ((c + r) % 4)))) 4 := ⟨_, rfl⟩
          rw [← hN] at hcc ⊢
          have HCC := Lib.hid hcc
          clear hcc hN
          go_wp2_with fail
          refine (putword_any N _).mono ?_
          rintro e w4 ⟨rfl, hb4⟩
          have b14 := B3.out.trans (hb4.mono B3.out.size)
          have P4 := Lib.hid ((P2.out.belowAll b14).alloc (.cells (A8 (le32 N)) 100))
          have Q4 := Lib.hid ((Q2.out.belowAll b14).alloc (.cells (A8 (le32 N)) 100))
          have Z4 := Lib.hid ((Z2.out.belowAll b14).alloc (.cells (A8 (le32 N)) 100))
          have O4 := Lib.hid ((O2.out.belowAll b14).alloc (.cells (A8 (le32 N)) 100))
          have N4 := Lib.hid (Blk.new w4 100 (A8 (le32 N)))
          have d4 := B2.out.trans (b14.mono B2.out.size)
          have B4 := Lib.hid (d4.alloc d4.size (.cells (A8 (le32 N)) 100))
          have h14 := (O2.out.belowAll b14).lt
          clear hb4 b14 d4 P2 Q2 Z2 O2 B2 B3
          go_upto_region 14 with fail
          generalize w4.alloc (.cells (A8 (le32 N)) 100) = W4 at *
          generalize w4.heap.size = pN at *
          have e1 : (E : Int) ≤ 16 := by have := HE.out; omega
          have e0 : (0 : Int) ≤ (E : Int) := by omega
          have e2 : ¬ 16 = E := by have := HE.out; omega
          refine wp_region_text3' [0,0,0,0,2] (by kernel_rfl) (by kernel_rfl) (fun ops' K2 hK2 => ?_)
          repeat
            first
              | ((with_reducible refine z_move (a' := ?_) ?_ ?_); rotate_left; · (simp only [Act.put, List.setIfInBounds_toArray, List.set_cons_succ, List.set_cons_zero, Act.eval, Array.getD_eq_getD_getElem?, List.getElem?_toArray, List.getElem?_cons_succ, List.getElem?_cons_zero, Option.getD_some]; exact rfl))
              | ((with_reducible refine z_assign (a' := ?_) ?_ ?_); rotate_left; · (simp only [Act.put, List.setIfInBounds_toArray, List.set_cons_succ, List.set_cons_zero, Act.eval, Array.getD_eq_getD_getElem?, List.getElem?_toArray, List.getElem?_cons_succ, List.getElem?_cons_zero, Option.getD_some]; exact rfl))
              | ((with_reducible refine z_obl (v := ?_) (a' := ?_) rfl (fun _ => ?_) ?_ ?_); rotate_left; rotate_left; (focus (go_simp; (try go_bits); exact rfl)); (focus (simp only [Act.put, List.setIfInBounds_toArray, List.set_cons_succ, List.set_cons_zero, Act.eval, Array.getD_eq_getD_getElem?, List.getElem?_toArray, List.getElem?_cons_succ, List.getElem?_cons_zero, Option.getD_some]; exact rfl)))
              | ((with_reducible refine z_read (v := ?_) (a' := ?_) rfl ?_ ?_ ?_); rotate_left; rotate_left; (focus (go_simp; (try go_bits); exact rfl)); (focus (simp only [Act.put, List.setIfInBounds_toArray, List.set_cons_succ, List.set_cons_zero, Act.eval, Array.getD_eq_getD_getElem?, List.getElem?_toArray, List.getElem?_cons_succ, List.getElem?_cons_zero, Option.getD_some]; exact rfl)))
          have rn := N4.out.drew.rd8 4 (by simp) (by simp; unfold maxLen; omega)
          refine z_copy8 O4.out.drew rn rfl rfl Tryd.underlying22 size8 (by rw [fillN_length]; omega) (fun w5 v5 k5 g5 s5 => ?_)
          refine z_nil (hK2 _ _ ?_)
          have e5 : splc (fillN 16 L (4 * c)) E (((le32 N).take 4).take (min 4 (16 - E))) = fillN 16 L (4 * (c + 1)) := by
            have hE := HE.out
            rw [List.take_of_length_le (l := le32 N) (by simp), List.take_of_length_le (by simp; omega), HCC.out, hE]
            exact fill_four L HL.out c hc4
          rw [e5] at k5
          have P5 := Lib.hid (P4.out.drew.grown g5 (by simp))
          have Q5 := Lib.hid (Q4.out.drew.grown g5 (by simp))
          have Z5 := Lib.hid (Z4.out.drew.grown g5 (by simp))
          have O5 := Lib.hid k5
          have B5 := Lib.hid (B4.out.drew.trans (grown_below g5 (by omega) B4.out.size))
          clear k5 g5 s5 e5 rn hK2 P4 Q4 Z4 O4 N4 B4 e2
          go_wp2
          exact ⟨⟨c + 1, by omega, by go_num, P5.out, Q5.out, Z5.out, O5.out, B5.out⟩, by simp [intOf]; omega⟩
    · obtain rfl : c = 4 := by omega
      have zz := O1.out
      rw [show 4 * 4 = 16 from rfl, fillN_full 16 L HL.out] at zz
      have r1 := zz.row
      have r2 := Z1.out.row
      have r3 := Z1.out.whole
      have hl := HL.out
      clear zz
      go_wp2
      refine bodyPost_row (A8 L) rfl rfl rfl (Tryd.isAgg31 _) (Tryd.sizeOf31 _) (by rw [A8_size]; exact hl) (rowAt_setRow _ r3) ⟨rfl, below_setRow B1.out (by omega) _⟩
end Go.Proofs.YtepijmidafndaaaDoor
