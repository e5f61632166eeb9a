/- turn: Unround -/
import Derived.Test.YtepijmidafndaaaDoorTurn7
namespace Go.Proofs.YtepijmidafndaaaDoor
open Go.RowKit
set_option linter.unusedSimpArgs false in
set_option maxRecDepth 100000 in
set_option maxHeartbeats 1600000 in
theorem tunround_any (p : Nat) (b key : List (BitVec 8)) (w : World) (hT : TabAt w p) (hb16 : b.length = 16) (hk16 : key.length = 16) :
    Calls Tryd.prog 84 #[.pointer (some ⟨p, 0, none⟩), .agg (A8 b), .agg (A8 key)] w fun e w' => e = .returned (.agg (A8 (unroundS b key))) ∧ Below w.heap.size w w' := by
  obtain ⟨W, hW⟩ : ∃ W, (((w.alloc (.cells (A8 b) 31)).alloc (.cells (A8 key) 31)).alloc (.cells (A8 (zeros 8 16)) 31)).alloc (.cells (A8 (zeros 8 16)) 31) = W := ⟨_, rfl⟩
  obtain ⟨b0, b1, b2, b3, hb, hz⟩ := new4 _ _ _ _ _ _ _ _ _ _ hW
  have T0 := Lib.hid hT
  have P0 := Lib.hid b0
  have r0 := b0.row
  have r1 := b1.row
  have Z0 := Lib.hid b2
  have O0 := Lib.hid b3
  have B0 := Lib.hid hb
  obtain ⟨d, hd⟩ : ∃ d, d = xor16 b key := ⟨_, rfl⟩
  have hd16 : d.length = 16 := by rw [hd]; simp
  obtain ⟨L, hL⟩ : ∃ L, L = mix16 unmixM d := ⟨_, rfl⟩
  have hLl : L.length = 16 := by rw [hL]; simp
  have hcol : ∀ c, c < 4 → le32 (colTo unmixM 0#32 (fun r => nth d (r + 4 * c)) 4) = (L.drop (4 * c)).take 4 := fun c hc => by rw [hL]; exact unmix_bytes d c hc
  rw [show unroundS b key = sub16 unbox (unshift16 L) by rw [hL, hd]; rfl]
  have HC := Lib.hid hcol
  have HL := Lib.hid hLl
  have HD := Lib.hid hd
  have HDL := Lib.hid hd16
  clear b0 b1 b2 b3 hb hz hT hL hcol hLl hd hd16
  go_enter Tryd.func84, Tryd.ntmps84
  go_wp2_with fail
  refine (tboth_any b key W hb16 hk16).mono ?_
  rintro e w1 ⟨rfl, hb1⟩
  rw [← HD.out]
  have P1 := Lib.hid ((P0.out.belowAll hb1).put (A8 d))
  have Z1 := Lib.hid ((Z0.out.belowAll hb1).farRow (k := w.heap.size) (by omega) (A8 d))
  have O1 := Lib.hid ((O0.out.belowAll hb1).farRow (k := w.heap.size) (by omega) (A8 d))
  have B1 := Lib.hid (below_setRow (B0.out.trans (hb1.mono B0.out.size)) (Nat.le_refl _) (A8 d))
  have rr := (P0.out.belowAll hb1).row
  have rw1 := (P0.out.belowAll hb1).whole
  have hdl := HDL.out
  clear hb1 hW r0 r1 P0 Z0 O0 B0
  go_wp2_with fail
  generalize w1.setRow w.heap.size (A8 d) = W1 at *
  clear rr rw1 hdl
  go_loopw [18] (fun i wr => ∃ c : Nat, c ≤ 4 ∧ i = .int .i64 c ∧ Blk wr w.heap.size 31 (A8 d) ∧ Blk wr (w.heap.size + 2) 31 (A8 (zeros 8 16)) ∧ Blk wr (w.heap.size + 3) 31 (A8 (fillN 16 L (4 * c))) ∧ Below w.heap.size w wr) (fun i _ => 4 - (intOf i).toNat)
  case atStart => exact ⟨0, by omega, rfl, P1.out, Z1.out, by rw [Nat.mul_zero, fillN_zero]; exact O1.out, B1.out⟩
  case round =>
    obtain ⟨c, hc, rfl, hP, hZ, hO, hB⟩ := hrel
    have P2 := Lib.hid hP
    have Z2 := Lib.hid hZ
    have O2 := Lib.hid hO
    have B2 := Lib.hid hB
    clear hP hZ hO hB P1 Z1 O1 B1
    by_cases hc4 : c < 4
    · have j1 : (c : Int) < 4 := by omega
      have j0 : (0 : Int) ≤ (c : Int) := by omega
      obtain ⟨E, hE⟩ : ∃ E, E = 4 * c := ⟨_, rfl⟩
      have f1 : (4 : Int) * (c : Int) = (E : Int) := by omega
      have f2 : IntKind.i64.wrap (E : Int) = (E : Int) := by rw [IntKind.wrap_i64]; omega
      have HE := Lib.hid hE
      clear hE
      go_wp2_with fail
      go_loopw [9, 21] (fun n i wx => ∃ r : Nat, r ≤ 4 ∧ i = .int .i64 r ∧ n = v32 (colTo unmixM 0#32 (fun r => nth d (r + 4 * c)) r) ∧ Below wr.heap.size wr wx) (fun _ i _ => 4 - (intOf i).toNat)
      case atStart => exact ⟨0, by omega, rfl, rfl, Below.refl _ _⟩
      case round =>
        obtain ⟨r, hr, rfl, rfl, hB⟩ := hrel
        have B3 := Lib.hid hB
        clear hB
        by_cases hr4 : r < 4
        · have k1 : (r : Int) < 4 := by omega
          have k0 : (0 : Int) ≤ (r : Int) := by omega
          obtain ⟨G, hG⟩ : ∃ G, G = r + 4 * c := ⟨_, rfl⟩
          have hG16 : G < 16 := by omega
          have g1 : (r : Int) + (E : Int) = (G : Int) := by have := HE.out; omega
          have g2 : IntKind.i64.wrap (G : Int) = (G : Int) := by rw [IntKind.wrap_i64]; omega
          have g3 : (G : Int) < 16 := by omega
          have g4 : (0 : Int) ≤ (G : Int) := by omega
          have c1 := (P2.out.belowAll B3.out).drew.cell8 HDL.out G hG16
          have c2 := ((T0.out.below (B2.out.trans (B3.out.mono B2.out.size))).drew).unmix r (nth d G) hr4
          obtain ⟨N, hN⟩ : ∃ N, N = colTo unmixM 0#32 (fun r => nth d (r + 4 * c)) r := ⟨_, rfl⟩
          rw [← hN]
          have HN := Lib.hid hN
          have HG := Lib.hid hG
          clear hN hG
          go_upto_region 12 with fail
          refine wp_region_text3' [0,0,0,0,0,0,0,0,1,0,0,0,0,1,0,0] (by kernel_rfl) (by kernel_rfl) (fun ops' K2 hK2 => ?_)
          repeat
            first
              | ((with_reducible refine z_move (a' := ?_) ?_ ?_); rotate_left; · (simp only [Act.put, List.setIfInBounds_toArray, List.set_cons_succ, List.set_cons_zero, Act.eval, Array.getD_eq_getD_getElem?, List.getElem?_toArray, List.getElem?_cons_succ, List.getElem?_cons_zero, Option.getD_some]; exact rfl))
              | ((with_reducible refine z_assign (a' := ?_) ?_ ?_); rotate_left; · (simp only [Act.put, List.setIfInBounds_toArray, List.set_cons_succ, List.set_cons_zero, Act.eval, Array.getD_eq_getD_getElem?, List.getElem?_toArray, List.getElem?_cons_succ, List.getElem?_cons_zero, Option.getD_some]; exact rfl))
              | ((with_reducible refine z_obl (v := ?_) (a' := ?_) rfl (fun _ => ?_) ?_ ?_); rotate_left; rotate_left; (focus (go_simp; (try go_bits); exact rfl)); (focus (simp only [Act.put, List.setIfInBounds_toArray, List.set_cons_succ, List.set_cons_zero, Act.eval, Array.getD_eq_getD_getElem?, List.getElem?_toArray, List.getElem?_cons_succ, List.getElem?_cons_zero, Option.getD_some]; exact rfl)))
              | ((with_reducible refine z_read (v := ?_) (a' := ?_) rfl ?_ ?_ ?_); rotate_left; rotate_left; (focus (go_simp; (try go_bits); exact rfl)); (focus (simp only [Act.put, List.setIfInBounds_toArray, List.set_cons_succ, List.set_cons_zero, Act.eval, Array.getD_eq_getD_getElem?, List.getElem?_toArray, List.getElem?_cons_succ, List.getElem?_cons_zero, Option.getD_some]; exact rfl)))
          refine z_nil (hK2 _ _ ?_)
          clear c1 c2 hK2
          go_wp2
          refine ⟨⟨r + 1, by omega, by go_num, ?_, B3.out.drew⟩, by simp [intOf]; omega⟩
          rw [colTo, ← HN.out, ← HG.out]
        · obtain rfl : r = 4 := by omega
          have hcc := HC.out c hc4
          obtain ⟨N, hN⟩ : ∃ N, N = colTo unmixM 0#32 (fun r => nth d (r + 4 * c)) 4 := ⟨_, rfl⟩
          rw [← hN] at hcc ⊢
          rw [← HE.out] at hcc
          have HCC := Lib.hid hcc
          clear hcc hN
          go_wp2_with fail
          refine (putword_any N _).mono ?_
          rintro e w4 ⟨rfl, hb4⟩
          have b14 := B3.out.trans (hb4.mono B3.out.size)
          have P4 := Lib.hid ((P2.out.belowAll b14).alloc (.cells (A8 (le32 N)) 100))
          have Z4 := Lib.hid ((Z2.out.belowAll b14).alloc (.cells (A8 (le32 N)) 100))
          have O4 := Lib.hid ((O2.out.belowAll b14).alloc (.cells (A8 (le32 N)) 100))
          have N4 := Lib.hid (Blk.new w4 100 (A8 (le32 N)))
          have d4 := B2.out.trans (b14.mono B2.out.size)
          have B4 := Lib.hid (d4.alloc d4.size (.cells (A8 (le32 N)) 100))
          have h14 := (O2.out.belowAll b14).lt
          clear hb4 b14 d4 P2 Z2 O2 B2 B3
          go_upto_region 15 with fail
          generalize w4.alloc (.cells (A8 (le32 N)) 100) = W4 at *
          generalize w4.heap.size = pN at *
          have e1 : (E : Int) ≤ 16 := by have := HE.out; omega
          have e0 : (0 : Int) ≤ (E : Int) := by omega
          have e2 : ¬ 16 = E := by have := HE.out; omega
          refine wp_region_text3' [0,0,0,0,2] (by kernel_rfl) (by kernel_rfl) (fun ops' K2 hK2 => ?_)
          repeat
            first
              | ((with_reducible refine z_move (a' := ?_) ?_ ?_); rotate_left; · (simp only [Act.put, List.setIfInBounds_toArray, List.set_cons_succ, List.set_cons_zero, Act.eval, Array.getD_eq_getD_getElem?, List.getElem?_toArray, List.getElem?_cons_succ, List.getElem?_cons_zero, Option.getD_some]; exact rfl))
              | ((with_reducible refine z_assign (a' := ?_) ?_ ?_); rotate_left; · (simp only [Act.put, List.setIfInBounds_toArray, List.set_cons_succ, List.set_cons_zero, Act.eval, Array.getD_eq_getD_getElem?, List.getElem?_toArray, List.getElem?_cons_succ, List.getElem?_cons_zero, Option.getD_some]; exact rfl))
              | ((with_reducible refine z_obl (v := ?_) (a' := ?_) rfl (fun _ => ?_) ?_ ?_); rotate_left; rotate_left; (focus (go_simp; (try go_bits); exact rfl)); (focus (simp only [Act.put, List.setIfInBounds_toArray, List.set_cons_succ, List.set_cons_zero, Act.eval, Array.getD_eq_getD_getElem?, List.getElem?_toArray, List.getElem?_cons_succ, List.getElem?_cons_zero, Option.getD_some]; exact rfl)))
              | ((with_reducible refine z_read (v := ?_) (a' := ?_) rfl ?_ ?_ ?_); rotate_left; rotate_left; (focus (go_simp; (try go_bits); exact rfl)); (focus (simp only [Act.put, List.setIfInBounds_toArray, List.set_cons_succ, List.set_cons_zero, Act.eval, Array.getD_eq_getD_getElem?, List.getElem?_toArray, List.getElem?_cons_succ, List.getElem?_cons_zero, Option.getD_some]; exact rfl)))
          have rn := N4.out.drew.rd8 4 (by simp) (by simp; unfold maxLen; omega)
          refine z_copy8 O4.out.drew rn rfl rfl Tryd.underlying22 size8 (by rw [fillN_length]; omega) (fun w5 v5 k5 g5 s5 => ?_)
          refine z_nil (hK2 _ _ ?_)
          have e5 : splc (fillN 16 L (4 * c)) E (((le32 N).take 4).take (min 4 (16 - E))) = fillN 16 L (4 * (c + 1)) := by
            have hE := HE.out
            rw [List.take_of_length_le (l := le32 N) (by simp), List.take_of_length_le (by simp; omega), HCC.out, hE]
            exact fill_four L HL.out c hc4
          rw [e5] at k5
          have P5 := Lib.hid (P4.out.drew.grown g5 (by simp))
          have Z5 := Lib.hid (Z4.out.drew.grown g5 (by simp))
          have O5 := Lib.hid k5
          have B5 := Lib.hid (B4.out.drew.trans (grown_below g5 (by omega) B4.out.size))
          clear k5 g5 s5 e5 rn hK2 P4 Z4 O4 N4 B4 e2
          go_wp2
          exact ⟨⟨c + 1, by omega, by go_num, P5.out, Z5.out, O5.out, B5.out⟩, by simp [intOf]; omega⟩
    · obtain rfl : c = 4 := by omega
      have zz := O2.out
      rw [show 4 * 4 = 16 from rfl, fillN_full 16 L HL.out] at zz
      have hl := HL.out
      have r1 := zz.row
      have hT2 := T0.out.below B2.out
      clear zz
      go_wp2_with fail
      refine (unboxed_any p L wr hT2 hl).mono ?_
      rintro e w5 ⟨rfl, hb5⟩
      have r3 := (Z2.out.belowAll hb5).whole
      have r4 := (Z2.out.belowAll hb5).row
      have B5 := B2.out.trans (hb5.mono B2.out.size)
      have hlx := sub16_length unbox (unshift16 L)
      go_wp2
      refine bodyPost_row (A8 (sub16 unbox (unshift16 L))) rfl rfl rfl (Tryd.isAgg31 _) (Tryd.sizeOf31 _) (by rw [A8_size]; exact hlx) (rowAt_setRow _ r3) ⟨rfl, below_setRow B5 (by omega) _⟩
end Go.Proofs.YtepijmidafndaaaDoor
