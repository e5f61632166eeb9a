/- turn: Round -/
import Derived.Test.YtpifdkkhdgbcdaaGreatDoorMGc
namespace Go.Proofs.YtpifdkkhdgbcdaaGreatDoor
open Lib (hid)
set_option linter.unusedSimpArgs false
set_option maxRecDepth 100000
set_option maxHeartbeats 1600000
open Go.RowKit
theorem shifted_at (r c F : Nat) (w : World) (hr : r < 4) (hc : c < 4) (hF : F = r + 4 * ((c + r) % 4)) :
  Calls Tryz.prog 74 #[.int .i64 r, .int .i64 c] w fun e w' => e = .returned (.int .i64 (F : Int)) ∧ w = w' := by
 subst hF; exact shifted_any r c w hr hc
theorem ofNat_self (x : BitVec 8) : BitVec.ofNat 8 x.toNat = x := by simp
theorem TabAt.mix {w : World} {p : Nat} (h : TabAt w p) (r : Nat) (x : BitVec 8) (hr : r < 4) : w.cell? ⟨p, 1 + r * 256 + x.toNat, none⟩ = some (v32 (col mixM r (box x))) := by
 obtain ⟨q, h1, h2⟩ := h
 have hx := x.isLt
 rw [show 1 + r * 256 + x.toNat = 1 + (256 * r + x.toNat) by omega, h1.cell, PA_get _ _ _ (by rw [tabL_length]; omega), nth_tabL _ (by omega), tabF_mix r _ hr (by omega), ofNat_self]
theorem tround_any (p : Nat) (b key : List (BitVec 8)) (w : World) (hT : TabAt w p) (hb16 : b.length = 16) (hk16 : key.length = 16) :
  Calls Tryz.prog 73 #[.pointer (some ⟨p, 0, none⟩), .agg (A8 b), .agg (A8 key)] w fun e w' => e = .returned (.agg (A8 (roundS b key))) ∧ Below w.heap.size w w' := by
 obtain ⟨W, hW⟩ : ∃ W, (((w.alloc (.cells (A8 b) 109)).alloc (.cells (A8 key) 109)).alloc (.cells (A8 (zeros 8 16)) 109)).alloc (.cells (A8 (zeros 8 16)) 109) = W := ⟨_, rfl⟩
 obtain ⟨b0, b1, b2, b3, hb, hz⟩ := new4 _ _ _ _ _ _ _ _ _ _ hW
 have T0 := hid hT
 have P0 := hid b0
 have Q0 := hid b1
 have Z0 := hid b2
 have O0 := hid b3
 have B0 := hid hb
 obtain ⟨L, hL⟩ : ∃ L, L = roundS b key := ⟨_, rfl⟩
 have hLl : L.length = 16 := by rw [hL]; simp
 have hcol : ∀ c, c < 4 → le32 (colTo mixM (word key (4 * c)) (fun r => box (nth b (r + 4 * ((c + r) % 4)))) 4) = (L.drop (4 * c)).take 4 := fun c hc => by rw [hL]; exact round_bytes b key c hc
 rw [← hL]
 have HC := hid hcol
 have HL := hid hLl
 clear b0 b1 b2 b3 hb hz hT hL hcol hLl
 go_enter Tryz.func73, Tryz.ntmps73
 go_wp2_with fail
 go_loopw [15] (fun i wr => ∃ c : Nat, c ≤ 4 ∧ i = .int .i64 c ∧ Blk wr w.heap.size 109 (A8 b) ∧ Blk wr (w.heap.size + 1) 109 (A8 key) ∧ Blk wr (w.heap.size + 2) 109 (A8 (zeros 8 16)) ∧ Blk wr (w.heap.size + 3) 109 (A8 (fillN 16 L (4 * c))) ∧ Below w.heap.size w wr) (fun i _ => 4 - (intOf i).toNat)
 case atStart => exact ⟨0, by omega, rfl, P0.out, Q0.out, Z0.out, by rw [Nat.mul_zero, fillN_zero]; exact O0.out, B0.out⟩
 case round =>
  obtain ⟨c, hc, rfl, hP, hQ, hZ, hO, hB⟩ := hrel
  have P1 := hid hP
  have Q1 := hid hQ
  have Z1 := hid hZ
  have O1 := hid hO
  have B1 := hid hB
  clear hP hQ hZ hO hB P0 Q0 Z0 O0 B0 hW
  by_cases hc4 : c < 4
  ·have j1 : (c : Int) < 4 := by omega
   have j0 : (0 : Int) ≤ (c : Int) := by omega
   obtain ⟨E, hE⟩ : ∃ E, E = 4 * c := ⟨_, rfl⟩
   have f1 : (4 : Int) * (c : Int) = (E : Int) := by omega
   have f2 : IntKind.i64.wrap (E : Int) = (E : Int) := by rw [IntKind.wrap_i64]; omega
   have HE := hid hE
   have rk := Q1.out.rd8 16 (by omega) (by rw [hk16]; unfold maxLen; omega)
   rw [List.take_of_length_le (by omega), hk16] at rk
   have RK := hid rk
   clear hE rk
   go_wp2_with fail
   refine (word_any key _ 16 16 (E : Int) wr RK.out (by omega) (by have := HE.out; omega)).mono ?_
   rintro e w1 ⟨rfl, hb1⟩
   rw [Int.toNat_natCast]
   have P2 := hid (P1.out.belowAll hb1)
   have Q2 := hid (Q1.out.belowAll hb1)
   have Z2 := hid (Z1.out.belowAll hb1)
   have O2 := hid (O1.out.belowAll hb1)
   have B2 := hid (B1.out.trans (hb1.mono B1.out.size))
   have hz3 := O1.out.lt
   clear hb1 P1 Q1 Z1 O1 B1 RK
   go_wp2_with fail
   go_loopw [9, 22] (fun n i wx => ∃ r : Nat, r ≤ 4 ∧ i = .int .i64 r ∧ n = v32 (colTo mixM (word key E) (fun r => box (nth b (r + 4 * ((c + r) % 4)))) r) ∧ Below w1.heap.size w1 wx) (fun _ i _ => 4 - (intOf i).toNat)
   case atStart => exact ⟨0, by omega, rfl, rfl, Below.refl _ _⟩
   case round =>
    obtain ⟨r, hr, rfl, rfl, hB⟩ := hrel
    have B3 := hid hB
    clear hB
    by_cases hr4 : r < 4
    ·have k1 : (r : Int) < 4 := by omega
     have k0 : (0 : Int) ≤ (r : Int) := by omega
     obtain ⟨F, hF⟩ : ∃ F, F = r + 4 * ((c + r) % 4) := ⟨_, rfl⟩
     have hF16 : F < 16 := by omega
     have k3 : (F : Int) < 16 := by omega
     have k4 : (0 : Int) ≤ (F : Int) := by omega
     have c1 := (P2.out.belowAll B3.out).drew.cell8 hb16 F hF16
     have c2 := ((T0.out.below (B2.out.trans (B3.out.mono B2.out.size))).drew).mix r (nth b F) hr4
     obtain ⟨N, hN⟩ : ∃ N, N = colTo mixM (word key E) (fun r => box (nth b (r + 4 * ((c + r) % 4)))) r := ⟨_, rfl⟩
     rw [← hN]
     have HN := hid hN
     have HF := hid hF
     clear hN hF
     go_upto_region 11 with fail
     refine wp_region_text3' [0,0,0,0,0,3,0,1,0,0,0,0,1,0,0] (by kernel_rfl) (by kernel_rfl) (fun ops' K2 hK2 => ?_)
     repeat
      (first
       | (with_reducible refine z_move (a' := ?_) ?_ ?_); rotate_left
       | (with_reducible refine z_assign (a' := ?_) ?_ ?_); rotate_left
       | (with_reducible refine z_obl (v := ?_) (a' := ?_) rfl (fun _ => ?_) ?_ ?_); rotate_left 2; (focus (go_simp; (try go_bits); exact rfl))
       | (with_reducible refine z_read (v := ?_) (a' := ?_) rfl ?_ ?_ ?_); rotate_left 2; (focus (go_simp; (try go_bits); exact rfl)))
      focus (simp only [Act.put, zz1, zz2, zz3, Act.eval, zz4, zz5, zz6, zz7, zz8]; exact rfl)
     ((with_reducible refine z_call (v := ?_) (a' := ?_) rfl (fun _ => ?_) ?_ ?_); rotate_left; rotate_left)
     ·go_simp
      refine enters_of ?_
      exact shifted_at r c F _ hr4 hc4 HF.out
     ·(simp only [Act.put, zz1, zz2, zz3, Act.eval, zz4, zz5, zz6, zz7, zz8]; exact rfl)
     repeat
      (first
       | (with_reducible refine z_move (a' := ?_) ?_ ?_); rotate_left
       | (with_reducible refine z_assign (a' := ?_) ?_ ?_); rotate_left
       | (with_reducible refine z_obl (v := ?_) (a' := ?_) rfl (fun _ => ?_) ?_ ?_); rotate_left 2; (focus (go_simp; (try go_bits); exact rfl))
       | (with_reducible refine z_read (v := ?_) (a' := ?_) rfl ?_ ?_ ?_); rotate_left 2; (focus (go_simp; (try go_bits); exact rfl)))
      focus (simp only [Act.put, zz1, zz2, zz3, Act.eval, zz4, zz5, zz6, zz7, zz8]; exact rfl)
     refine z_nil (hK2 _ _ ?_)
     clear c1 c2 hK2
     go_wp2
     refine ⟨⟨r + 1, by omega, by go_num, ?_, B3.out.drew⟩, by simp [intOf]; omega⟩
     rw [colTo, ← HN.out, ← HF.out]
    ·obtain rfl : r = 4 := by omega
     have hcc := HC.out c hc4
     rw [← HE.out] at hcc
     obtain ⟨N, hN⟩ : ∃ N, N = colTo mixM (word key E) (fun r => box (nth b (r + 4 * ((c + r) % 4)))) 4 := ⟨_, rfl⟩
     rw [← hN] at hcc ⊢
     have HCC := hid hcc
     clear hcc hN
     go_wp2_with fail
     refine (putword_any N _).mono ?_
     rintro e w4 ⟨rfl, hb4⟩
     have b14 := B3.out.trans (hb4.mono B3.out.size)
     have P4 := hid ((P2.out.belowAll b14).alloc (.cells (A8 (le32 N)) 65))
     have Q4 := hid ((Q2.out.belowAll b14).alloc (.cells (A8 (le32 N)) 65))
     have Z4 := hid ((Z2.out.belowAll b14).alloc (.cells (A8 (le32 N)) 65))
     have O4 := hid ((O2.out.belowAll b14).alloc (.cells (A8 (le32 N)) 65))
     have N4 := hid (Blk.new w4 65 (A8 (le32 N)))
     have d4 := B2.out.trans (b14.mono B2.out.size)
     have B4 := hid (d4.alloc d4.size (.cells (A8 (le32 N)) 65))
     have h14 := (O2.out.belowAll b14).lt
     clear hb4 b14 d4 P2 Q2 Z2 O2 B2 B3
     go_upto_region 14 with fail
     generalize w4.alloc (.cells (A8 (le32 N)) 65) = W4 at *
     generalize w4.heap.size = pN at *
     have e1 : (E : Int) ≤ 16 := by have := HE.out; omega
     have e0 : (0 : Int) ≤ (E : Int) := by omega
     have e2 : ¬ 16 = E := by have := HE.out; omega
     refine wp_region_text3' [0,0,0,0,2] (by kernel_rfl) (by kernel_rfl) (fun ops' K2 hK2 => ?_)
     repeat
      (first
       | (with_reducible refine z_move (a' := ?_) ?_ ?_); rotate_left
       | (with_reducible refine z_assign (a' := ?_) ?_ ?_); rotate_left
       | (with_reducible refine z_obl (v := ?_) (a' := ?_) rfl (fun _ => ?_) ?_ ?_); rotate_left 2; (focus (go_simp; (try go_bits); exact rfl))
       | (with_reducible refine z_read (v := ?_) (a' := ?_) rfl ?_ ?_ ?_); rotate_left 2; (focus (go_simp; (try go_bits); exact rfl)))
      focus (simp only [Act.put, zz1, zz2, zz3, Act.eval, zz4, zz5, zz6, zz7, zz8]; exact rfl)
     have rn := N4.out.drew.rd8 4 (by simp) (by simp; unfold maxLen; omega)
     refine z_copy8 O4.out.drew rn rfl rfl Tryz.underlying22 size8 (by rw [fillN_length]; omega) (fun w5 v5 k5 g5 s5 => ?_)
     refine z_nil (hK2 _ _ ?_)
     have e5 : splc (fillN 16 L (4 * c)) E (((le32 N).take 4).take (min 4 (16 - E))) = fillN 16 L (4 * (c + 1)) := by
      have hE := HE.out
      rw [List.take_of_length_le (l := le32 N) (by simp), List.take_of_length_le (by simp; omega), HCC.out, hE]
      exact fill_four L HL.out c hc4
     rw [e5] at k5
     have P5 := hid (P4.out.drew.grown g5 (by simp))
     have Q5 := hid (Q4.out.drew.grown g5 (by simp))
     have Z5 := hid (Z4.out.drew.grown g5 (by simp))
     have O5 := hid k5
     have B5 := hid (B4.out.drew.trans (grown_below g5 (by omega) B4.out.size))
     clear k5 g5 s5 e5 rn hK2 P4 Q4 Z4 O4 N4 B4 e2
     go_wp2
     exact ⟨⟨c + 1, by omega, by go_num, P5.out, Q5.out, Z5.out, O5.out, B5.out⟩, by simp [intOf]; omega⟩
  ·obtain rfl : c = 4 := by omega
   have zz := O1.out
   rw [show 4 * 4 = 16 from rfl, fillN_full 16 L HL.out] at zz
   have r1 := zz.row
   have r2 := Z1.out.row
   have r3 := Z1.out.whole
   have hl := HL.out
   clear zz
   go_wp2
   refine bodyPost_row (A8 L) rfl rfl rfl (Tryz.isAgg109 _) (Tryz.sizeOf109 _) (by rw [A8_size]; exact hl) (rowAt_setRow _ r3) ⟨rfl, below_setRow B1.out (by omega) _⟩
open Go.RowKit
theorem last_nth (b : List (BitVec 8)) (c r : Nat) (hc : c < 4) (hr : r < 4) : nth (shift16 (sub16 box b)) (4 * c + r) = box (nth b (r + 4 * ((c + r) % 4))) := by
 rw [shift16, nth_r16 _ _ (by omega), sub16, nth_r16 _ _ (by unfold shp; omega), show shp (4 * c + r) = r + 4 * ((c + r) % 4) by unfold shp; omega]
theorem tlast_any (p : Nat) (b key : List (BitVec 8)) (w : World) (hT : TabAt w p) (hb16 : b.length = 16) (hk16 : key.length = 16) :
  Calls Tryz.prog 61 #[.pointer (some ⟨p, 0, none⟩), .agg (A8 b), .agg (A8 key)] w fun e w' => e = .returned (.agg (A8 (lastS b key))) ∧ Below w.heap.size w w' := by
 obtain ⟨W, hW⟩ : ∃ W, (((w.alloc (.cells (A8 b) 109)).alloc (.cells (A8 key) 109)).alloc (.cells (A8 (zeros 8 16)) 109)).alloc (.cells (A8 (zeros 8 16)) 109) = W := ⟨_, rfl⟩
 obtain ⟨b0, b1, b2, b3, hb, hz⟩ := new4 _ _ _ _ _ _ _ _ _ _ hW
 obtain ⟨q, hT1, hT2⟩ := hT
 have T0 := hid hT1
 have X0 := hid hT2
 have P0 := hid b0
 have Q0 := hid b1
 have Z0 := hid b2
 have O0 := hid b3
 have B0 := hid hb
 obtain ⟨L, hL⟩ : ∃ L, L = shift16 (sub16 box b) := ⟨_, rfl⟩
 have hLl : L.length = 16 := by rw [hL]; simp
 have hnth : ∀ c r, c < 4 → r < 4 → box (nth b (r + 4 * ((c + r) % 4))) = nth L (4 * c + r) := fun c r hc hr => by rw [hL]; exact (last_nth b c r hc hr).symm
 rw [show lastS b key = xor16 L key by rw [hL]; rfl]
 have HN := hid hnth
 have HL := hid hLl
 clear b0 b1 b2 b3 hb hz hT1 hT2 hL hnth hLl
 go_enter Tryz.func61, Tryz.ntmps61
 go_wp2_with fail
 go_loopw [13] (fun i wr => ∃ c : Nat, c ≤ 4 ∧ i = .int .i64 c ∧ Blk wr w.heap.size 109 (A8 b) ∧ Blk wr (w.heap.size + 1) 109 (A8 key) ∧ Blk wr (w.heap.size + 2) 109 (A8 (zeros 8 16)) ∧ Blk wr (w.heap.size + 3) 109 (A8 (fillN 16 L (4 * c))) ∧ Below w.heap.size w wr) (fun i _ => 4 - (intOf i).toNat)
 case atStart => exact ⟨0, by omega, rfl, P0.out, Q0.out, Z0.out, by rw [Nat.mul_zero, fillN_zero]; exact O0.out, B0.out⟩
 case round =>
  obtain ⟨c, hc, rfl, hP, hQ, hZ, hO, hB⟩ := hrel
  have P1 := hid hP
  have Q1 := hid hQ
  have Z1 := hid hZ
  have O1 := hid hO
  have B1 := hid hB
  clear hP hQ hZ hO hB P0 Q0 Z0 O0 B0 hW
  by_cases hc4 : c < 4
  ·have j1 : (c : Int) < 4 := by omega
   have j0 : (0 : Int) ≤ (c : Int) := by omega
   obtain ⟨E, hE⟩ : ∃ E, E = 4 * c := ⟨_, rfl⟩
   have f1 : (4 : Int) * (c : Int) = (E : Int) := by omega
   have f2 : IntKind.i64.wrap (E : Int) = (E : Int) := by rw [IntKind.wrap_i64]; omega
   have HE := hid hE
   clear hE
   go_wp2_with fail
   go_loopw [16] (fun i wx => ∃ r : Nat, r ≤ 4 ∧ i = .int .i64 r ∧ Blk wx w.heap.size 109 (A8 b) ∧ Blk wx (w.heap.size + 1) 109 (A8 key) ∧ Blk wx (w.heap.size + 2) 109 (A8 (zeros 8 16)) ∧ Blk wx (w.heap.size + 3) 109 (A8 (fillN 16 L (4 * c + r))) ∧ Below w.heap.size w wx) (fun i _ => 4 - (intOf i).toNat)
   case atStart => exact ⟨0, by omega, rfl, P1.out, Q1.out, Z1.out, O1.out, B1.out⟩
   case round =>
    obtain ⟨r, hr, rfl, hP, hQ, hZ, hO, hB⟩ := hrel
    have P2 := hid hP
    have Q2 := hid hQ
    have Z2 := hid hZ
    have O2 := hid hO
    have B2 := hid hB
    clear hP hQ hZ hO hB P1 Q1 Z1 O1 B1
    by_cases hr4 : r < 4
    ·have k1 : (r : Int) < 4 := by omega
     have k0 : (0 : Int) ≤ (r : Int) := by omega
     obtain ⟨F, hF⟩ : ∃ F, F = r + 4 * ((c + r) % 4) := ⟨_, rfl⟩
     have hF16 : F < 16 := by omega
     have k3 : (F : Int) < 16 := by omega
     have k4 : (0 : Int) ≤ (F : Int) := by omega
     obtain ⟨G, hG⟩ : ∃ G, G = 4 * c + r := ⟨_, rfl⟩
     have hG16 : G < 16 := by omega
     have g1 : (r : Int) + (E : Int) = (G : Int) := by have := HE.out; omega
     have g2 : IntKind.i64.wrap (G : Int) = (G : Int) := by rw [IntKind.wrap_i64]; omega
     have g3 : (G : Int) < 16 := by omega
     have g4 : (0 : Int) ≤ (G : Int) := by omega
     have c1 := P2.out.drew.cell8 hb16 F hF16
     have c2 := (T0.out.belowAll B2.out).drew.cell 0
     rw [PA_zero] at c2
     have hnb := HN.out c r hc4 hr4
     rw [← hF, ← hG] at hnb
     rw [← hG] at O2
     have HNB := hid hnb
     have HF := hid hF
     have HG := hid hG
     clear hF hG hnb
     go_upto_region 10 with fail
     refine wp_region_text3' [0,0,0,0,0,0,0,1,0,0,3,0,1,1,0,2] (by kernel_rfl) (by kernel_rfl) (fun ops' K2 hK2 => ?_)
     repeat
      (first
       | (with_reducible refine z_move (a' := ?_) ?_ ?_); rotate_left
       | (with_reducible refine z_assign (a' := ?_) ?_ ?_); rotate_left
       | (with_reducible refine z_obl (v := ?_) (a' := ?_) rfl (fun _ => ?_) ?_ ?_); rotate_left 2; (focus (go_simp; (try go_bits); exact rfl))
       | (with_reducible refine z_read (v := ?_) (a' := ?_) rfl ?_ ?_ ?_); rotate_left 2; (focus (go_simp; (try go_bits); exact rfl)))
      focus (simp only [Act.put, zz1, zz2, zz3, Act.eval, zz4, zz5, zz6, zz7, zz8]; exact rfl)
     ((with_reducible refine z_call (v := ?_) (a' := ?_) rfl (fun _ => ?_) ?_ ?_); rotate_left; rotate_left)
     ·go_simp
      refine enters_of ?_
      exact shifted_at r c F _ hr4 hc4 HF.out
     ·(simp only [Act.put, zz1, zz2, zz3, Act.eval, zz4, zz5, zz6, zz7, zz8]; exact rfl)
     repeat
      (first
       | (with_reducible refine z_move (a' := ?_) ?_ ?_); rotate_left
       | (with_reducible refine z_assign (a' := ?_) ?_ ?_); rotate_left
       | (with_reducible refine z_obl (v := ?_) (a' := ?_) rfl (fun _ => ?_) ?_ ?_); rotate_left 2; (focus (go_simp; (try go_bits); exact rfl))
       | (with_reducible refine z_read (v := ?_) (a' := ?_) rfl ?_ ?_ ?_); rotate_left 2; (focus (go_simp; (try go_bits); exact rfl)))
      focus (simp only [Act.put, zz1, zz2, zz3, Act.eval, zz4, zz5, zz6, zz7, zz8]; exact rfl)
     ((with_reducible refine z_rcall (v := ?_) (a' := ?_) rfl ?_ ?_ ?_); rotate_left; rotate_left)
     ·go_simp
      refine enters_of ?_
      exact to_any q (nth b F) _ (X0.out.belowAll B2.out).drew
     ·(simp only [Act.put, zz1, zz2, zz3, Act.eval, zz4, zz5, zz6, zz7, zz8]; exact rfl)
     repeat
      (first
       | (with_reducible refine z_move (a' := ?_) ?_ ?_); rotate_left
       | (with_reducible refine z_assign (a' := ?_) ?_ ?_); rotate_left
       | (with_reducible refine z_obl (v := ?_) (a' := ?_) rfl (fun _ => ?_) ?_ ?_); rotate_left 2; (focus (go_simp; (try go_bits); exact rfl))
       | (with_reducible refine z_read (v := ?_) (a' := ?_) rfl ?_ ?_ ?_); rotate_left 2; (focus (go_simp; (try go_bits); exact rfl)))
      focus (simp only [Act.put, zz1, zz2, zz3, Act.eval, zz4, zz5, zz6, zz7, zz8]; exact rfl)
     refine z_store8 O2.out.drew rfl rfl (by rw [fillN_length]; exact hG16) (Tryz.sizeOf5 _) (fun w5 k5 g5 s5 => ?_)
     refine z_nil (hK2 _ _ ?_)
     rw [HNB.out, fillN_set 16 L G hG16, HG.out] at k5
     have P5 := hid (P2.out.drew.grown g5 (by simp))
     have Q5 := hid (Q2.out.drew.grown g5 (by simp))
     have Z5 := hid (Z2.out.drew.grown g5 (by simp))
     have O5 := hid k5
     have B5 := hid (B2.out.drew.trans (grown_below g5 (by omega) B2.out.size))
     clear k5 g5 s5 c1 c2 hK2 P2 Q2 Z2 O2 B2
     go_wp2
     exact ⟨⟨r + 1, by omega, by go_num, P5.out, Q5.out, Z5.out, O5.out, B5.out⟩, by simp [intOf]; omega⟩
    ·obtain rfl : r = 4 := by omega
     have hO := O2.out
     rw [show 4 * c + 4 = 4 * (c + 1) by omega] at hO
     have O3 := hid hO
     clear hO O2
     go_wp2
     exact ⟨⟨c + 1, by omega, by go_num, P2.out, Q2.out, Z2.out, O3.out, B2.out⟩, by simp [intOf]; omega⟩
  ·obtain rfl : c = 4 := by omega
   have zz := O1.out
   rw [show 4 * 4 = 16 from rfl, fillN_full 16 L HL.out] at zz
   have hl := HL.out
   have r1 := zz.row
   have r2 := Q1.out.row
   clear zz
   go_wp2_with fail
   refine (tboth_any L key wr hl hk16).mono ?_
   rintro e w5 ⟨rfl, hb5⟩
   have r3 := (Z1.out.belowAll hb5).whole
   have r4 := (Z1.out.belowAll hb5).row
   have B5 := B1.out.trans (hb5.mono B1.out.size)
   have hlx := xor16_length L key
   go_wp2
   refine bodyPost_row (A8 (xor16 L key)) rfl rfl rfl (Tryz.isAgg109 _) (Tryz.sizeOf109 _) (by rw [A8_size]; exact hlx) (rowAt_setRow _ r3) ⟨rfl, below_setRow B5 (by omega) _⟩
open Go.RowKit
open Go.RowKit
end Go.Proofs.YtpifdkkhdgbcdaaGreatDoor
