/- AdiantumEnciphers: the walk -/
import Derived.Test.YtfdkmjegcghieaaGreatDoorMHl
import Derived.Test.YtfdkmjegcghieaaGreatDoorMGs
import Derived.Test.YtfdkmjegcghieaaGreatDoorMJg
namespace Go.Proofs.YtfdkmjegcghieaaGreatDoor
open Lib (hid)
set_option linter.unusedSimpArgs false
set_option maxRecDepth 100000
set_option maxHeartbeats 1600000
open Go.RowKit
theorem AdiantumEnciphers_walk (T : Array Value) (k : List (BitVec 8)) (a : Option Addr) (n c : Nat) (t : List (BitVec 8)) (b : Option Addr) (m d : Nat) (x : List (BitVec 8)) (w : World) (h : AText T k a n c b m d) (ht : Rd8 w a n c t) (hx : Rd8 w b m d x) (hT : Turning w) :
  Calls Tryz.prog 4 #[.agg T] w fun e w' => e = .returned (.bool true) ∧ Below w.heap.size w w' := by
 obtain ⟨W, hW⟩ : ∃ W, (w.alloc (.cells T 46)) = W := ⟨_, rfl⟩
 obtain ⟨b0, hb, hz⟩ := new1 _ _ _ _ hW
 have r0 := b0.row
 have P0 := hid b0
 have B0 := hid hb
 have T0 := hid (hT.below hb)
 have X0 := hid (ht.below hb)
 have M0 := hid (hx.below hb)
 have s0 := h.size
 have x0 : T.extract 0 34 = T := by rw [← s0]; simp
 have HH := hid h
 have TW := hid h.tweak
 have MS := hid h.msg
 have hxl := hx.1
 have sh := short17_any W h
 clear hb hz hT ht hx h b0
 by_cases hs : n ≤ 100 ∧ m ≤ 300
 ·rw [decide_eq_true hs] at sh
  have SH := hid sh
  obtain ⟨hn, hm⟩ := hs
  clear sh
  go_enter Tryz.func4, Tryz.ntmps4
  go_wp2_with fail
  refine SH.out.mono ?_
  rintro e w1 ⟨rfl, d1⟩
  have P1 := hid (P0.out.belowAll d1)
  have B1 := hid (B0.out.trans (d1.mono B0.out.size))
  have T1 := hid (T0.out.below d1)
  have X1 := hid (X0.out.below d1)
  have M1 := hid (M0.out.below d1)
  have r1 := P1.out.row
  clear d1 r0 hW SH P0 B0 T0 X0 M0
  go_wp2_with fail
  refine (cipher17_any w1 HH.out T1.out).mono ?_
  rintro e w2 ⟨q, p, rfl, hk2, d2⟩
  have hkl := HH.out.lk
  have K2 := hid hk2
  have P2 := hid (P1.out.belowAll d2)
  have B2 := hid (B1.out.trans (d2.mono B1.out.size))
  have T2 := hid (T1.out.below d2)
  have X2 := hid (X1.out.below d2)
  have M2 := hid (M1.out.below d2)
  clear hk2 r1 d2 P1 B1 T1 X1 M1
  by_cases hm16 : m < 16
  ·have f1 : (m : Int) < 16 := by omega
   have c1 := P2.out.cell 32
   rw [TW.out] at c1
   have c2 := P2.out.cell 33
   rw [MS.out] at c2
   go_wp2_with fail
   refine (aenc_short q _ _ _ b m d w2 hm16).mono ?_
   rintro e w3 ⟨rfl, d3⟩
   have P3 := hid (P2.out.belowAll d3)
   have B3 := hid (B2.out.trans (d3.mono B2.out.size))
   have T3 := hid (T2.out.below d3)
   clear d3 c1 c2 P2 B2 T2 K2 X2 M2 HH
   have c1 := P3.out.cell 32
   rw [TW.out] at c1
   have c2 := P3.out.cell 33
   rw [MS.out] at c2
   go_wp2_with fail
   refine (adec_short q _ _ _ b m d w3 hm16).mono ?_
   rintro e w4 ⟨rfl, d4⟩
   have P4 := hid (P3.out.belowAll d4)
   have B4 := hid (B3.out.trans (d4.mono B3.out.size))
   have T4 := hid (T3.out.below d4)
   clear d4 c1 c2 P3 B3 T3
   have c1 := P4.out.cell 32
   rw [TW.out] at c1
   have c2 := P4.out.cell 33
   rw [MS.out] at c2
   go_wp2_with fail
   refine (awake17_any w4 T4.out).mono ?_
   rintro e w7 ⟨rfl, d7⟩
   go_wp2
   go_ret
   exact ⟨rfl, B4.out.trans (d7.mono B4.out.size)⟩
  ·have f1 : ¬ (m : Int) < 16 := by omega
   have hx16 : 16 ≤ x.length := by omega
   have hAl : (encA k t x).length = m := by rw [encA_length _ _ _ hx16, hxl]
   have hPl : (decA k t x).length = m := by rw [decA_length _ _ _ hx16, hxl]
   obtain ⟨A, hA⟩ : ∃ A, A = encA k t x := ⟨_, rfl⟩
   obtain ⟨Q, hQ⟩ : ∃ Q, Q = decA k t x := ⟨_, rfl⟩
   rw [← hA] at hAl
   rw [← hQ] at hPl
   have HA := hid hA
   have HQ := hid hQ
   clear hA hQ
   have c1 := P2.out.cell 32
   rw [TW.out] at c1
   have c2 := P2.out.cell 33
   rw [MS.out] at c2
   go_wp2_with fail
   refine (aenc_any q p k t x a b n c m d w2 K2.out hkl X2.out M2.out (by omega) (by omega)).mono ?_
   rintro e w3 ⟨v3, rfl, o3, d3⟩
   rw [← HA.out] at o3
   obtain ⟨a3, c3, rfl, hr3, _⟩ := o3.rd
   rw [hAl] at hr3 ⊢
   have K3 := hid (K2.out.below d3)
   have P3 := hid (P2.out.belowAll d3)
   have B3 := hid (B2.out.trans (d3.mono B2.out.size))
   have T3 := hid (T2.out.below d3)
   have X3 := hid (X2.out.below d3)
   have M3 := hid (M2.out.below d3)
   have A3 := hid hr3
   clear o3 hr3 d3 c1 c2 K2 P2 B2 T2 X2 M2
   have c1 := P3.out.cell 32
   rw [TW.out] at c1
   have c2 := P3.out.cell 33
   rw [MS.out] at c2
   go_wp2_with fail
   refine (adec_any q p k t x a b n c m d w3 K3.out hkl X3.out M3.out (by omega) (by omega)).mono ?_
   rintro e w4 ⟨v4, rfl, o4, d4⟩
   rw [← HQ.out] at o4
   obtain ⟨a4, c4, rfl, hr4, _⟩ := o4.rd
   rw [hPl] at hr4 ⊢
   have P4 := hid (P3.out.belowAll d4)
   have B4 := hid (B3.out.trans (d4.mono B3.out.size))
   have T4 := hid (T3.out.below d4)
   have X4 := hid (X3.out.below d4)
   have M4 := hid (M3.out.below d4)
   have A4 := hid (A3.out.below d4)
   have Q4 := hid hr4
   clear o4 hr4 d4 c1 c2 K3 P3 B3 T3 X3 M3 A3
   have c1 := P4.out.cell 32
   rw [TW.out] at c1
   have c2 := P4.out.cell 33
   rw [MS.out] at c2
   go_upto_region 10 with fail
   clear c1 c2
   obtain ⟨XB, hXB⟩ : ∃ z, z = boxesL := ⟨_, rfl⟩
   have hXl : XB.length = 512 := by rw [hXB]; exact boxesL_length
   have hXK : (XB ++ k).length = 544 := by rw [List.length_append, hXl, hkl]
   have hBX : BoxL XB boxT backT := by rw [hXB]; exact boxL_all
   have hnw := fun w1 h => refNew17_any k (some ⟨w.heap.size, 0, none⟩) 32 w1 h
   rw [← hXB] at hnw
   have NW := hid hnw
   have HXB := hid hXB
   clear hXB hnw
   obtain ⟨ZC, hZC⟩ : ∃ z, z = C17 (zeros 8 544) (.slice none 0 0) (.slice none 0 0) := ⟨_, rfl⟩
   have hZCs : ZC.size = 546 := by rw [hZC]; exact C17_size (by rw [zeros_length]) _ _
   have HZC := hid hZC
   clear hZC
   refine wp_region_order [2,0,0,2,2,3] [1,2] [(0, 2, _), (3, 2, _), (4, 2, _)] (fun i => if i = 3 then [0] else []) [5] [_, _] [_] [0,0] [3] 3 rfl rfl rfl (by kernel_rfl) (by kernel_rfl) (by kernel_rfl) rfl rfl rfl (fun C0 hC0 hCb hCe K' hK' => ?_)
   repeat
    (first
     | (with_reducible refine h_pure (v := ?_) (a' := ?_) ?_ (fun _ => ?_) ?_ ?_); rotate_left 2; (focus (exact rfl)); (focus (go_simp; (try go_bits); exact rfl))
     | (with_reducible refine h_obl (v := ?_) (a' := ?_) ?_ (fun _ hcw => ?_) ?_ ?_); rotate_left 2; (focus (exact rfl)); (focus (go_simp; (try go_bits); exact rfl))
     | (with_reducible refine h_read (v := ?_) (a' := ?_) ?_ (fun _ hbw => ?_) ?_ ?_); rotate_left 2; (focus (exact rfl)); (focus (go_simp; (try go_bits); exact rfl)))
    focus (simp only [Act.put, zz1, zz2, zz3, Act.eval, zz4, zz5, zz6, zz7, zz8]; exact rfl)
   refine h_nil ?_
   generalize hAct : Act.mk _ _ = act
   obtain ⟨u, rfl⟩ : ∃ u : Nat → Value, act = { tmps := (fun u : Nat → Value => (u 0 :: Value.pointer (some ⟨w.heap.size, 0, none⟩) :: u 2 :: Value.pointer (some ⟨q, 0, none⟩) :: Value.bool true :: Value.slice a3 m c3 :: Value.int IntKind.i64 0 :: Value.slice a4 m c4 :: Value.int IntKind.i64 0 :: u 9 :: u 10 :: u 11 :: u 12 :: u 13 :: u 14 :: u 15 :: u 16 :: u 17 :: u 18 :: u 19 :: u 20 :: u 21 :: u 22 :: u 23 :: u 24 :: u 25 :: u 26 :: u 27 :: u 28 :: u 29 :: u 30 :: u 31 :: u 32 :: u 33 :: u 34 :: u 35 :: u 36 :: u 37 :: u 38 :: u 39 :: u 40 :: u 41 :: u 42 :: u 43 :: u 44 :: u 45 :: u 46 :: u 47 :: u 48 :: u 49 :: u 50 :: u 51 :: u 52 :: u 53 :: u 54 :: u 55 :: u 56 :: u 57 :: u 58 :: u 59 :: u 60 :: Value.slice (some ⟨w.heap.size, 0, none⟩) 32 32 :: u 62 :: u 63 :: u 64 :: u 65 :: u 66 :: u 67 :: u 68 :: u 69 :: u 70 :: u 71 :: u 72 :: u 73 :: u 74 :: u 75 :: u 76 :: u 77 :: u 78 :: u 79 :: u 80 :: u 81 :: u 82 :: u 83 :: u 84 :: u 85 :: u 86 :: u 87 :: u 88 :: u 89 :: u 90 :: u 91 :: u 92 :: u 93 :: u 94 :: u 95 :: []).toArray) u, defers := [] } := by
    subst hAct; exact ex_frame _ rfl
   clear hAct
   obtain ⟨St, hSt⟩ : ∃ St : Nat → Bool → Act → World → Prop, ∀ kk fr a' w', St kk fr a' w' ↔ (∃ x59 x62 x9 : Value, a' = { tmps := (u 0 :: Value.pointer (some ⟨w.heap.size, 0, none⟩) :: u 2 :: Value.pointer (some ⟨q, 0, none⟩) :: Value.bool true :: Value.slice a3 m c3 :: Value.int IntKind.i64 0 :: Value.slice a4 m c4 :: Value.int IntKind.i64 0 :: x9 :: u 10 :: u 11 :: u 12 :: u 13 :: u 14 :: u 15 :: u 16 :: u 17 :: u 18 :: u 19 :: u 20 :: u 21 :: u 22 :: u 23 :: u 24 :: u 25 :: u 26 :: u 27 :: u 28 :: u 29 :: u 30 :: u 31 :: u 32 :: u 33 :: u 34 :: u 35 :: u 36 :: u 37 :: u 38 :: u 39 :: u 40 :: u 41 :: u 42 :: u 43 :: u 44 :: u 45 :: u 46 :: u 47 :: u 48 :: u 49 :: u 50 :: u 51 :: u 52 :: u 53 :: u 54 :: u 55 :: u 56 :: u 57 :: u 58 :: x59 :: u 60 :: Value.slice (some ⟨w.heap.size, 0, none⟩) 32 32 :: x62 :: u 63 :: u 64 :: u 65 :: u 66 :: u 67 :: u 68 :: u 69 :: u 70 :: u 71 :: u 72 :: u 73 :: u 74 :: u 75 :: u 76 :: u 77 :: u 78 :: u 79 :: u 80 :: u 81 :: u 82 :: u 83 :: u 84 :: u 85 :: u 86 :: u 87 :: u 88 :: u 89 :: u 90 :: u 91 :: u 92 :: u 93 :: u 94 :: u 95 :: []).toArray, defers := [] } ∧ Below w4.drew.heap.size w4.drew w' ∧ (1 ≤ kk → x59 = .agg (A8 XB)) ∧ (2 ≤ kk → ∃ gy cy hy cz, x62 = .agg (C17 (XB ++ k) (.slice (some ⟨gy, 0, none⟩) 15 cy) (.slice (some ⟨hy, 32, none⟩) 1104 (cz - 32))) ∧ OwnS w' w4.heap.size 37 16 (.slice (some ⟨gy, 0, none⟩) 15 cy) 15 (aesA k) ∧ Own8 w' w4.heap.size 5 (.slice (some ⟨hy, 0, none⟩) 1136 cz) (ownA k)) ∧ (fr = true → ∃ g, x9 = .pointer (some ⟨g, 0, none⟩) ∧ w4.heap.size ≤ g ∧ Blk w' g 51 ZC)) := ⟨_, fun _ _ _ _ => Iff.rfl⟩
   refine permHO_chain (St := St) [_, _] _ 0 ⟨?s1, ?s2, trivial⟩ ?sf ?sch ?snd ?sR _ _ ?s0
   case s0 => exact (hSt _ _ _ _).2 ⟨_, _, _, rfl, Below.refl _ _, fun h => by omega, fun h => by omega, fun h => by cases h⟩
   case sch => exact ⟨by decide, trivial⟩
   case snd => decide
   case s1 =>
    intro fr a3_ ws hs
    obtain ⟨x59, x62, x9, rfl, D3, h1, h2, hf⟩ := (hSt _ _ _ _).1 hs
    clear hs
    refine opH_of_wpH ?_
    (with_reducible refine h_call ?_ ?_)
    ·exact rfl
    go_simp
    refine entersW_of ?_
    refine (refMake_any ws).mono ?_
    rintro e wt ⟨rfl, dt⟩
    refine ⟨_, rfl, dt, ?_⟩
    try simp only [Act.put, zz1, zz2, zz3]
    rw [← HXB.out]
    refine h_nil ((hSt _ _ _ _).2 ⟨_, _, _, rfl, D3.trans (dt.mono D3.size), fun _ => rfl, fun h => by omega, fun e => ?_⟩)
    obtain ⟨g, e1, e2, e3⟩ := hf e
    exact ⟨g, e1, e2, e3.belowAll dt⟩
   case s2 =>
    intro fr a3_ ws hs
    obtain ⟨x59, x62, x9, rfl, D3, h1, h2, hf⟩ := (hSt _ _ _ _).1 hs
    clear hs
    obtain rfl := h1 (by omega)
    refine opH_of_wpH ?_
    have rdk := HH.out.rdk (P4.out.drew.belowAll D3) 32 (Nat.le_refl _)
    rw [List.take_of_length_le (by omega)] at rdk
    (with_reducible refine h_call ?_ ?_)
    ·exact rfl
    go_simp
    refine entersW_of ?_
    refine (NW.out ws rdk).mono ?_
    rintro e wt ⟨gt, ct, ht_, cz, rfl, ot, oz, dt⟩
    refine ⟨_, rfl, dt, ?_⟩
    try simp only [Act.put, zz1, zz2, zz3]
    refine h_nil ((hSt _ _ _ _).2 ⟨_, _, _, rfl, D3.trans (dt.mono D3.size), fun _ => rfl, fun _ => ⟨_, _, _, _, rfl, ot.base D3.size, oz.base D3.size⟩, fun e => ?_⟩)
    obtain ⟨g, e1, e2, e3⟩ := hf e
    exact ⟨g, e1, e2, e3.belowAll dt⟩
   case sf =>
    intro j hj a3_ ws hs
    obtain ⟨x59, x62, x9, rfl, D3, h1, h2, hf⟩ := (hSt _ _ _ _).1 hs
    clear hs
    refine opH_of_wpH ?_
    obtain ⟨u3, eu3⟩ : ∃ u, ws.alloc (.cells (C17 (zeros 8 544) (.slice none 0 0) (.slice none 0 0)) 51) = u := ⟨_, rfl⟩
    obtain ⟨bf, du, zu⟩ := new1 _ _ _ _ eu3
    obtain ⟨pf, hpf⟩ : ∃ g, g = ws.heap.size := ⟨_, rfl⟩
    refine h_made (v := .pointer (some ⟨pf, 0, none⟩)) (w' := u3) rfl (by rw [hpf]; go_simp; exact eu3) du ?_
    simp only [Act.put, zz1, zz2, zz3]
    rw [← hpf, ← HZC.out] at bf
    refine h_nil ((hSt _ _ _ _).2 ⟨_, _, _, rfl, D3.trans (du.mono D3.size), h1, fun h => ?_, fun _ => ⟨pf, rfl, by rw [hpf]; exact D3.size, bf⟩⟩)
    obtain ⟨g, c2, g2, c3_, e1, e2, e3⟩ := h2 h
    exact ⟨g, c2, g2, c3_, e1, e2.below du, e3.below du⟩
   case sR =>
    intro a3_ ws hs
    obtain ⟨x59, x62, x9, rfl, D3, h1, h2, hf⟩ := (hSt _ _ _ _).1 hs
    clear hs hSt
    obtain rfl := h1 (by decide)
    obtain ⟨gy, cy, hy, cz, hx62, oy, oz⟩ := h2 (by decide)
    subst hx62
    have hff := hf rfl
    clear hf
    obtain ⟨g9, hx9, hg, bg⟩ := hff
    subst hx9
    refine c_act ?_
    refine z_storeRow bg rfl rfl (by rw [hZCs, C17_size hXK]) (C17_ones _ _ _ _ _ _ _) (by rw [C17_size hXK]; exact Tryz.sizeOf51 _) (fun w5 k5 g5 s5 => ?_)
    have BD := D3.trans (grown_below g5 hg D3.size)
    refine z_nil ⟨hCe _ BD, ?_⟩
    refine c_nil (hK' _ _ ?_)
    have E4 : Below w4.heap.size w4 w5 := ((Below.refl w4.heap.size w4).drew).trans BD
    have hne : gy ≠ g9 := by
     intro e
     subst e
     rcases oy.2 with ⟨e, _⟩ | ⟨g, cap, cur, e, _, hh, _⟩
     ·cases e
     ·cases e; have := Option.some.inj (hh.symm.trans bg); injection this with _ h2 _; exact absurd h2 (by decide)
    have hnz : hy ≠ g9 := by
     intro e
     subst e
     rcases oz.2 with ⟨e, _⟩ | ⟨g, cap, cur, e, _, hh, _⟩
     ·cases e
     ·cases e; have := Option.some.inj (hh.symm.trans bg); injection this with _ h2 _; exact absurd h2 (by decide)
    have R5 := hid (OwnS.keptG oy g5 hne).rdAt
    have oz5 := Own8.kept oz g5 (.inr (by simp [Value.ownBlock]; exact hnz))
    have hcz := oz5.rdAt.2.1
    have Z5 := hid (show Rd8 w5 (some ⟨hy, 32, none⟩) 1104 (cz - 32) (hashA k) from by
     have h := oz5.rdAt.cut (j := 32) (k := 1136) (by omega) (Nat.le_refl _)
     simp only [Option.map_some, Addr.add_lit, Nat.zero_add] at h
     rw [if_neg (by omega), List.take_of_length_le (by have := oz5.rdAt.1; omega)] at h
     exact h)
    have P5 := hid (P4.out.belowAll E4)
    have B5 := hid (B4.out.trans (E4.mono B4.out.size))
    have T5 := hid (T4.out.below E4)
    have X5 := hid (X4.out.below E4)
    have M5 := hid (M4.out.below E4)
    have A5 := hid (A4.out.below E4)
    have QQ5 := hid (Q4.out.below E4)
    have J5 := hid k5
    clear hK' hC0 hCb hCe BD D3 h1 h2 bg g5 s5 k5 E4 oy oz oz5 hcz hne hnz P4 B4 T4 X4 M4 A4 Q4
    obtain ⟨CC, hCC⟩ : ∃ z, z = C17 (XB ++ k) (.slice (some ⟨gy, 0, none⟩) 15 cy) (.slice (some ⟨hy, 32, none⟩) 1104 (cz - 32)) := ⟨_, rfl⟩
    have hCs : CC.size = 546 := by rw [hCC]; exact C17_size hXK _ _
    have hCx : CC.extract 0 546 = CC := by rw [← hCs]; simp
    have JJ := J5.out
    rw [← hCC] at JJ
    have J6 := hid JJ
    have HCC := hid hCC
    clear JJ hCC J5
    have en := fun (w1 : World) (hR : RdS w1 16 (some ⟨gy, 0, none⟩) 15 cy (aesA k)) (hZ : Rd8 w1 (some ⟨hy, 32, none⟩) 1104 (cz - 32) (hashA k)) (hT : Rd8 w1 a n c t) (hM : Rd8 w1 b m d x) => refEnc17_any XB boxT backT k t x gy cy hy (cz - 32) a b n c m d w1 hBX hXl hkl hR hZ hT hM (by omega) (by omega) (by omega)
    have de := fun (w1 : World) (hR : RdS w1 16 (some ⟨gy, 0, none⟩) 15 cy (aesA k)) (hZ : Rd8 w1 (some ⟨hy, 32, none⟩) 1104 (cz - 32) (hashA k)) (hT : Rd8 w1 a n c t) (hM : Rd8 w1 b m d x) => refDec17_any XB boxT backT k t x gy cy hy (cz - 32) a b n c m d w1 hBX hXl hkl hR hZ hT hM (by omega) (by omega) (by omega)
    rw [← HCC.out, ← HA.out] at en
    rw [← HCC.out, ← HQ.out] at de
    have EN := hid en
    have DE := hid de
    clear en de
    go_upto_region 11 with fail
    refine wp_region_tail [0,5,5,0,5,0,5,2,1,0,0,0,5,5,0,5,0,5,2,1,0,0,0,0,0,0,0,0,0,0,0,2,0,0] (by kernel_rfl) (by kernel_rfl) (fun C0 hC0 hCb K' hK' => ?_)
    have Q1 : ∀ w1, C0 w1 → rowAt w1 g9 = CC := fun w1 hw => (J6.out.drew.belowAll (hCb w1 hw)).row
    have Q2 : ∀ w1, C0 w1 → w1.cell? ⟨w.heap.size, 32, none⟩ = some (.slice a n c) := fun w1 hw => by rw [(P5.out.drew.belowAll (hCb w1 hw)).cell]; exact TW.out
    have Q3 : ∀ w1, C0 w1 → w1.cell? ⟨w.heap.size, 33, none⟩ = some (.slice b m d) := fun w1 hw => by rw [(P5.out.drew.belowAll (hCb w1 hw)).cell]; exact MS.out
    have Q4 : ∀ w1, C0 w1 → (convert 23 9 (.slice a3 m c3)).run Tryz.prog w1 = .ok (.string (str A)) w1 := fun w1 hw => run_str (P := Tryz.prog) w1 23 9 5 a3 m c3 A Tryz.underlying23 Tryz.underlying9 Tryz.underlying5 (A5.out.drew.below (hCb w1 hw))
    have Q5 : ∀ w1, C0 w1 → (convert 23 9 (.slice a4 m c4)).run Tryz.prog w1 = .ok (.string (str Q)) w1 := fun w1 hw => run_str (P := Tryz.prog) w1 23 9 5 a4 m c4 Q Tryz.underlying23 Tryz.underlying9 Tryz.underlying5 (QQ5.out.drew.below (hCb w1 hw))
    repeat
     (first
      | (with_reducible refine h_pure (v := ?_) (a' := ?_) ?_ (fun _ => ?_) ?_ ?_); rotate_left 2; (focus (exact rfl)); (focus (go_simp; (try go_bits); exact rfl))
      | (with_reducible refine h_obl (v := ?_) (a' := ?_) ?_ (fun _ hcw => ?_) ?_ ?_); rotate_left 2; (focus (exact rfl)); (focus (have f1 := Q1 _ hcw; have f2 := Q2 _ hcw; have f3 := Q3 _ hcw; have f4 := Q4 _ hcw; have f5 := Q5 _ hcw; go_simp; (try go_bits); exact rfl))
      | (with_reducible refine h_read (v := ?_) (a' := ?_) ?_ (fun _ hbw => ?_) ?_ ?_); rotate_left 2; (focus (exact rfl)); (focus (go_simp; (try go_bits); exact rfl)))
     focus (simp only [Act.put, zz1, zz2, zz3, Act.eval, zz4, zz5, zz6, zz7, zz8]; exact rfl)
    (with_reducible refine h_call ?_ ?_)
    ·exact rfl
    go_simp
    refine entersW_of ?_
    refine (EN.out w5.drew R5.out Z5.out X5.out.drew M5.out.drew).mono ?_
    rintro e w6 ⟨v6, rfl, o6, d6⟩
    refine ⟨_, rfl, d6, ?_⟩
    try simp only [Act.put, zz1, zz2, zz3]
    obtain ⟨a6, c6, rfl, r6, _⟩ := o6.rd
    rw [hAl] at r6 ⊢
    have S6 : ∀ w1, Below w6.heap.size w6 w1 → (convert 23 9 (.slice a6 m c6)).run Tryz.prog w1 = .ok (.string (str A)) w1 := fun w1 hw => run_str (P := Tryz.prog) w1 23 9 5 a6 m c6 A Tryz.underlying23 Tryz.underlying9 Tryz.underlying5 (r6.below hw)
    repeat
     (first
      | (with_reducible refine h_pure (v := ?_) (a' := ?_) ?_ (fun _ => ?_) ?_ ?_); rotate_left 2; (focus (exact rfl)); (focus (go_simp; (try go_bits); exact rfl))
      | (with_reducible refine h_obl (v := ?_) (a' := ?_) ?_ (fun _ hcw => ?_) ?_ ?_); rotate_left 2; (focus (exact rfl)); (focus (have f1 := Q1 _ hcw; have f2 := Q2 _ hcw; have f3 := Q3 _ hcw; have f4 := Q4 _ hcw; have f5 := Q5 _ hcw; go_simp; (try go_bits); exact rfl))
      | (with_reducible refine h_read (v := ?_) (a' := ?_) ?_ (fun _ hbw => ?_) ?_ ?_); rotate_left 2; (focus (exact rfl)); (focus (have g1 := S6 _ hbw; go_simp; (try go_bits); exact rfl)))
     focus (simp only [Act.put, zz1, zz2, zz3, Act.eval, zz4, zz5, zz6, zz7, zz8]; exact rfl)
    (with_reducible refine h_call ?_ ?_)
    ·exact rfl
    go_simp
    refine entersW_of ?_
    refine (DE.out w6 (R5.out.drew.below d6) (Z5.out.drew.below d6) (X5.out.drew.below d6) (M5.out.drew.below d6)).mono ?_
    rintro e w7 ⟨v7, rfl, o7, d7⟩
    refine ⟨_, rfl, d7, ?_⟩
    try simp only [Act.put, zz1, zz2, zz3]
    obtain ⟨a7, c7, rfl, r7, _⟩ := o7.rd
    rw [hPl] at r7 ⊢
    have S7 : ∀ w1, Below w7.heap.size w7 w1 → (convert 23 9 (.slice a7 m c7)).run Tryz.prog w1 = .ok (.string (str Q)) w1 := fun w1 hw => run_str (P := Tryz.prog) w1 23 9 5 a7 m c7 Q Tryz.underlying23 Tryz.underlying9 Tryz.underlying5 (r7.below hw)
    repeat
     (first
      | (with_reducible refine h_pure (v := ?_) (a' := ?_) ?_ (fun _ => ?_) ?_ ?_); rotate_left 2; (focus (exact rfl)); (focus (go_simp; (try go_bits); exact rfl))
      | (with_reducible refine h_obl (v := ?_) (a' := ?_) ?_ (fun _ hcw => ?_) ?_ ?_); rotate_left 2; (focus (exact rfl)); (focus (go_simp; (try go_bits); exact rfl))
      | (with_reducible refine h_read (v := ?_) (a' := ?_) ?_ (fun _ hbw => ?_) ?_ ?_); rotate_left 2; (focus (exact rfl)); (focus (have g1 := S7 _ hbw; go_simp; (try go_bits); exact rfl)))
     focus (simp only [Act.put, zz1, zz2, zz3, Act.eval, zz4, zz5, zz6, zz7, zz8]; exact rfl)
    have D7 := d6.trans (d7.mono d6.size)
    have B7 := B5.out.drew.trans (D7.mono B5.out.drew.size)
    (with_reducible refine h_call ?_ ?_)
    ·exact rfl
    go_simp
    refine entersW_of ?_
    refine (awake17_any w7 (T5.out.below (((Below.refl w5.heap.size w5).drew).trans D7))).mono ?_
    rintro e w8 ⟨rfl, d8⟩
    refine ⟨_, rfl, d8, ?_⟩
    try simp only [Act.put, zz1, zz2, zz3]
    repeat
     (first
      | (with_reducible refine h_pure (v := ?_) (a' := ?_) ?_ (fun _ => ?_) ?_ ?_); rotate_left 2; (focus (exact rfl)); (focus (go_simp; (try go_bits); exact rfl))
      | (with_reducible refine h_obl (v := ?_) (a' := ?_) ?_ (fun _ hcw => ?_) ?_ ?_); rotate_left 2; (focus (exact rfl)); (focus (go_simp; (try go_bits); exact rfl))
      | (with_reducible refine h_read (v := ?_) (a' := ?_) ?_ (fun _ hbw => ?_) ?_ ?_); rotate_left 2; (focus (exact rfl)); (focus (go_simp; (try go_bits); exact rfl)))
     focus (simp only [Act.put, zz1, zz2, zz3, Act.eval, zz4, zz5, zz6, zz7, zz8]; exact rfl)
    refine h_tail [] rfl (by simp) (z_nil (hK' _ _ ?_))
    have B8 := hid (B7.trans (d8.mono B7.size))
    clear Q1 Q2 Q3 Q4 Q5 S6 S7 hC0 hCb hK' d6 d7 d8 D7 B7 o6 r6 o7 r7
    go_wp2
    go_ret
    exact ⟨rfl, B8.out⟩
 ·rw [decide_eq_false hs] at sh
  have SH := hid sh
  clear sh hs
  go_enter Tryz.func4, Tryz.ntmps4
  go_wp2_with fail
  refine SH.out.mono ?_
  rintro e w1 ⟨rfl, d1⟩
  go_wp2
  go_ret
  exact ⟨rfl, B0.out.trans (d1.mono B0.out.size)⟩
end Go.Proofs.YtfdkmjegcghieaaGreatDoor
