/- AdiantumBack: the walk -/
import Derived.Test.YtfdkmjegcghieaaDoorHl
import Derived.Test.YtfdkmjegcghieaaDoorEq
import Derived.Test.YtfdkmjegcghieaaDoorGs
namespace Go.Proofs.YtfdkmjegcghieaaDoor
open Go.RowKit
set_option linter.unusedSimpArgs false in
set_option maxRecDepth 100000 in
set_option maxHeartbeats 1600000 in
theorem AdiantumBack_walk (T : Array Value) (k : List (BitVec 8)) (a : Option Addr) (n c : Nat) (t : List (BitVec 8)) (b : Option Addr) (m d : Nat) (x : List (BitVec 8)) (w : World) (h : AText T k a n c b m d) (ht : Rd8 w a n c t) (hx : Rd8 w b m d x) (hT : Turning w) :
    Calls Tryd.prog 12 #[.agg T] w fun e w' => e = .returned (.bool true) ∧ Below w.heap.size w w' := by
  obtain ⟨W, hW⟩ : ∃ W, (w.alloc (.cells T 53)) = W := ⟨_, rfl⟩
  obtain ⟨b0, hb, hz⟩ := new1 _ _ _ _ hW
  have r0 := b0.row
  have P0 := Lib.hid b0
  have B0 := Lib.hid hb
  have T0 := Lib.hid (hT.below hb)
  have X0 := Lib.hid (ht.below hb)
  have M0 := Lib.hid (hx.below hb)
  have s0 := h.size
  have x0 : T.extract 0 34 = T := by rw [← s0]; simp
  have HH := Lib.hid h
  have TW := Lib.hid h.tweak
  have MS := Lib.hid h.msg
  have hxl := hx.1
  have sh := short17_any W h
  clear hb hz hT ht hx h b0
  by_cases hs : n ≤ 100 ∧ m ≤ 300
  · rw [decide_eq_true hs] at sh
    have SH := Lib.hid sh
    obtain ⟨hn, hm⟩ := hs
    clear sh
    go_enter Tryd.func12, Tryd.ntmps12
    go_wp2_with fail
    refine SH.out.mono ?_
    rintro e w1 ⟨rfl, d1⟩
    have P1 := Lib.hid (P0.out.belowAll d1)
    have B1 := Lib.hid (B0.out.trans (d1.mono B0.out.size))
    have T1 := Lib.hid (T0.out.below d1)
    have X1 := Lib.hid (X0.out.below d1)
    have M1 := Lib.hid (M0.out.below d1)
    have c2 := P1.out.cell 33
    rw [MS.out] at c2
    have r1 := P1.out.row
    clear d1 r0 hW SH P0 B0 T0 X0 M0
    by_cases hm16 : m < 16
    · have f1 : (m : Int) < 16 := by omega
      go_wp2
      go_ret
      exact ⟨rfl, B1.out⟩
    · have f1 : ¬ (m : Int) < 16 := by omega
      go_wp2_with fail
      refine (cipher17_any w1 HH.out T1.out).mono ?_
      rintro e w2 ⟨q, p, rfl, hk2, d2⟩
      have hkl := HH.out.lk
      have K2 := Lib.hid hk2
      have P2 := Lib.hid (P1.out.belowAll d2)
      have B2 := Lib.hid (B1.out.trans (d2.mono B1.out.size))
      have T2 := Lib.hid (T1.out.below d2)
      have X2 := Lib.hid (X1.out.below d2)
      have M2 := Lib.hid (M1.out.below d2)
      clear hk2 c2 r1 d2 P1 B1 T1 X1 M1 HH
      have c1 := P2.out.cell 32
      rw [TW.out] at c1
      have c2 := P2.out.cell 33
      rw [MS.out] at c2
      have hx16 : 16 ≤ x.length := by omega
      have bk1 := dec_encA k t x hx16
      have bk2 := enc_decA k t x hx16
      have hAl : (encA k t x).length = m := by rw [encA_length _ _ _ hx16, hxl]
      have hPl : (decA k t x).length = m := by rw [decA_length _ _ _ hx16, hxl]
      obtain ⟨A, hA⟩ : ∃ A, A = encA k t x := ⟨_, rfl⟩
      obtain ⟨Q, hQ⟩ : ∃ Q, Q = decA k t x := ⟨_, rfl⟩
      rw [← hA] at bk1 hAl
      rw [← hQ] at bk2 hPl
      have BK1 := Lib.hid bk1
      have BK2 := Lib.hid bk2
      have HA := Lib.hid hA
      have HQ := Lib.hid hQ
      clear hA hQ bk1 bk2
      go_wp2_with fail
      refine (aenc_any q p k t x a b n c m d w2 K2.out hkl X2.out M2.out (by omega) (by omega)).mono ?_
      rintro e w3 ⟨v3, rfl, o3, d3⟩
      rw [← HA.out] at o3
      obtain ⟨a3, c3, rfl, hr3, _⟩ := o3.rd
      rw [hAl] at hr3 ⊢
      have K3 := Lib.hid (K2.out.below d3)
      have P3 := Lib.hid (P2.out.belowAll d3)
      have B3 := Lib.hid (B2.out.trans (d3.mono B2.out.size))
      have T3 := Lib.hid (T2.out.below d3)
      have X3 := Lib.hid (X2.out.below d3)
      have M3 := Lib.hid (M2.out.below d3)
      have A3 := Lib.hid hr3
      clear o3 hr3 d3 c1 c2 K2 P2 B2 T2 X2 M2
      have c1 := P3.out.cell 32
      rw [TW.out] at c1
      have c2 := P3.out.cell 33
      rw [MS.out] at c2
      go_wp2_with fail
      refine (adec_any q p k t A a a3 n c m c3 w3 K3.out hkl X3.out A3.out (by omega) (by omega)).mono ?_
      rintro e w4 ⟨v4, rfl, o4, d4⟩
      rw [BK1.out] at o4
      obtain ⟨a4, c4, rfl, hr4, _⟩ := o4.rd
      rw [hxl] at hr4 ⊢
      have K4 := Lib.hid (K3.out.below d4)
      have P4 := Lib.hid (P3.out.belowAll d4)
      have B4 := Lib.hid (B3.out.trans (d4.mono B3.out.size))
      have T4 := Lib.hid (T3.out.below d4)
      have X4 := Lib.hid (X3.out.below d4)
      have M4 := Lib.hid (M3.out.below d4)
      have A4 := Lib.hid hr4
      clear o4 hr4 d4 c1 c2 K3 P3 B3 T3 X3 M3 A3
      have c1 := P4.out.cell 32
      rw [TW.out] at c1
      have c2 := P4.out.cell 33
      rw [MS.out] at c2
      go_wp2_with fail
      refine (adec_any q p k t x a b n c m d w4 K4.out hkl X4.out M4.out (by omega) (by omega)).mono ?_
      rintro e w5 ⟨v5, rfl, o5, d5⟩
      rw [← HQ.out] at o5
      obtain ⟨a5, c5, rfl, hr5, _⟩ := o5.rd
      rw [hPl] at hr5 ⊢
      have K5 := Lib.hid (K4.out.below d5)
      have P5 := Lib.hid (P4.out.belowAll d5)
      have B5 := Lib.hid (B4.out.trans (d5.mono B4.out.size))
      have T5 := Lib.hid (T4.out.below d5)
      have X5 := Lib.hid (X4.out.below d5)
      have M5 := Lib.hid (M4.out.below d5)
      have A5 := Lib.hid (A4.out.below d5)
      have Q5 := Lib.hid hr5
      clear o5 hr5 d5 c1 c2 K4 P4 B4 T4 X4 M4 A4
      have c1 := P5.out.cell 32
      rw [TW.out] at c1
      have c2 := P5.out.cell 33
      rw [MS.out] at c2
      go_wp2_with fail
      refine (aenc_any q p k t Q a a5 n c m c5 w5 K5.out hkl X5.out Q5.out (by omega) (by omega)).mono ?_
      rintro e w6 ⟨v6, rfl, o6, d6⟩
      rw [BK2.out] at o6
      obtain ⟨a6, c6, rfl, hr6, _⟩ := o6.rd
      rw [hxl] at hr6 ⊢
      have P6 := Lib.hid (P5.out.belowAll d6)
      have B6 := Lib.hid (B5.out.trans (d6.mono B5.out.size))
      have T6 := Lib.hid (T5.out.below d6)
      have s1 := run_str (P := Tryd.prog) w6 23 9 5 a4 m c4 x Tryd.underlying23 Tryd.underlying9 Tryd.underlying5 (A5.out.below d6)
      have s2 := run_str (P := Tryd.prog) w6 23 9 5 b m d x Tryd.underlying23 Tryd.underlying9 Tryd.underlying5 (M5.out.below d6)
      have s3 := run_str (P := Tryd.prog) w6 23 9 5 a6 m c6 x Tryd.underlying23 Tryd.underlying9 Tryd.underlying5 hr6
      clear o6 hr6 d6 c1 c2 K5 P5 B5 T5 X5 M5 A5 Q5
      have c1 := P6.out.cell 32
      rw [TW.out] at c1
      have c2 := P6.out.cell 33
      rw [MS.out] at c2
      go_wp2_with fail
      refine (awake17_any w6 T6.out).mono ?_
      rintro e w7 ⟨rfl, d7⟩
      go_wp2
      go_ret
      exact ⟨rfl, B6.out.trans (d7.mono B6.out.size)⟩
  · rw [decide_eq_false hs] at sh
    have SH := Lib.hid sh
    clear sh hs
    go_enter Tryd.func12, Tryd.ntmps12
    go_wp2_with fail
    refine SH.out.mono ?_
    rintro e w1 ⟨rfl, d1⟩
    go_wp2
    go_ret
    exact ⟨rfl, B0.out.trans (d1.mono B0.out.size)⟩
end Go.Proofs.YtfdkmjegcghieaaDoor
