/- AdiantumApart: the walk -/
import Derived.Test.YtfdkmjegcghieaaDoorHl
import Derived.Test.YtfdkmjegcghieaaDoorEq
import Derived.Test.YtfdkmjegcghieaaDoorGs
namespace Go.Proofs.YtfdkmjegcghieaaDoor
open Go.RowKit
set_option linter.unusedSimpArgs false in
set_option maxRecDepth 100000 in
set_option maxHeartbeats 1600000 in
theorem AdiantumApart_walk (T : Array Value) (k : List (BitVec 8)) (a : Option Addr) (n c : Nat) (t : List (BitVec 8)) (b : Option Addr) (m d : Nat) (x : List (BitVec 8)) (ya : Option Addr) (yn yc : Nat) (y : List (BitVec 8)) (w : World) (h : AText T k a n c b m d) (ht : Rd8 w a n c t) (hx : Rd8 w b m d x) (hy : Rd8 w ya yn yc y) (hT : Turning w) :
    Calls Tryd.prog 8 #[.agg T, .slice ya yn yc] w fun e w' => e = .returned (.bool true) ∧ Below w.heap.size w w' := by
  obtain ⟨W, hW⟩ : ∃ W, (w.alloc (.cells T 53)) = W := ⟨_, rfl⟩
  obtain ⟨b0, hb, hz⟩ := new1 _ _ _ _ hW
  have r0 := b0.row
  have P0 := Lib.hid b0
  have B0 := Lib.hid hb
  have T0 := Lib.hid (hT.below hb)
  have X0 := Lib.hid (ht.below hb)
  have M0 := Lib.hid (hx.below hb)
  have Y0 := Lib.hid (hy.below hb)
  have hyl := hy.1
  have s0 := h.size
  have x0 : T.extract 0 34 = T := by rw [← s0]; simp
  have HH := Lib.hid h
  have TW := Lib.hid h.tweak
  have MS := Lib.hid h.msg
  have hxl := hx.1
  have sh := short17_any W h
  clear hb hz hT ht hx h b0 hy
  by_cases hs : n ≤ 100 ∧ m ≤ 300
  · rw [decide_eq_true hs] at sh
    have SH := Lib.hid sh
    obtain ⟨hn, hm⟩ := hs
    clear sh
    go_enter Tryd.func8, Tryd.ntmps8
    go_wp2_with fail
    refine SH.out.mono ?_
    rintro e w1 ⟨rfl, d1⟩
    have P1 := Lib.hid (P0.out.belowAll d1)
    have B1 := Lib.hid (B0.out.trans (d1.mono B0.out.size))
    have T1 := Lib.hid (T0.out.below d1)
    have X1 := Lib.hid (X0.out.below d1)
    have M1 := Lib.hid (M0.out.below d1)
    have Y1 := Lib.hid (Y0.out.below d1)
    have c2 := P1.out.cell 33
    rw [MS.out] at c2
    have r1 := P1.out.row
    clear d1 r0 hW SH P0 B0 T0 X0 M0 Y0
    by_cases hm16 : m < 16
    · have f1 : (m : Int) < 16 := by omega
      go_wp2
      go_ret
      exact ⟨rfl, B1.out⟩
    · have f1 : ¬ (m : Int) < 16 := by omega
      by_cases hyn : yn = m
      · obtain rfl : m = yn := hyn.symm
        go_wp2_with fail
        refine (cipher17_any w1 HH.out T1.out).mono ?_
        rintro e w2 ⟨q, p, rfl, hk2, d2⟩
        have hkl := HH.out.lk
        have K2 := Lib.hid hk2
        have P2 := Lib.hid (P1.out.belowAll d2)
        have B2 := Lib.hid (B1.out.trans (d2.mono B1.out.size))
        have T2 := Lib.hid (T1.out.below d2)
        have X2 := Lib.hid (X1.out.below d2)
        have M2 := Lib.hid (M1.out.below d2)
        have Y2 := Lib.hid (Y1.out.below d2)
        clear hk2 c2 r1 d2 P1 B1 T1 X1 M1 Y1 HH
        have c1 := P2.out.cell 32
        rw [TW.out] at c1
        have c2 := P2.out.cell 33
        rw [MS.out] at c2
        have hx16 : 16 ≤ x.length := by omega
        have hy16 : 16 ≤ y.length := by omega
        have inj : encA k t x = encA k t y ↔ x = y := ⟨fun e => by rw [← dec_encA k t x hx16, e, dec_encA k t y hy16], fun e => by rw [e]⟩
        have hAl : (encA k t x).length = m := by rw [encA_length _ _ _ hx16, hxl]
        have hQl : (encA k t y).length = m := by rw [encA_length _ _ _ hy16, hyl]
        obtain ⟨A, hA⟩ : ∃ A, A = encA k t x := ⟨_, rfl⟩
        obtain ⟨Q, hQ⟩ : ∃ Q, Q = encA k t y := ⟨_, rfl⟩
        rw [← hA, ← hQ] at inj
        rw [← hA] at hAl
        rw [← hQ] at hQl
        obtain ⟨D, hD⟩ : ∃ D, D = (x == y) := ⟨_, rfl⟩
        have e1 : ((str x).toList == (str y).toList) = D := by rw [str_beq, hD]
        have e2 : ((str A).toList == (str Q).toList) = D := by
          rw [str_beq, hD, Bool.eq_iff_iff, beq_iff_eq, beq_iff_eq]
          exact inj
        have HA := Lib.hid hA
        have HQ := Lib.hid hQ
        have E1 := Lib.hid e1
        have E2 := Lib.hid e2
        clear hA hQ inj hD e1 e2
        go_wp2_with fail
        refine (aenc_any q p k t x a b n c m d w2 K2.out hkl X2.out M2.out (by omega) (by omega)).mono ?_
        rintro e w3 ⟨v3, rfl, o3, d3⟩
        rw [← HA.out] at o3
        obtain ⟨a3, c3, rfl, hr3, _⟩ := o3.rd
        rw [hAl] at hr3 ⊢
        have K3 := Lib.hid (K2.out.below d3)
        have P3 := Lib.hid (P2.out.belowAll d3)
        have B3 := Lib.hid (B2.out.trans (d3.mono B2.out.size))
        have T3 := Lib.hid (T2.out.below d3)
        have X3 := Lib.hid (X2.out.below d3)
        have M3 := Lib.hid (M2.out.below d3)
        have Y3 := Lib.hid (Y2.out.below d3)
        have A3 := Lib.hid hr3
        clear o3 hr3 d3 c1 c2 K2 P2 B2 T2 X2 M2 Y2
        have c1 := P3.out.cell 32
        rw [TW.out] at c1
        have c2 := P3.out.cell 33
        rw [MS.out] at c2
        go_wp2_with fail
        refine (aenc_any q p k t y a ya n c m yc w3 K3.out hkl X3.out Y3.out (by omega) (by omega)).mono ?_
        rintro e w4 ⟨v4, rfl, o4, d4⟩
        rw [← HQ.out] at o4
        obtain ⟨a4, c4, rfl, hr4, _⟩ := o4.rd
        rw [hQl] at hr4 ⊢
        have P4 := Lib.hid (P3.out.belowAll d4)
        have B4 := Lib.hid (B3.out.trans (d4.mono B3.out.size))
        have T4 := Lib.hid (T3.out.below d4)
        have s1 := run_str (P := Tryd.prog) w4 23 9 5 a3 m c3 A Tryd.underlying23 Tryd.underlying9 Tryd.underlying5 (A3.out.below d4)
        have s2 := run_str (P := Tryd.prog) w4 23 9 5 a4 m c4 Q Tryd.underlying23 Tryd.underlying9 Tryd.underlying5 hr4
        have s3 := run_str (P := Tryd.prog) w4 23 9 5 b m d x Tryd.underlying23 Tryd.underlying9 Tryd.underlying5 (M3.out.below d4)
        have s4 := run_str (P := Tryd.prog) w4 23 9 5 ya m yc y Tryd.underlying23 Tryd.underlying9 Tryd.underlying5 (Y3.out.below d4)
        clear o4 hr4 d4 c1 c2 K3 P3 B3 T3 X3 M3 A3 Y3
        have c1 := P4.out.cell 32
        rw [TW.out] at c1
        have c2 := P4.out.cell 33
        rw [MS.out] at c2
        have e1 := E1.out
        have e2 := E2.out
        go_wp2_with fail
        refine (awake17_any w4 T4.out).mono ?_
        rintro e w7 ⟨rfl, d7⟩
        go_wp2
        go_ret
        exact ⟨rfl, B4.out.trans (d7.mono B4.out.size)⟩
      · have f2 : ((yn : Int) == (m : Int)) = false := by simp; omega
        have f3 : ((yn : Int) != (m : Int)) = true := by simp; omega
        go_wp2
        go_ret
        exact ⟨rfl, B1.out⟩
  · rw [decide_eq_false hs] at sh
    have SH := Lib.hid sh
    clear sh hs
    go_enter Tryd.func8, Tryd.ntmps8
    go_wp2_with fail
    refine SH.out.mono ?_
    rintro e w1 ⟨rfl, d1⟩
    go_wp2
    go_ret
    exact ⟨rfl, B0.out.trans (d1.mono B0.out.size)⟩
end Go.Proofs.YtfdkmjegcghieaaDoor
