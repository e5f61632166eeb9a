/- HctrKeys: the walk -/
import Derived.Test.YtfdkmjegcghieaaDoorGl
namespace Go.Proofs.YtfdkmjegcghieaaDoor
open Go.RowKit
set_option maxRecDepth 100000 in
theorem right18_any (n : Nat) (w : World) :
    Calls Tryd.prog 27 #[.int .i64 n] w fun e w' => e = .returned (.bool (decide (n = 16 ∨ n = 24 ∨ n = 32))) ∧ w = w' := by
  by_cases h1 : n = 16
  · subst h1
    go_enter Tryd.func27, Tryd.ntmps27
    go_wp2
    go_ret
    exact ⟨rfl, rfl⟩
  by_cases h2 : n = 24
  · subst h2
    go_enter Tryd.func27, Tryd.ntmps27
    go_wp2
    go_ret
    exact ⟨rfl, rfl⟩
  by_cases h3 : n = 32
  · subst h3
    go_enter Tryd.func27, Tryd.ntmps27
    go_wp2
    go_ret
    exact ⟨rfl, rfl⟩
  have e : decide (n = 16 ∨ n = 24 ∨ n = 32) = false := by simp [h1, h2, h3]
  rw [e]
  have i1 : ((n : Int) == 16) = false := by simp; omega
  have i2 : ((n : Int) == 24) = false := by simp; omega
  have i3 : ((n : Int) == 32) = false := by simp; omega
  clear e
  go_enter Tryd.func27, Tryd.ntmps27
  go_wp2
  go_ret
  exact ⟨rfl, rfl⟩
set_option linter.unusedSimpArgs false in
set_option maxRecDepth 100000 in
set_option maxHeartbeats 1600000 in
theorem HctrKeys_walk (a : Option Addr) (n c : Nat) (l : List (BitVec 8)) (b : Option Addr) (m d : Nat) (x : List (BitVec 8)) (w : World) (hl : Rd8 w a n c l) (_hx : Rd8 w b m d x) (hT : Turning w) :
    Calls Tryd.prog 6 #[.slice a n c, .slice b m d] w fun e w' => e = .returned (.bool true) ∧ Below w.heap.size w w' := by
  have L0 := Lib.hid hl
  have T0 := Lib.hid hT
  clear hl _hx hT
  by_cases hn : n ≤ 100
  · have n1 : ¬ (100 : Int) < (n : Int) := by omega
    by_cases hm : m ≤ 100
    · have m1 : ¬ (100 : Int) < (m : Int) := by omega
      go_enter Tryd.func6, Tryd.ntmps6
      go_wp2_with fail
      refine (tables18_any w T0.out).mono ?_
      rintro e w1 ⟨p, rfl, t1, d1⟩
      have P1 := Lib.hid t1
      have D1 := Lib.hid d1
      have T1 := Lib.hid (T0.out.below d1)
      have L1 := Lib.hid (L0.out.below d1)
      clear t1 d1
      by_cases hk : n = 16 ∨ n = 24 ∨ n = 32
      · have rg := fun w => right18_any n w
        simp only [decide_eq_true hk] at rg
        have RG := Lib.hid rg
        clear rg
        go_wp2_with fail
        refine (hnew_any p l a n c w1 P1.out L1.out hk).mono ?_
        rintro e w2 ⟨q, k, rfl, hc, d2⟩
        have D2 := Lib.hid (D1.out.trans (d2.mono D1.out.size))
        have T2 := Lib.hid (T1.out.below d2)
        clear hc d2
        go_wp2_with fail
        refine (hnew_nil (.slice a n c) w2).mono ?_
        rintro e w3 ⟨rfl, d3⟩
        have D3 := Lib.hid (D2.out.trans (d3.mono D2.out.size))
        have T3 := Lib.hid (T2.out.below d3)
        clear d3
        go_wp2_with fail
        refine (RG.out w3).mono ?_
        rintro e w4 ⟨rfl, rfl⟩
        go_wp2_with fail
        refine (awake18_any w3 T3.out).mono ?_
        rintro e w5 ⟨rfl, d5⟩
        go_wp2
        go_ret
        exact ⟨rfl, D3.out.trans (d5.mono D3.out.size)⟩
      · have rg := fun w => right18_any n w
        simp only [decide_eq_false hk] at rg
        have RG := Lib.hid rg
        clear rg
        go_wp2_with fail
        refine (hnew_no p a n c w1 hk).mono ?_
        rintro e w2 ⟨rfl, d2⟩
        have D2 := Lib.hid (D1.out.trans (d2.mono D1.out.size))
        have T2 := Lib.hid (T1.out.below d2)
        clear d2
        go_wp2_with fail
        refine (hnew_nil (.slice a n c) w2).mono ?_
        rintro e w3 ⟨rfl, d3⟩
        have D3 := Lib.hid (D2.out.trans (d3.mono D2.out.size))
        have T3 := Lib.hid (T2.out.below d3)
        clear d3
        go_wp2_with fail
        refine (RG.out w3).mono ?_
        rintro e w4 ⟨rfl, rfl⟩
        go_wp2_with fail
        refine (henc_nil (.slice none 0 0) (.slice b m d) w3).mono ?_
        rintro e w4 ⟨rfl, d4⟩
        have D4 := Lib.hid (D3.out.trans (d4.mono D3.out.size))
        have T4 := Lib.hid (T3.out.below d4)
        clear d4
        go_wp2_with fail
        refine (hdec_nil (.slice none 0 0) (.slice b m d) w4).mono ?_
        rintro e w5 ⟨rfl, d5⟩
        have D5 := Lib.hid (D4.out.trans (d5.mono D4.out.size))
        have T5 := Lib.hid (T4.out.below d5)
        clear d5
        go_wp2_with fail
        refine (awake18_any w5 T5.out).mono ?_
        rintro e w6 ⟨rfl, d6⟩
        go_wp2
        go_ret
        exact ⟨rfl, D5.out.trans (d6.mono D5.out.size)⟩
    · have m1 : (100 : Int) < (m : Int) := by omega
      go_enter Tryd.func6, Tryd.ntmps6
      go_wp2
      go_ret
      exact ⟨rfl, Below.refl _ _⟩
  · have n1 : (100 : Int) < (n : Int) := by omega
    go_enter Tryd.func6, Tryd.ntmps6
    go_wp2
    go_ret
    exact ⟨rfl, Below.refl _ _⟩
end Go.Proofs.YtfdkmjegcghieaaDoor
