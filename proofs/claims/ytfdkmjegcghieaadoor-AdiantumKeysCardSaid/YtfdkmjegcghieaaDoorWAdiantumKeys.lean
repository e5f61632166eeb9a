/- AdiantumKeys: the walk -/
import Derived.Test.YtfdkmjegcghieaaDoorHl
namespace Go.Proofs.YtfdkmjegcghieaaDoor
open Go.RowKit
set_option linter.unusedSimpArgs false in
set_option maxRecDepth 100000 in
set_option maxHeartbeats 1600000 in
theorem AdiantumKeys_walk (a : Option Addr) (n c : Nat) (l : List (BitVec 8)) (b : Option Addr) (m d : Nat) (x : List (BitVec 8)) (w : World) (hl : Rd8 w a n c l) (_hx : Rd8 w b m d x) (hT : Turning w) :
    Calls Tryd.prog 11 #[.slice a n c, .slice b m d] w fun e w' => e = .returned (.bool true) ∧ Below w.heap.size w w' := by
  have L0 := Lib.hid hl
  have T0 := Lib.hid hT
  clear hl _hx hT
  by_cases hn : n ≤ 100
  · have n1 : ¬ (100 : Int) < (n : Int) := by omega
    by_cases hm : m ≤ 100
    · have m1 : ¬ (100 : Int) < (m : Int) := by omega
      go_enter Tryd.func11, Tryd.ntmps11
      go_wp2_with fail
      refine (tables17_any w T0.out).mono ?_
      rintro e w1 ⟨p, rfl, t1, d1⟩
      have P1 := Lib.hid t1
      have D1 := Lib.hid d1
      have T1 := Lib.hid (T0.out.below d1)
      have L1 := Lib.hid (L0.out.below d1)
      clear t1 d1
      by_cases hk : n = 32
      · subst hk
        go_wp2_with fail
        refine (anew_any p l a c w1 P1.out L1.out).mono ?_
        rintro e w2 ⟨q, rfl, hc, _, d2⟩
        have D2 := Lib.hid (D1.out.trans (d2.mono D1.out.size))
        have T2 := Lib.hid (T1.out.below d2)
        clear hc d2
        go_wp2_with fail
        refine (anew_notab a 32 c w2).mono ?_
        rintro e w3 ⟨rfl, d3⟩
        have D3 := Lib.hid (D2.out.trans (d3.mono D2.out.size))
        have T3 := Lib.hid (T2.out.below d3)
        clear d3
        go_wp2_with fail
        refine (awake17_any w3 T3.out).mono ?_
        rintro e w5 ⟨rfl, d5⟩
        go_wp2
        go_ret
        exact ⟨rfl, D3.out.trans (d5.mono D3.out.size)⟩
      · have f1 : ((n : Int) == 32) = false := by simp; omega
        go_wp2_with fail
        refine (anew_nokey p a n c w1 hk).mono ?_
        rintro e w2 ⟨rfl, d2⟩
        have D2 := Lib.hid (D1.out.trans (d2.mono D1.out.size))
        have T2 := Lib.hid (T1.out.below d2)
        clear d2
        go_wp2_with fail
        refine (anew_notab a n c w2).mono ?_
        rintro e w3 ⟨rfl, d3⟩
        have D3 := Lib.hid (D2.out.trans (d3.mono D2.out.size))
        have T3 := Lib.hid (T2.out.below d3)
        clear d3
        go_wp2_with fail
        refine (aenc_nil none 0 0 b m d w3).mono ?_
        rintro e w4 ⟨rfl, d4⟩
        have D4 := Lib.hid (D3.out.trans (d4.mono D3.out.size))
        have T4 := Lib.hid (T3.out.below d4)
        clear d4
        go_wp2_with fail
        refine (adec_nil none 0 0 b m d w4).mono ?_
        rintro e w5 ⟨rfl, d5⟩
        have D5 := Lib.hid (D4.out.trans (d5.mono D4.out.size))
        have T5 := Lib.hid (T4.out.below d5)
        clear d5
        go_wp2_with fail
        refine (awake17_any w5 T5.out).mono ?_
        rintro e w6 ⟨rfl, d6⟩
        go_wp2
        go_ret
        exact ⟨rfl, D5.out.trans (d6.mono D5.out.size)⟩
    · have m1 : (100 : Int) < (m : Int) := by omega
      go_enter Tryd.func11, Tryd.ntmps11
      go_wp2
      go_ret
      exact ⟨rfl, Below.refl _ _⟩
  · have n1 : (100 : Int) < (n : Int) := by omega
    go_enter Tryd.func11, Tryd.ntmps11
    go_wp2
    go_ret
    exact ⟨rfl, Below.refl _ _⟩
end Go.Proofs.YtfdkmjegcghieaaDoor
