/- XctrBack: the walk -/
import Derived.Test.YthogbbigglmapaaDoorLaw13
import Derived.Test.YthogbbigglmapaaDoorEq
import Derived.Test.YthogbbigglmapaaDoorGs
namespace Go.Proofs.YthogbbigglmapaaDoor
open Go.RowKit
theorem xcrypt_back (L : List (BitVec 8)) (m : Nat) (s l : List (BitVec 8)) : xcrypt L m s (xcrypt L m s l) = l := str16_back _ _
set_option linter.unusedSimpArgs false in
set_option maxRecDepth 100000 in
set_option maxHeartbeats 800000 in
theorem XctrBack_walk (K s : List (BitVec 8)) (a : Option Addr) (len cap : Nat) (l : List (BitVec 8)) (w : World) (hK : K.length = 33) (hs : s.length = 16) (hl : Rd8 w a len cap l) (hT : Turning w) :
    Calls Tryd.prog 11 #[.agg (A8 K), .agg (A8 s), .slice a len cap] w fun e w' => e = .returned (.bool true) ∧ Below w.heap.size w w' := by
  obtain ⟨W, hW⟩ : ∃ W, (w.alloc (.cells (A8 K) 51)).alloc (.cells (A8 s) 25) = W := ⟨_, rfl⟩
  obtain ⟨b0, b1, hb, hz⟩ := new2 _ _ _ _ _ _ hW
  have r0 := b0.row
  have P0 := Lib.hid b1
  have B0 := Lib.hid hb
  have T0 := Lib.hid (hT.below hb)
  have LL := Lib.hid hl
  clear b0 b1 hb hz hT hl
  go_enter Tryd.func11, Tryd.ntmps11
  by_cases hlen : len ≤ 200
  · have n1 : ¬ (200 : Int) < (len : Int) := by omega
    go_wp2_with fail
    refine (key13_any K _ hK T0.out).mono ?_
    rintro e w1 ⟨k, p, rfl, k1, d1⟩
    clear hW r0
    have hLl := LK_length K hK
    obtain ⟨hm3, hm15⟩ := mK_bounds K
    obtain ⟨m, hm⟩ : ∃ m, m = mK K := ⟨_, rfl⟩
    obtain ⟨L, hL⟩ : ∃ L, L = LK K := ⟨_, rfl⟩
    rw [← hm] at hm3 hm15
    rw [← hm, ← hL] at k1
    have K1 := Lib.hid k1
    have P1 := Lib.hid (P0.out.belowAll d1)
    have B1 := Lib.hid (B0.out.trans (d1.mono B0.out.size))
    have T1 := Lib.hid (T0.out.below d1)
    have r1 := P1.out.row
    clear k1 d1 hm hL hLl P0 B0 T0
    go_wp2_with fail
    refine (xcrypt_any k p m L s l a len cap w1 K1.out hs (by omega) (by omega) (LL.out.below B1.out) (by omega)).mono ?_
    rintro e w2 ⟨v2, rfl, o2, d2⟩
    obtain ⟨c, hc⟩ : ∃ c, c = xcrypt L m s l := ⟨_, rfl⟩
    rw [← hc] at o2
    have hcl : c.length = len := by rw [hc, xcrypt_length, LL.out.1]
    obtain ⟨a2, c2, rfl, hr2, _⟩ := o2.rd
    rw [hcl] at hr2 ⊢
    have R2 := Lib.hid hr2
    have HC := Lib.hid hc
    have K2 := Lib.hid (K1.out.below d2)
    have B2 := Lib.hid (B1.out.trans (d2.mono B1.out.size))
    have T2 := Lib.hid (T1.out.below d2)
    have P2 := Lib.hid (P1.out.belowAll d2)
    clear r1 o2 hr2 hc d2 K1 B1 T1 P1
    have r1 := P2.out.row
    go_wp2_with fail
    refine (xcrypt_any k p m L s c a2 len c2 w2 K2.out hs (by omega) (by omega) R2.out (by omega)).mono ?_
    rintro e w3 ⟨v3, rfl, o3, d3⟩
    rw [show xcrypt L m s c = l by rw [HC.out]; exact xcrypt_back _ _ _ _] at o3
    obtain ⟨a3, c3, rfl, hr3, _⟩ := o3.rd
    rw [LL.out.1] at hr3 ⊢
    have B3 := Lib.hid (B2.out.trans (d3.mono B2.out.size))
    have T3 := Lib.hid (T2.out.below d3)
    have s1 := run_str (P := Tryd.prog) w3 32 9 5 a3 len c3 l Tryd.underlying32 Tryd.underlying9 Tryd.underlying5 hr3
    have s2 := run_str (P := Tryd.prog) w3 32 9 5 a len cap l Tryd.underlying32 Tryd.underlying9 Tryd.underlying5 (LL.out.below B3.out)
    clear r1 o3 hr3 d3 K2 B2 T2 P2 R2
    go_wp2_with fail
    refine (awake13_any _ T3.out).mono ?_
    rintro e w5 ⟨rfl, d5⟩
    go_wp2
    go_ret
    exact ⟨rfl, B3.out.trans (d5.mono B3.out.size)⟩
  · have n1 : (200 : Int) < (len : Int) := by omega
    go_wp2
    go_ret
    exact ⟨rfl, B0.out⟩
end Go.Proofs.YthogbbigglmapaaDoor
