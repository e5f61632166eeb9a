/- sixty: the text of any bytes: the walk -/
import Derived.Test.YthogbbigglmapaaSix8
import Derived.Test.YthogbbigglmapaaSix4
namespace Go.Proofs.Ythogbbigglmapaa
open Go.RowKit
set_option linter.unusedSimpArgs false in
set_option maxRecDepth 100000 in
theorem SixtyEncodes_walk (a : Option Addr) (n c : Nat) (l : List (BitVec 8)) (w : World) (h : Rd8 w a n c l) :
    Calls Try.prog 3 #[.slice a n c] w fun e w' => e = .returned (.bool true) ∧ Below w.heap.size w w' := by
  have L := Lib.hid h
  have N := Lib.hid h.1
  clear h
  go_enter Try.func3, Try.ntmps3
  by_cases hn : n ≤ 300
  · have n1 : ¬ (300 : Int) < (n : Int) := by omega
    go_wp2_with fail
    refine (sixEncode_any l a n c w L.out (by omega)).mono ?_
    rintro e w1 ⟨rfl, hb1⟩
    go_wp2_with fail
    refine (refEncode_any l a n c w1 (L.out.below hb1) (by omega)).mono ?_
    rintro e w2 ⟨rfl, hb2⟩
    rw [show encR l ((8 * n + 5) / 6) = enc l by rw [← N.out]; exact encR_enc l]
    have B2 := Lib.hid (hb1.trans (hb2.mono hb1.size))
    clear hb1 hb2
    go_wp2_with fail
    refine (sixAwake_any _).mono ?_
    rintro e w3 ⟨rfl, hb3⟩
    go_wp2
    go_ret
    exact ⟨rfl, B2.out.trans (hb3.mono B2.out.size)⟩
  · have n1 : (300 : Int) < (n : Int) := by omega
    go_wp2
    go_ret
    exact ⟨rfl, Below.refl _ _⟩
end Go.Proofs.Ythogbbigglmapaa
