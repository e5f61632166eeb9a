/- a law's key: its rounds -/
import Derived.Test.YtepijmidafndaaaDoorLaw4
import Derived.Test.YtepijmidafndaaaDoorEq
namespace Go.Proofs.YtepijmidafndaaaDoor
open Go.RowKit
/-- how many round keys, and which -/
def mK (K : List (BitVec 8)) : Nat := keyN K / 4 + 7
def LK (K : List (BitVec 8)) : List (BitVec 8) := sch (keyN K / 4) (keyB K) (3 * (keyN K / 4) + 28)
theorem LK_length (K : List (BitVec 8)) (hK : K.length = 33) : (LK K).length = mK K * 16 := by
  have := keyN_or K
  rw [LK, mK, sch_length _ _ (by rw [keyB_length K hK]; omega)]
  omega
theorem mK_bounds (K : List (BitVec 8)) : 11 ≤ mK K ∧ mK K ≤ 15 := by
  have := keyN_or K
  unfold mK; omega
theorem expandK_any (p : Nat) (K : List (BitVec 8)) (a : Option Addr) (c : Nat) (w : World) (hT : TabAt w p) (hr : Rd8 w a (keyN K) c (keyB K)) :
    Calls Tryd.prog 19 #[.pointer (some ⟨p, 0, none⟩), .slice a (keyN K) c] w fun e w' => ∃ k, e = .returned (.tuple #[.pointer (some ⟨k, 0, none⟩), .int .i64 0]) ∧ KeyAt w' k p (mK K) (LK K) ∧ Below w.heap.size w w' :=
  (expand_yes p (keyB K) a (keyN K) c w hT hr (keyN_or K)).mono fun _ _ ⟨k, h1, h2, _, h4⟩ => ⟨k, h1, h2, h4⟩
end Go.Proofs.YtepijmidafndaaaDoor
