/- what the tie of the package variables gives: mixes and unmixes hold what the text lays -/
import Derived.Test.YtpifdkkhdgbcdaaGreatDoorMGc
import Derived.Test.YtpifdkkhdgbcdaaGreatDoorMGs
import Derived.Test.YtpifdkkhdgbcdaaGreatDoorRows
import Derived.ProofKit
import Derived.LaidMore
import Derived.OpenShut
import Derived.Stop.Joined
namespace Go.Proofs.YtpifdkkhdgbcdaaGreatDoor
set_option linter.unusedSimpArgs false
set_option maxRecDepth 100000
set_option maxHeartbeats 1600000
open Go.ChangeShapes Go.WideShapes Go.ChangeAt Go.RowKit
theorem gMixes : Tryz.prog.globalNamed "wringer/turn.mixes" = some 0 := by kernel_rfl
theorem gUnmixes : Tryz.prog.globalNamed "wringer/turn.unmixes" = some 1 := by kernel_rfl
theorem tMixes : (Tryz.prog.globals[0]?).map (·.type) = some 65 := by kernel_rfl
theorem tUnmixes : (Tryz.prog.globals[1]?).map (·.type) = some 65 := by kernel_rfl
theorem var_row {P : Program} {w : World} {n : String} {g : Nat} {cs : Array Value} (hg : P.globalNamed n = some g) (h : w.var? P n = some cs) : rowAt w g = cs ∧ (cs.size = 0 ∨ g < w.heap.size) := by
 simp only [World.var?, hg, Option.bind_some] at h
 unfold rowAt
 split at h
 ·rename_i cs' t f e
  rw [e]
  exact ⟨Option.some.inj h, .inr (Array.getElem?_eq_some_iff.1 e).1⟩
 ·cases h
section
variable {H : Type} {enc : TypeId × Value → H} {P : Program} {w : World} {base : Nat} {spare : Nat → Bool} {held : Bool}
theorem cells_quad {t e : TypeId} {fuel : Nat} {cs : List Value} {a b c d : Int} {q : List MemPlace} (ht : P.underlying t = some (.array 4 e)) (he : P.underlying e = some (.int .u8)) (hc : P.cellsOf e = 1) (hct : P.cellsOf t = 4)
  (h : DataW.trod enc P w base spare held fuel t cs = some (.agg [.lit (.int .u8 a), .lit (.int .u8 b), .lit (.int .u8 c), .lit (.int .u8 d)], q)) : cs = [.int .u8 a, .int .u8 b, .int .u8 c, .int .u8 d] := by
 obtain ⟨xs, m1, rfl, hx1, hlen, hn3, hel⟩ := DataW.trod_array ht h
 rw [hc] at hel
 match xs, hn3 with
 | [x0, x1, x2, x3], _ =>
  simp only [Prod.mk.injEq, DataW.agg.injEq, List.map_cons, List.map_nil, List.cons.injEq, and_true] at hx1
  obtain ⟨⟨e0, e1, e2, e3⟩, _⟩ := hx1
  obtain ⟨k0, c0, d0, _⟩ := DataW.trod_int he (show DataW.trod enc P w base spare held m1 e _ = some x0 from hel 0 (by decide))
  obtain ⟨k1, c1, d1, _⟩ := DataW.trod_int he (show DataW.trod enc P w base spare held m1 e _ = some x1 from hel 1 (by decide))
  obtain ⟨k2, c2, d2, _⟩ := DataW.trod_int he (show DataW.trod enc P w base spare held m1 e _ = some x2 from hel 2 (by decide))
  obtain ⟨k3, c3, d3, _⟩ := DataW.trod_int he (show DataW.trod enc P w base spare held m1 e _ = some x3 from hel 3 (by decide))
  rw [hct] at hlen
  rw [d0] at e0; rw [d1] at e1; rw [d2] at e2; rw [d3] at e3
  cases e0; cases e1; cases e2; cases e3
  match cs, hlen with
  | [y0, y1, y2, y3], _ =>
   simp only [Nat.zero_mul, Nat.one_mul, Nat.reduceMul, List.drop_zero, List.drop_succ_cons, List.take_succ_cons, List.take_zero, List.cons.injEq, and_true] at c0 c1 c2 c3
   rw [c0, c1, c2, c3]
end
end Go.Proofs.YtpifdkkhdgbcdaaGreatDoor
