/- what the tie of the package variables gives: mixes and unmixes hold what the text lays -/
import Derived.Test.YtfdkmjegcghieaaGreatDoorMGc
import Derived.Test.YtfdkmjegcghieaaGreatDoorMGs
import Derived.Test.YtfdkmjegcghieaaGreatDoorRows
import Derived.ProofKit
import Derived.LaidMore
import Derived.OpenShut
import Derived.Stop.Joined
namespace Go.Proofs.YtfdkmjegcghieaaGreatDoor
set_option linter.unusedSimpArgs false
set_option maxRecDepth 100000
set_option maxHeartbeats 1600000
open Go.ChangeShapes Go.WideShapes Go.ChangeAt Go.RowKit
theorem gMixes : Tryz.prog.globalNamed "wringer/turn.mixes" = some 0 := by kernel_rfl
theorem gUnmixes : Tryz.prog.globalNamed "wringer/turn.unmixes" = some 1 := by kernel_rfl
theorem tMixes : (Tryz.prog.globals[0]?).map (·.type) = some 106 := by kernel_rfl
theorem tUnmixes : (Tryz.prog.globals[1]?).map (·.type) = some 106 := by kernel_rfl
def laidL : List (String × DataW Unit) := [("wringer/turn.mixes", Rows.laid_wringer_turn_mixes), ("wringer/turn.unmixes", Rows.laid_wringer_turn_unmixes)]
theorem door_met (os : Os) (args : Array Value) : laidMetH Tryz.prog laidL ((World.doorLaid Tryz.prog 400 os).forCall (fun _ _ => 0) ⟨#[], args, []⟩).memory :=
 laidMetH_of_parts3 (fuel := 8) (laidMet_of_run' 8 (by kernel_rfl) (by kernel_rfl)) (by kernel_rfl) (by kernel_rfl)
theorem var_row {P : Program} {w : World} {n : String} {g : Nat} {cs : Array Value} (hg : P.globalNamed n = some g) (h : w.var? P n = some cs) : rowAt w g = cs ∧ (cs.size = 0 ∨ g < w.heap.size) := by
 simp only [World.var?, hg, Option.bind_some] at h
 unfold rowAt
 split at h
 ·rename_i cs' t f e
  rw [e]
  exact ⟨Option.some.inj h, .inr (Array.getElem?_eq_some_iff.1 e).1⟩
 ·cases h
section
variable {H : Type} {enc : TypeId × Value → H} {P : Program} {w : World} {base : Nat} {spare : Nat → Bool} {held : Bool}
theorem cells_quad {t e : TypeId} {fuel : Nat} {cs : List Value} {a b c d : Int} {q : List MemPlace} (ht : P.underlying t = some (.array 4 e)) (he : P.underlying e = some (.int .u8)) (hc : P.cellsOf e = 1) (hct : P.cellsOf t = 4)
  (h : DataW.trod enc P w base spare held fuel t cs = some (.agg [.lit (.int .u8 a), .lit (.int .u8 b), .lit (.int .u8 c), .lit (.int .u8 d)], q)) : cs = [.int .u8 a, .int .u8 b, .int .u8 c, .int .u8 d] := by
 obtain ⟨xs, m1, rfl, hx1, hlen, hn3, hel⟩ := DataW.trod_array ht h
 rw [hc] at hel
 match xs, hn3 with
 | [x0, x1, x2, x3], _ =>
  simp only [Prod.mk.injEq, DataW.agg.injEq, List.map_cons, List.map_nil, List.cons.injEq, and_true] at hx1
  obtain ⟨⟨e0, e1, e2, e3⟩, _⟩ := hx1
  obtain ⟨k0, c0, d0, _⟩ := DataW.trod_int he (show DataW.trod enc P w base spare held m1 e _ = some x0 from hel 0 (by decide))
  obtain ⟨k1, c1, d1, _⟩ := DataW.trod_int he (show DataW.trod enc P w base spare held m1 e _ = some x1 from hel 1 (by decide))
  obtain ⟨k2, c2, d2, _⟩ := DataW.trod_int he (show DataW.trod enc P w base spare held m1 e _ = some x2 from hel 2 (by decide))
  obtain ⟨k3, c3, d3, _⟩ := DataW.trod_int he (show DataW.trod enc P w base spare held m1 e _ = some x3 from hel 3 (by decide))
  rw [hct] at hlen
  rw [d0] at e0; rw [d1] at e1; rw [d2] at e2; rw [d3] at e3
  cases e0; cases e1; cases e2; cases e3
  match cs, hlen with
  | [y0, y1, y2, y3], _ =>
   simp only [Nat.zero_mul, Nat.one_mul, Nat.reduceMul, List.drop_zero, List.drop_succ_cons, List.take_succ_cons, List.take_zero, List.cons.injEq, and_true] at c0 c1 c2 c3
   rw [c0, c1, c2, c3]
end
theorem turning_of_laid {W : World} (h : laidMetH Tryz.prog laidL W) : Turning W := by
 rw [MakeChecks.laidMetH_plain _ _ _ (by kernel_rfl)] at h
 obtain ⟨ps, ⟨g0, t0, cs0, f0, p0, q0, hg0, ht0, hv0, hd0, ⟨g1, t1, cs1, f1, p1, q1, hg1, ht1, hv1, hd1, _, _⟩, _⟩, _, _⟩ := h
 obtain rfl := Option.some.inj (gMixes.symm.trans hg0)
 obtain rfl := Option.some.inj (gUnmixes.symm.trans hg1)
 obtain rfl := Option.some.inj (tMixes.symm.trans ht0)
 obtain rfl := Option.some.inj (tUnmixes.symm.trans ht1)
 have e0 := cells_quad Tryz.underlying106 Tryz.underlying5 (by kernel_rfl) (by kernel_rfl) hd0
 have e1 := cells_quad Tryz.underlying106 Tryz.underlying5 (by kernel_rfl) (by kernel_rfl) hd1
 obtain ⟨r0, l0⟩ := var_row hg0 hv0
 obtain ⟨r1, l1⟩ := var_row hg1 hv1
 have s0 : cs0.size = 4 := by rw [← Array.length_toList, e0]; rfl
 have s1 : cs1.size = 4 := by rw [← Array.length_toList, e1]; rfl
 refine ⟨?_, ?_, by omega, by omega⟩
 ·rw [r0]; apply Array.ext'; rw [e0, A8_toList]; rfl
 ·rw [r1]; apply Array.ext'; rw [e1, A8_toList]; rfl
end Go.Proofs.YtfdkmjegcghieaaGreatDoor
