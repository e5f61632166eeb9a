/- the tie of a program that reaches blake too: mixes and unmixes hold what the text lays -/
import Derived.Test.YtpifdkkhdgbcdaaGreatDoorMTied
namespace Go.Proofs.YtpifdkkhdgbcdaaGreatDoor
set_option linter.unusedSimpArgs false
set_option maxRecDepth 100000
set_option maxHeartbeats 1600000
open Go.ChangeShapes Go.WideShapes Go.ChangeAt Go.RowKit
def laidL4 : List (String × DataW Unit) := [("wringer/blake.first", Rows.laid_wringer_blake_first), ("wringer/blake.rows", Rows.laid_wringer_blake_rows), ("wringer/turn.mixes", Rows.laid_wringer_turn_mixes), ("wringer/turn.unmixes", Rows.laid_wringer_turn_unmixes)]
theorem door_met4 (os : Os) (args : Array Value) : laidMetH Tryz.prog laidL4 ((World.doorLaid Tryz.prog 400 os).forCall (fun _ _ => 0) ⟨#[], args, []⟩).memory :=
 laidMetH_of_parts3 (fuel := 8) (laidMet_of_run' 8 (by kernel_rfl) (by kernel_rfl)) (by kernel_rfl) (by kernel_rfl)
theorem turning_of_laid4 {W : World} (h : laidMetH Tryz.prog laidL4 W) : Turning W := by
 rw [MakeChecks.laidMetH_plain _ _ _ (by kernel_rfl)] at h
 obtain ⟨ps, ⟨gA, tA, csA, fA, pA, qA, _, _, _, _, ⟨gB, tB, csB, fB, pB, qB, _, _, _, _, ⟨g0, t0, cs0, f0, p0, q0, hg0, ht0, hv0, hd0, ⟨g1, t1, cs1, f1, p1, q1, hg1, ht1, hv1, hd1, _, _⟩, _⟩, _⟩, _⟩, _, _⟩ := h
 obtain rfl := Option.some.inj (gMixes.symm.trans hg0)
 obtain rfl := Option.some.inj (gUnmixes.symm.trans hg1)
 obtain rfl := Option.some.inj (tMixes.symm.trans ht0)
 obtain rfl := Option.some.inj (tUnmixes.symm.trans ht1)
 have e0 := cells_quad Tryz.underlying65 Tryz.underlying5 (by kernel_rfl) (by kernel_rfl) hd0
 have e1 := cells_quad Tryz.underlying65 Tryz.underlying5 (by kernel_rfl) (by kernel_rfl) hd1
 obtain ⟨r0, l0⟩ := var_row hg0 hv0
 obtain ⟨r1, l1⟩ := var_row hg1 hv1
 have s0 : cs0.size = 4 := by rw [← Array.length_toList, e0]; rfl
 have s1 : cs1.size = 4 := by rw [← Array.length_toList, e1]; rfl
 refine ⟨?_, ?_, by omega, by omega⟩
 ·rw [r0]; apply Array.ext'; rw [e0, A8_toList]; rfl
 ·rw [r1]; apply Array.ext'; rw [e1, A8_toList]; rfl
end Go.Proofs.YtpifdkkhdgbcdaaGreatDoor
