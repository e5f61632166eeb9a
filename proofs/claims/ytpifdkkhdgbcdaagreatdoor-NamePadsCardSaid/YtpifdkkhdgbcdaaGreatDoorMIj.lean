/- a slice literal of one byte -/
import Derived.Test.YtpifdkkhdgbcdaaGreatDoorMGb
namespace Go.Proofs.YtpifdkkhdgbcdaaGreatDoor
set_option linter.unusedSimpArgs false
set_option maxRecDepth 100000
set_option maxHeartbeats 1600000
open Go.RowKit
section
variable {P : Program}
theorem run_build1 (w : World) (t e : TypeId) (x : BitVec 8) (hu : P.underlying t = some (.slice e)) (hi : (P.info? e).map (fun i => (i.zero, i.size, i.bytes)) = some (some (.int .u8 0), 1, 1)) :
  (Instr.buildSlice t 1 #[(0, v8 x)]).run P w = .ok (.slice (some ⟨w.heap.size, 0, none⟩) 1 1) (w.alloc (.cells (A8 [x]) e)) := by
 obtain ⟨i, hi, hz, hs, _⟩ := info_parts hi
 have hc : (v8 x).cells = #[v8 x] := rfl
 simp [Instr.buildSlice, run_underlying hu, sizeOf, typeInfo, hi, hs, newRow, Instr.fill, zeroValue, hz, hc, A8]
 congr 2
 rw [show Array.range 1 = #[0] from rfl]
 simp
theorem z_build1 {ops : Array Oper} {K : Act → World → Prop} {ks : List Nat} {l : List Oper} {a : Act} {w : World} {d : Option Tmp} {y : Operand} {t ty e : TypeId} {pos : String} {after : Array Edge} {x : BitVec 8} (hy : a.eval y = v8 x) (ht : P.underlying t = some (.slice e)) (hi : (P.info? e).map (fun i => (i.zero, i.size, i.bytes)) = some (some (.int .u8 0), 1, 1))
  (h : ∀ w1 b, Rd8 w1 (some ⟨b, 0, none⟩) 1 1 [x] → Below w.heap.size w w1 → wpZ P ops K ks l (a.put d (.slice (some ⟨b, 0, none⟩) 1 1)) w1) :
  wpZ P ops K (2 :: ks) (⟨d, .buildSlice t 1 #[(0, y)], ty, pos, after, none⟩ :: l) a w := by
 unfold wpZ opT
 simp only [Region.wanted, if_true]
 have hr : (execOp a.eval ⟨d, .buildSlice t 1 #[(0, y)], ty, pos, after, none⟩).run P w = .ok (.value (.slice (some ⟨w.heap.size, 0, none⟩) 1 1)) (w.alloc (.cells (A8 [x]) e)) := by
  simp only [execOp, List.map_toArray, List.map_cons, List.map_nil, hy, Sem.run_bind, run_build1 w t e x ht hi, Result.andThen_ok, Sem.run_pure]
 unfold Oper.wp
 rw [hr]
 have hb := (Blk.new w e (A8 [x])).rd8 1 (by simp) (by simp [maxLen])
 exact h _ _ hb ((Below.refl _ _).alloc (Nat.le_refl _) _)
end
end Go.Proofs.YtpifdkkhdgbcdaaGreatDoor
