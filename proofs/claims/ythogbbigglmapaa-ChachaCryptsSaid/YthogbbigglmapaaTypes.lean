/-
  Of each array type of numbers: how many cells it has, and what a new variable of it holds.
-/
import Derived.Test.YthogbbigglmapaaRows
import Derived.Test.YthogbbigglmapaaMem
namespace Go.Proofs.Ythogbbigglmapaa
open Go.RowKit
theorem alloc_of_zero {P : Program} {t : TypeId} {cs : Array Value} (h : ∀ w, (zeroValue t).run P w = .ok (.agg cs) w) (w : World) : (Instr.alloc t true (.tuple #[])).run P w = .ok (.pointer (some ⟨w.heap.size, 0, none⟩)) (w.alloc (.cells cs t)) := by
  simp [Instr.alloc, h, newVar, newRow, Value.cells]
@[go_sem] theorem cellsOf41 : Try.prog.cellsOf 41 = 4 := by kernel_rfl
theorem zero41 (w : World) : (zeroValue 41).run Try.prog w = .ok (.agg (A8 (zeros 8 4))) w := by kernel_rfl
@[go_sem ↓ high] theorem alloc41 (w : World) : (Instr.alloc 41 true (.tuple #[])).run Try.prog w = .ok (.pointer (some ⟨w.heap.size, 0, none⟩)) (w.alloc (.cells (A8 (zeros 8 4)) 41)) := alloc_of_zero zero41 w
@[go_sem ↓ high] theorem build041 (w : World) : (Instr.build 41 #[]).run Try.prog w = .ok (.agg (A8 (zeros 8 4))) w := by kernel_rfl
@[go_sem] theorem cellsOf72 : Try.prog.cellsOf 72 = 8 := by kernel_rfl
theorem zero72 (w : World) : (zeroValue 72).run Try.prog w = .ok (.agg (A8 (zeros 8 8))) w := by kernel_rfl
@[go_sem ↓ high] theorem alloc72 (w : World) : (Instr.alloc 72 true (.tuple #[])).run Try.prog w = .ok (.pointer (some ⟨w.heap.size, 0, none⟩)) (w.alloc (.cells (A8 (zeros 8 8)) 72)) := alloc_of_zero zero72 w
@[go_sem ↓ high] theorem build072 (w : World) : (Instr.build 72 #[]).run Try.prog w = .ok (.agg (A8 (zeros 8 8))) w := by kernel_rfl
@[go_sem] theorem cellsOf36 : Try.prog.cellsOf 36 = 16 := by kernel_rfl
theorem zero36 (w : World) : (zeroValue 36).run Try.prog w = .ok (.agg (A8 (zeros 8 16))) w := by kernel_rfl
@[go_sem ↓ high] theorem alloc36 (w : World) : (Instr.alloc 36 true (.tuple #[])).run Try.prog w = .ok (.pointer (some ⟨w.heap.size, 0, none⟩)) (w.alloc (.cells (A8 (zeros 8 16)) 36)) := alloc_of_zero zero36 w
@[go_sem ↓ high] theorem build036 (w : World) : (Instr.build 36 #[]).run Try.prog w = .ok (.agg (A8 (zeros 8 16))) w := by kernel_rfl
@[go_sem] theorem cellsOf64 : Try.prog.cellsOf 64 = 24 := by kernel_rfl
theorem zero64 (w : World) : (zeroValue 64).run Try.prog w = .ok (.agg (A8 (zeros 8 24))) w := by kernel_rfl
@[go_sem ↓ high] theorem alloc64 (w : World) : (Instr.alloc 64 true (.tuple #[])).run Try.prog w = .ok (.pointer (some ⟨w.heap.size, 0, none⟩)) (w.alloc (.cells (A8 (zeros 8 24)) 64)) := alloc_of_zero zero64 w
@[go_sem ↓ high] theorem build064 (w : World) : (Instr.build 64 #[]).run Try.prog w = .ok (.agg (A8 (zeros 8 24))) w := by kernel_rfl
@[go_sem] theorem cellsOf35 : Try.prog.cellsOf 35 = 32 := by kernel_rfl
theorem zero35 (w : World) : (zeroValue 35).run Try.prog w = .ok (.agg (A8 (zeros 8 32))) w := by kernel_rfl
@[go_sem ↓ high] theorem alloc35 (w : World) : (Instr.alloc 35 true (.tuple #[])).run Try.prog w = .ok (.pointer (some ⟨w.heap.size, 0, none⟩)) (w.alloc (.cells (A8 (zeros 8 32)) 35)) := alloc_of_zero zero35 w
@[go_sem ↓ high] theorem build035 (w : World) : (Instr.build 35 #[]).run Try.prog w = .ok (.agg (A8 (zeros 8 32))) w := by kernel_rfl
@[go_sem] theorem cellsOf54 : Try.prog.cellsOf 54 = 64 := by kernel_rfl
theorem zero54 (w : World) : (zeroValue 54).run Try.prog w = .ok (.agg (A8 (zeros 8 64))) w := by kernel_rfl
@[go_sem ↓ high] theorem alloc54 (w : World) : (Instr.alloc 54 true (.tuple #[])).run Try.prog w = .ok (.pointer (some ⟨w.heap.size, 0, none⟩)) (w.alloc (.cells (A8 (zeros 8 64)) 54)) := alloc_of_zero zero54 w
@[go_sem ↓ high] theorem build054 (w : World) : (Instr.build 54 #[]).run Try.prog w = .ok (.agg (A8 (zeros 8 64))) w := by kernel_rfl
@[go_sem] theorem cellsOf46 : Try.prog.cellsOf 46 = 4 := by kernel_rfl
theorem zero46 (w : World) : (zeroValue 46).run Try.prog w = .ok (.agg (A32 (zeros 32 4))) w := by kernel_rfl
@[go_sem ↓ high] theorem alloc46 (w : World) : (Instr.alloc 46 true (.tuple #[])).run Try.prog w = .ok (.pointer (some ⟨w.heap.size, 0, none⟩)) (w.alloc (.cells (A32 (zeros 32 4)) 46)) := alloc_of_zero zero46 w
@[go_sem ↓ high] theorem build046 (w : World) : (Instr.build 46 #[]).run Try.prog w = .ok (.agg (A32 (zeros 32 4))) w := by kernel_rfl
@[go_sem] theorem cellsOf38 : Try.prog.cellsOf 38 = 16 := by kernel_rfl
theorem zero38 (w : World) : (zeroValue 38).run Try.prog w = .ok (.agg (A32 (zeros 32 16))) w := by kernel_rfl
@[go_sem ↓ high] theorem alloc38 (w : World) : (Instr.alloc 38 true (.tuple #[])).run Try.prog w = .ok (.pointer (some ⟨w.heap.size, 0, none⟩)) (w.alloc (.cells (A32 (zeros 32 16)) 38)) := alloc_of_zero zero38 w
@[go_sem ↓ high] theorem build038 (w : World) : (Instr.build 38 #[]).run Try.prog w = .ok (.agg (A32 (zeros 32 16))) w := by kernel_rfl
@[go_sem] theorem cellsOf39 : Try.prog.cellsOf 39 = 16 := by kernel_rfl
theorem zero39 (w : World) : (zeroValue 39).run Try.prog w = .ok (.agg (A32 (zeros 32 16))) w := by kernel_rfl
@[go_sem ↓ high] theorem alloc39 (w : World) : (Instr.alloc 39 true (.tuple #[])).run Try.prog w = .ok (.pointer (some ⟨w.heap.size, 0, none⟩)) (w.alloc (.cells (A32 (zeros 32 16)) 39)) := alloc_of_zero zero39 w
@[go_sem ↓ high] theorem build039 (w : World) : (Instr.build 39 #[]).run Try.prog w = .ok (.agg (A32 (zeros 32 16))) w := by kernel_rfl
end Go.Proofs.Ythogbbigglmapaa
