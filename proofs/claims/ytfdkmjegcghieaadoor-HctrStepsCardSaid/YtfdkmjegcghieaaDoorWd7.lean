/- ring: (*Table).Dot on nothing -/
import Derived.Test.YtfdkmjegcghieaaDoorWd6
namespace Go.Proofs.YtfdkmjegcghieaaDoor
open Go.RowKit
set_option linter.unusedSimpArgs false in
set_option maxRecDepth 100000 in
theorem tdot_nil (l : List (BitVec 8)) (w : World) :
    Calls Tryd.prog 116 #[.pointer none, .agg (A8 l)] w fun e w' => e = .returned (.agg (A8 (zeros 8 16))) ∧ Below w.heap.size w w' := by
  obtain ⟨W, hW⟩ : ∃ W, (w.alloc (.cells (A8 l) 40)).alloc (.cells (A8 (zeros 8 16)) 40) = W := ⟨_, rfl⟩
  obtain ⟨b0, b1, hb, hz⟩ := new2 _ _ _ _ _ _ hW
  have r1 := b1.row
  have r2 := b1.whole
  have K3 := Lib.hid (b1.put (A8 (zeros 8 16))).row
  have B3 := Lib.hid (below_setRow hb (show w.heap.size ≤ w.heap.size + 1 by omega) (A8 (zeros 8 16)))
  clear b0 b1 hb hz
  go_enter Tryd.func116, Tryd.ntmps116
  go_wp2
  refine bodyPost_row (A8 (zeros 8 16)) rfl rfl rfl (Tryd.isAgg40 _) (Tryd.sizeOf40 _) (by rw [A8_size, zeros_length]) K3.out ⟨rfl, B3.out⟩
end Go.Proofs.YtfdkmjegcghieaaDoor
