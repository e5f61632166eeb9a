/- octet.PutWord, octet.PutLong -/
import Derived.Test.YthogbbigglmapaaTypes
import Derived.Handy
namespace Go.Proofs.Ythogbbigglmapaa
open Go.RowKit
def le32 (x : BitVec 32) : List (BitVec 8) := [x.setWidth 8, (x >>> 8).setWidth 8, (x >>> 16).setWidth 8, (x >>> 24).setWidth 8]
@[simp] theorem le32_length (x : BitVec 32) : (le32 x).length = 4 := rfl
theorem putword_any (x : BitVec 32) (w : World) :
    Calls Try.prog 26 #[v32 x] w fun e w' => e = .returned (.agg (A8 (le32 x))) ∧ Below w.heap.size w w' := by
  go_enter Try.func26, Try.ntmps26
  go_wp2
  go_rounds 5
  refine bodyPost_row (A8 (le32 x)) rfl rfl rfl (Try.isAgg41 _) (Try.sizeOf41 _) rfl (by simp [go_sem]; rfl) ⟨rfl, ?_⟩
  repeat (first | exact Below.refl _ _ | assumption | refine Below.drew ?_ | refine Below.alloc ?_ ?_ _ | refine Below.setCell ?_ ?_ _ | refine below_setRow ?_ ?_ _ | refine Below.trans ?_ (Below.mono (by assumption) ?_))
  all_goals (first | (simp; done) | (simp; omega) | (simp at *; omega))
def le64 (x : BitVec 64) : List (BitVec 8) := [x.setWidth 8, (x >>> 8).setWidth 8, (x >>> 16).setWidth 8, (x >>> 24).setWidth 8, (x >>> 32).setWidth 8, (x >>> 40).setWidth 8, (x >>> 48).setWidth 8, (x >>> 56).setWidth 8]
@[simp] theorem le64_length (x : BitVec 64) : (le64 x).length = 8 := rfl
theorem putlong_any (x : BitVec 64) (w : World) :
    Calls Try.prog 43 #[v64 x] w fun e w' => e = .returned (.agg (A8 (le64 x))) ∧ Below w.heap.size w w' := by
  go_enter Try.func43, Try.ntmps43
  go_wp2
  go_rounds 9
  refine bodyPost_row (A8 (le64 x)) rfl rfl rfl (Try.isAgg72 _) (Try.sizeOf72 _) rfl (by simp [go_sem]; rfl) ⟨rfl, ?_⟩
  repeat (first | exact Below.refl _ _ | assumption | refine Below.drew ?_ | refine Below.alloc ?_ ?_ _ | refine Below.setCell ?_ ?_ _ | refine below_setRow ?_ ?_ _ | refine Below.trans ?_ (Below.mono (by assumption) ?_))
  all_goals (first | (simp; done) | (simp; omega) | (simp at *; omega))
end Go.Proofs.Ythogbbigglmapaa
