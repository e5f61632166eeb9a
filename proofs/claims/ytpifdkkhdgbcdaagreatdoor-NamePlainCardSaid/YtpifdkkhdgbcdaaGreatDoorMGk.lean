/- what the laws of AES say of the schedule and of rounds (plain) -/
import Derived.Test.YtpifdkkhdgbcdaaGreatDoorMGh
import Derived.Test.YtpifdkkhdgbcdaaGreatDoorMGs
import Derived.Test.YtpifdkkhdgbcdaaGreatDoorMGb
namespace Go.Proofs.YtpifdkkhdgbcdaaGreatDoor
set_option linter.unusedSimpArgs false
set_option maxRecDepth 100000
set_option maxHeartbeats 1600000
open Go.RowKit
theorem encS_length (L : List (BitVec 8)) (m : Nat) (b : List (BitVec 8)) : (encS L m b).length = 16 := lastS_length _ _
open Go.ChangeShapes Go.WideShapes Go.ChangeAt Go.RowKit
@[go_sem high] theorem v8_rem3 (t : TypeId) (a : BitVec 8) : binOp .rem t (v8 a) (.int .u8 3) = pure (v8 (a % 3#8)) := by
 simp [v8, binOp, Op.intDiv, Int.tmod_eq_emod_of_nonneg]
end Go.Proofs.YtpifdkkhdgbcdaaGreatDoor
