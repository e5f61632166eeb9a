/- what the laws of AES say of the schedule and of rounds (plain) -/
import Derived.Test.YtpifdkkhdgbcdaaGreatDoorMGh
import Derived.Test.YtpifdkkhdgbcdaaGreatDoorMGs
import Derived.Test.YtpifdkkhdgbcdaaGreatDoorMGb
namespace Go.Proofs.YtpifdkkhdgbcdaaGreatDoor
set_option linter.unusedSimpArgs false
set_option maxRecDepth 100000
set_option maxHeartbeats 1600000
open Go.RowKit
theorem encS_length (L : List (BitVec 8)) (m : Nat) (b : List (BitVec 8)) : (encS L m b).length = 16 := lastS_length _ _
open Go.ChangeShapes Go.WideShapes Go.ChangeAt Go.RowKit
end Go.Proofs.YtpifdkkhdgbcdaaGreatDoor
