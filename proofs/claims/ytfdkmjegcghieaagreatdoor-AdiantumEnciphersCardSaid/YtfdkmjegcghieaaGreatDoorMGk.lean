/- what the laws of AES say of the schedule and of rounds (plain) -/
import Derived.Test.YtfdkmjegcghieaaGreatDoorMGh
import Derived.Test.YtfdkmjegcghieaaGreatDoorMGs
import Derived.Test.YtfdkmjegcghieaaGreatDoorMGb
namespace Go.Proofs.YtfdkmjegcghieaaGreatDoor
set_option linter.unusedSimpArgs false
set_option maxRecDepth 100000
set_option maxHeartbeats 1600000
open Go.RowKit
theorem nth_wordAt (L : List (BitVec 8)) (j i : Nat) (h : i < 4) : nth (wordAt L j) i = nth L (4 * j + i) := by
 rw [wordAt, nth_take _ _ _ h, nth_drop, Nat.mul_comm]
theorem encS_length (L : List (BitVec 8)) (m : Nat) (b : List (BitVec 8)) : (encS L m b).length = 16 := lastS_length _ _
theorem decS_length (L : List (BitVec 8)) (m : Nat) (b : List (BitVec 8)) : (decS L m b).length = 16 := xor16_length _ _
open Go.ChangeShapes Go.WideShapes Go.ChangeAt Go.RowKit
theorem A8_of_toList {T : Array Value} {l : List (BitVec 8)} (h : T.toList = l.map v8) : T = A8 l := by
 apply Array.ext'; rw [A8_toList]; exact h
end Go.Proofs.YtfdkmjegcghieaaGreatDoor
