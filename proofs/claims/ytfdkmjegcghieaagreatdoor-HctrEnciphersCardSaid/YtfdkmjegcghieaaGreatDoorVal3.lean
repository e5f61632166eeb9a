/- val: what Write makes of blocks, plain; slices apart from a block -/
import Derived.Test.YtfdkmjegcghieaaGreatDoorGv
import Derived.Test.YtfdkmjegcghieaaGreatDoorIg
import Derived.Test.YtfdkmjegcghieaaGreatDoorGm
namespace Go.Proofs.YtfdkmjegcghieaaGreatDoor
open Go.RowKit
/-- a row of 16 bytes times a key, by the key's table -/
def dotBy (one : W2) (s : List (BitVec 8)) : List (BitVec 8) := le64 (dotL (tabW one) s 32).1 ++ le64 (dotL (tabW one) s 32).2
@[simp] theorem dotBy_length (one : W2) (s : List (BitVec 8)) : (dotBy one s).length = 16 := rfl
/-- the value after so many blocks -/
def valK (one : W2) (s b : List (BitVec 8)) : Nat → List (BitVec 8)
  | 0 => s
  | k + 1 => dotBy one (blk (xorl (valK one s b k) (b.drop (16 * k))))
theorem valK_length (one : W2) (s b : List (BitVec 8)) (h : s.length = 16) : ∀ k, (valK one s b k).length = 16
  | 0 => h
  | _ + 1 => rfl
end Go.Proofs.YtfdkmjegcghieaaGreatDoor
