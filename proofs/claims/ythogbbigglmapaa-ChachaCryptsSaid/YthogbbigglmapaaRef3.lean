/- chacha by definition: Mix -/
import Derived.Test.YthogbbigglmapaaRef2
import Derived.Test.YthogbbigglmapaaCha3
namespace Go.Proofs.Ythogbbigglmapaa
open Go.RowKit
/-- a state, its quarters turned one by one, so many -/
def roundR (s : List (BitVec 32)) : Nat → List (BitVec 32)
  | 0 => s
  | k + 1 => qround (roundR s k) (placeAt k 0) (placeAt k 1) (placeAt k 2) (placeAt k 3)
theorem roundR_length (s : List (BitVec 32)) (k : Nat) : (roundR s k).length = s.length := by
  induction k with
  | zero => rfl
  | succ k ih => rw [roundR, qround_length, ih]
theorem roundR_twice (s : List (BitVec 32)) : roundR s 8 = twice s := rfl
/-- four numbers laid in their places, one by one -/
def layR (s q : List (BitVec 32)) (k : Nat) : Nat → List (BitVec 32)
  | 0 => s
  | j + 1 => (layR s q k j).set (placeAt k j) (nth q j)
theorem layR_length (s q : List (BitVec 32)) (k j : Nat) : (layR s q k j).length = s.length := by
  induction j with
  | zero => rfl
  | succ j ih => rw [layR, List.length_set, ih]
def quarterL (a b c d : BitVec 32) : List (BitVec 32) := [(quarter a b c d).1, (quarter a b c d).2.1, (quarter a b c d).2.2.1, (quarter a b c d).2.2.2]
theorem layR_round (s : List (BitVec 32)) (k : Nat) : layR (roundR s k) (quarterL (nth (roundR s k) (placeAt k 0)) (nth (roundR s k) (placeAt k 1)) (nth (roundR s k) (placeAt k 2)) (nth (roundR s k) (placeAt k 3))) k 4 = roundR s (k + 1) := rfl
end Go.Proofs.Ythogbbigglmapaa
