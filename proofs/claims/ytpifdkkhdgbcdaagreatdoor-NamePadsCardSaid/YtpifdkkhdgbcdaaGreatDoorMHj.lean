/- wide numbers (plain): sums and differences undo each other; bytes and back -/
import Derived.Test.YtpifdkkhdgbcdaaGreatDoorMHd
import Derived.Test.YtpifdkkhdgbcdaaGreatDoorMHi
import Derived.Test.YtpifdkkhdgbcdaaGreatDoorMGh
namespace Go.Proofs.YtpifdkkhdgbcdaaGreatDoor
set_option linter.unusedSimpArgs false
set_option maxRecDepth 100000
set_option maxHeartbeats 1600000
def aesA (key : List (BitVec 8)) : List (BitVec 8) := sch 8 ((ownA key).take 32) 52
def hashA (key : List (BitVec 8)) : List (BitVec 8) := (ownA key).drop 32
def bulkA (M : List (BitVec 8)) : List (BitVec 8) := M.take (M.length - 16)
def rightA (M : List (BitVec 8)) : W2 := wideN (M.drop (M.length - 16))
def joinA (key tw B : List (BitVec 8)) (mid x : W2) : List (BitVec 8) :=
 cryptOf key (nonceW mid) 12 B ++ bytesW (subW2 x (sumN (hashA key) tw (cryptOf key (nonceW mid) 12 B)))
def midE (key tw M : List (BitVec 8)) : W2 := wideN (encS (aesA key) 15 (bytesW (addW2 (rightA M) (sumN (hashA key) tw (bulkA M)))))
def encA (key tw M : List (BitVec 8)) : List (BitVec 8) := joinA key tw (bulkA M) (midE key tw M) (midE key tw M)
theorem cryA_length (key nonce : List (BitVec 8)) (r : Nat) (b : List (BitVec 8)) : (cryptOf key nonce r b).length = b.length := by simp [cryptOf, streamOf]
theorem joinA_length (key tw B : List (BitVec 8)) (mid x : W2) : (joinA key tw B mid x).length = B.length + 16 := by
 rw [joinA, List.length_append, cryA_length, bytesW_length]
theorem encA_length (key tw M : List (BitVec 8)) (h : 16 ≤ M.length) : (encA key tw M).length = M.length := by
 rw [encA, joinA_length, bulkA, List.length_take]; omega
end Go.Proofs.YtpifdkkhdgbcdaaGreatDoor
