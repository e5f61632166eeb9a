/- wide numbers (plain): sums and differences undo each other; bytes and back -/
import Derived.Test.YtfdkmjegcghieaaGreatDoorMHd
import Derived.Test.YtfdkmjegcghieaaGreatDoorMHi
import Derived.Test.YtfdkmjegcghieaaGreatDoorMGh
namespace Go.Proofs.YtfdkmjegcghieaaGreatDoor
set_option linter.unusedSimpArgs false
set_option maxRecDepth 100000
set_option maxHeartbeats 1600000
theorem le64_part0 (b0 b1 b2 b3 b4 b5 b6 b7 : BitVec 8) : ((((((((((0#64 ||| b0.setWidth 64 <<< 0) ||| b1.setWidth 64 <<< 8) ||| b2.setWidth 64 <<< 16) ||| b3.setWidth 64 <<< 24) ||| b4.setWidth 64 <<< 32) ||| b5.setWidth 64 <<< 40) ||| b6.setWidth 64 <<< 48) ||| b7.setWidth 64 <<< 56))).setWidth 8 = b0 := by
 apply BitVec.eq_of_getLsbD_eq
 intro i hi
 simp only [BitVec.getLsbD_setWidth, BitVec.getLsbD_or, BitVec.getLsbD_shiftLeft, BitVec.getLsbD_ushiftRight, BitVec.getLsbD_zero, hi]
 simp [show i < 64 by omega, show i < 8 by omega, show i < 16 by omega, show i < 24 by omega, show i < 32 by omega, show i < 40 by omega, show i < 48 by omega, show i < 56 by omega, show i < 64 by omega]
theorem le64_part1 (b0 b1 b2 b3 b4 b5 b6 b7 : BitVec 8) : ((((((((((0#64 ||| b0.setWidth 64 <<< 0) ||| b1.setWidth 64 <<< 8) ||| b2.setWidth 64 <<< 16) ||| b3.setWidth 64 <<< 24) ||| b4.setWidth 64 <<< 32) ||| b5.setWidth 64 <<< 40) ||| b6.setWidth 64 <<< 48) ||| b7.setWidth 64 <<< 56)) >>> 8).setWidth 8 = b1 := by
 apply BitVec.eq_of_getLsbD_eq
 intro i hi
 simp only [BitVec.getLsbD_setWidth, BitVec.getLsbD_or, BitVec.getLsbD_shiftLeft, BitVec.getLsbD_ushiftRight, BitVec.getLsbD_zero, hi]
 simp [show b0.getLsbD (8 + i) = false from BitVec.getLsbD_of_ge _ _ (by omega), show 8 + i - 8 = i by omega, show ¬ (8 + i < 8) by omega, show 8 + i < 64 by omega, show 8 + i < 16 by omega, show 8 + i < 24 by omega, show 8 + i < 32 by omega, show 8 + i < 40 by omega, show 8 + i < 48 by omega, show 8 + i < 56 by omega, show i < 64 by omega]
theorem le64_part2 (b0 b1 b2 b3 b4 b5 b6 b7 : BitVec 8) : ((((((((((0#64 ||| b0.setWidth 64 <<< 0) ||| b1.setWidth 64 <<< 8) ||| b2.setWidth 64 <<< 16) ||| b3.setWidth 64 <<< 24) ||| b4.setWidth 64 <<< 32) ||| b5.setWidth 64 <<< 40) ||| b6.setWidth 64 <<< 48) ||| b7.setWidth 64 <<< 56)) >>> 16).setWidth 8 = b2 := by
 apply BitVec.eq_of_getLsbD_eq
 intro i hi
 simp only [BitVec.getLsbD_setWidth, BitVec.getLsbD_or, BitVec.getLsbD_shiftLeft, BitVec.getLsbD_ushiftRight, BitVec.getLsbD_zero, hi]
 simp [show b0.getLsbD (16 + i) = false from BitVec.getLsbD_of_ge _ _ (by omega), show b1.getLsbD (16 + i - 8) = false from BitVec.getLsbD_of_ge _ _ (by omega), show ¬ (16 + i < 8) by omega, show 16 + i - 16 = i by omega, show ¬ (16 + i < 16) by omega, show 16 + i < 64 by omega, show 16 + i < 24 by omega, show 16 + i < 32 by omega, show 16 + i < 40 by omega, show 16 + i < 48 by omega, show 16 + i < 56 by omega, show i < 64 by omega]
theorem le64_part3 (b0 b1 b2 b3 b4 b5 b6 b7 : BitVec 8) : ((((((((((0#64 ||| b0.setWidth 64 <<< 0) ||| b1.setWidth 64 <<< 8) ||| b2.setWidth 64 <<< 16) ||| b3.setWidth 64 <<< 24) ||| b4.setWidth 64 <<< 32) ||| b5.setWidth 64 <<< 40) ||| b6.setWidth 64 <<< 48) ||| b7.setWidth 64 <<< 56)) >>> 24).setWidth 8 = b3 := by
 apply BitVec.eq_of_getLsbD_eq
 intro i hi
 simp only [BitVec.getLsbD_setWidth, BitVec.getLsbD_or, BitVec.getLsbD_shiftLeft, BitVec.getLsbD_ushiftRight, BitVec.getLsbD_zero, hi]
 simp [show b0.getLsbD (24 + i) = false from BitVec.getLsbD_of_ge _ _ (by omega), show b1.getLsbD (24 + i - 8) = false from BitVec.getLsbD_of_ge _ _ (by omega), show ¬ (24 + i < 8) by omega, show b2.getLsbD (24 + i - 16) = false from BitVec.getLsbD_of_ge _ _ (by omega), show ¬ (24 + i < 16) by omega, show 24 + i - 24 = i by omega, show ¬ (24 + i < 24) by omega, show 24 + i < 64 by omega, show 24 + i < 32 by omega, show 24 + i < 40 by omega, show 24 + i < 48 by omega, show 24 + i < 56 by omega, show i < 64 by omega]
theorem le64_part4 (b0 b1 b2 b3 b4 b5 b6 b7 : BitVec 8) : ((((((((((0#64 ||| b0.setWidth 64 <<< 0) ||| b1.setWidth 64 <<< 8) ||| b2.setWidth 64 <<< 16) ||| b3.setWidth 64 <<< 24) ||| b4.setWidth 64 <<< 32) ||| b5.setWidth 64 <<< 40) ||| b6.setWidth 64 <<< 48) ||| b7.setWidth 64 <<< 56)) >>> 32).setWidth 8 = b4 := by
 apply BitVec.eq_of_getLsbD_eq
 intro i hi
 simp only [BitVec.getLsbD_setWidth, BitVec.getLsbD_or, BitVec.getLsbD_shiftLeft, BitVec.getLsbD_ushiftRight, BitVec.getLsbD_zero, hi]
 simp [show b0.getLsbD (32 + i) = false from BitVec.getLsbD_of_ge _ _ (by omega), show b1.getLsbD (32 + i - 8) = false from BitVec.getLsbD_of_ge _ _ (by omega), show ¬ (32 + i < 8) by omega, show b2.getLsbD (32 + i - 16) = false from BitVec.getLsbD_of_ge _ _ (by omega), show ¬ (32 + i < 16) by omega, show b3.getLsbD (32 + i - 24) = false from BitVec.getLsbD_of_ge _ _ (by omega), show ¬ (32 + i < 24) by omega, show 32 + i - 32 = i by omega, show ¬ (32 + i < 32) by omega, show 32 + i < 64 by omega, show 32 + i < 40 by omega, show 32 + i < 48 by omega, show 32 + i < 56 by omega, show i < 64 by omega]
theorem le64_part5 (b0 b1 b2 b3 b4 b5 b6 b7 : BitVec 8) : ((((((((((0#64 ||| b0.setWidth 64 <<< 0) ||| b1.setWidth 64 <<< 8) ||| b2.setWidth 64 <<< 16) ||| b3.setWidth 64 <<< 24) ||| b4.setWidth 64 <<< 32) ||| b5.setWidth 64 <<< 40) ||| b6.setWidth 64 <<< 48) ||| b7.setWidth 64 <<< 56)) >>> 40).setWidth 8 = b5 := by
 apply BitVec.eq_of_getLsbD_eq
 intro i hi
 simp only [BitVec.getLsbD_setWidth, BitVec.getLsbD_or, BitVec.getLsbD_shiftLeft, BitVec.getLsbD_ushiftRight, BitVec.getLsbD_zero, hi]
 simp [show b0.getLsbD (40 + i) = false from BitVec.getLsbD_of_ge _ _ (by omega), show b1.getLsbD (40 + i - 8) = false from BitVec.getLsbD_of_ge _ _ (by omega), show ¬ (40 + i < 8) by omega, show b2.getLsbD (40 + i - 16) = false from BitVec.getLsbD_of_ge _ _ (by omega), show ¬ (40 + i < 16) by omega, show b3.getLsbD (40 + i - 24) = false from BitVec.getLsbD_of_ge _ _ (by omega), show ¬ (40 + i < 24) by omega, show b4.getLsbD (40 + i - 32) = false from BitVec.getLsbD_of_ge _ _ (by omega), show ¬ (40 + i < 32) by omega, show 40 + i - 40 = i by omega, show ¬ (40 + i < 40) by omega, show 40 + i < 64 by omega, show 40 + i < 48 by omega, show 40 + i < 56 by omega, show i < 64 by omega]
theorem le64_part6 (b0 b1 b2 b3 b4 b5 b6 b7 : BitVec 8) : ((((((((((0#64 ||| b0.setWidth 64 <<< 0) ||| b1.setWidth 64 <<< 8) ||| b2.setWidth 64 <<< 16) ||| b3.setWidth 64 <<< 24) ||| b4.setWidth 64 <<< 32) ||| b5.setWidth 64 <<< 40) ||| b6.setWidth 64 <<< 48) ||| b7.setWidth 64 <<< 56)) >>> 48).setWidth 8 = b6 := by
 apply BitVec.eq_of_getLsbD_eq
 intro i hi
 simp only [BitVec.getLsbD_setWidth, BitVec.getLsbD_or, BitVec.getLsbD_shiftLeft, BitVec.getLsbD_ushiftRight, BitVec.getLsbD_zero, hi]
 simp [show b0.getLsbD (48 + i) = false from BitVec.getLsbD_of_ge _ _ (by omega), show b1.getLsbD (48 + i - 8) = false from BitVec.getLsbD_of_ge _ _ (by omega), show ¬ (48 + i < 8) by omega, show b2.getLsbD (48 + i - 16) = false from BitVec.getLsbD_of_ge _ _ (by omega), show ¬ (48 + i < 16) by omega, show b3.getLsbD (48 + i - 24) = false from BitVec.getLsbD_of_ge _ _ (by omega), show ¬ (48 + i < 24) by omega, show b4.getLsbD (48 + i - 32) = false from BitVec.getLsbD_of_ge _ _ (by omega), show ¬ (48 + i < 32) by omega, show b5.getLsbD (48 + i - 40) = false from BitVec.getLsbD_of_ge _ _ (by omega), show ¬ (48 + i < 40) by omega, show 48 + i - 48 = i by omega, show ¬ (48 + i < 48) by omega, show 48 + i < 64 by omega, show 48 + i < 56 by omega, show i < 64 by omega]
theorem le64_part7 (b0 b1 b2 b3 b4 b5 b6 b7 : BitVec 8) : ((((((((((0#64 ||| b0.setWidth 64 <<< 0) ||| b1.setWidth 64 <<< 8) ||| b2.setWidth 64 <<< 16) ||| b3.setWidth 64 <<< 24) ||| b4.setWidth 64 <<< 32) ||| b5.setWidth 64 <<< 40) ||| b6.setWidth 64 <<< 48) ||| b7.setWidth 64 <<< 56)) >>> 56).setWidth 8 = b7 := by
 apply BitVec.eq_of_getLsbD_eq
 intro i hi
 simp only [BitVec.getLsbD_setWidth, BitVec.getLsbD_or, BitVec.getLsbD_shiftLeft, BitVec.getLsbD_ushiftRight, BitVec.getLsbD_zero, hi]
 simp [show b0.getLsbD (56 + i) = false from BitVec.getLsbD_of_ge _ _ (by omega), show b1.getLsbD (56 + i - 8) = false from BitVec.getLsbD_of_ge _ _ (by omega), show ¬ (56 + i < 8) by omega, show b2.getLsbD (56 + i - 16) = false from BitVec.getLsbD_of_ge _ _ (by omega), show ¬ (56 + i < 16) by omega, show b3.getLsbD (56 + i - 24) = false from BitVec.getLsbD_of_ge _ _ (by omega), show ¬ (56 + i < 24) by omega, show b4.getLsbD (56 + i - 32) = false from BitVec.getLsbD_of_ge _ _ (by omega), show ¬ (56 + i < 32) by omega, show b5.getLsbD (56 + i - 40) = false from BitVec.getLsbD_of_ge _ _ (by omega), show ¬ (56 + i < 40) by omega, show b6.getLsbD (56 + i - 48) = false from BitVec.getLsbD_of_ge _ _ (by omega), show ¬ (56 + i < 48) by omega, show 56 + i - 56 = i by omega, show ¬ (56 + i < 56) by omega, show 56 + i < 64 by omega, show i < 64 by omega]
theorem le64_long (l : List (BitVec 8)) (p : Nat) : le64 (long l p) = [nth l (p + 0), nth l (p + 1), nth l (p + 2), nth l (p + 3), nth l (p + 4), nth l (p + 5), nth l (p + 6), nth l (p + 7)] := by
 rw [show long l p = ((((((((0#64 ||| (nth l (p + 0)).setWidth 64 <<< 0) ||| (nth l (p + 1)).setWidth 64 <<< 8) ||| (nth l (p + 2)).setWidth 64 <<< 16) ||| (nth l (p + 3)).setWidth 64 <<< 24) ||| (nth l (p + 4)).setWidth 64 <<< 32) ||| (nth l (p + 5)).setWidth 64 <<< 40) ||| (nth l (p + 6)).setWidth 64 <<< 48) ||| (nth l (p + 7)).setWidth 64 <<< 56) from rfl, le64]
 simp only [le64_part0, le64_part1, le64_part2, le64_part3, le64_part4, le64_part5, le64_part6, le64_part7]
theorem bytesW_wideN (l : List (BitVec 8)) (h : l.length = 16) : bytesW (wideN l) = l := by
 unfold bytesW wideN
 rw [le64_long, le64_long]
 match l, h with
 | [a0, a1, a2, a3, a4, a5, a6, a7, a8, a9, a10, a11, a12, a13, a14, a15], _ => rfl
def aesA (key : List (BitVec 8)) : List (BitVec 8) := sch 8 ((ownA key).take 32) 52
def hashA (key : List (BitVec 8)) : List (BitVec 8) := (ownA key).drop 32
def bulkA (M : List (BitVec 8)) : List (BitVec 8) := M.take (M.length - 16)
def rightA (M : List (BitVec 8)) : W2 := wideN (M.drop (M.length - 16))
def joinA (key tw B : List (BitVec 8)) (mid x : W2) : List (BitVec 8) :=
 cryptOf key (nonceW mid) 12 B ++ bytesW (subW2 x (sumN (hashA key) tw (cryptOf key (nonceW mid) 12 B)))
def midE (key tw M : List (BitVec 8)) : W2 := wideN (encS (aesA key) 15 (bytesW (addW2 (rightA M) (sumN (hashA key) tw (bulkA M)))))
def midD (key tw M : List (BitVec 8)) : W2 := addW2 (rightA M) (sumN (hashA key) tw (bulkA M))
def encA (key tw M : List (BitVec 8)) : List (BitVec 8) := joinA key tw (bulkA M) (midE key tw M) (midE key tw M)
def decA (key tw M : List (BitVec 8)) : List (BitVec 8) := joinA key tw (bulkA M) (midD key tw M) (wideN (decS (aesA key) 15 (bytesW (midD key tw M))))
theorem cryA_length (key nonce : List (BitVec 8)) (r : Nat) (b : List (BitVec 8)) : (cryptOf key nonce r b).length = b.length := by simp [cryptOf, streamOf]
theorem joinA_length (key tw B : List (BitVec 8)) (mid x : W2) : (joinA key tw B mid x).length = B.length + 16 := by
 rw [joinA, List.length_append, cryA_length, bytesW_length]
theorem encA_length (key tw M : List (BitVec 8)) (h : 16 ≤ M.length) : (encA key tw M).length = M.length := by
 rw [encA, joinA_length, bulkA, List.length_take]; omega
theorem decA_length (key tw M : List (BitVec 8)) (h : 16 ≤ M.length) : (decA key tw M).length = M.length := by
 rw [decA, joinA_length, bulkA, List.length_take]; omega
end Go.Proofs.YtfdkmjegcghieaaGreatDoor
