/- the field of 256 elements, AES's boxes, rounds and round keys, as plain functions; each step of a round has its way back. No program in sight. -/
import Derived.Test.YtpifdkkhdgbcdaaGreatDoorMGa
namespace Go.Proofs.YtpifdkkhdgbcdaaGreatDoor
set_option linter.unusedSimpArgs false
set_option maxRecDepth 100000
set_option maxHeartbeats 1600000
open Go.RowKit
def dbl (a : BitVec 8) : BitVec 8 := a <<< 1 ^^^ (a >>> 7) * 27#8
def gm : Nat → BitVec 8 → BitVec 8 → BitVec 8
 | 0, _, _ => 0
 | k + 1, a, b => (a * (b &&& 1#8)) ^^^ gm k (dbl a) (b >>> 1)
def gmul (a b : BitVec 8) : BitVec 8 := gm 8 a b
theorem and_one (b : BitVec 8) : b &&& 1#8 = if b.getLsbD 0 then 1 else 0 := by
 revert b; exact of_decide_eq_true (by kernel_rfl)
theorem mul_bit (a b : BitVec 8) : a * (b &&& 1#8) = if b.getLsbD 0 then a else 0 := by
 rw [and_one]; split
 ·exact BitVec.mul_one a
 ·exact BitVec.mul_zero
theorem gm_zero : ∀ (k : Nat) (a : BitVec 8), gm k a 0 = 0
 | 0, _ => rfl
 | k + 1, a => by
  unfold gm
  rw [show (0 : BitVec 8) >>> 1 = 0 from rfl, gm_zero k, mul_bit]; simp
def boxT : List (BitVec 8) := [99, 124, 119, 123, 242, 107, 111, 197, 48, 1, 103, 43, 254, 215, 171, 118, 202, 130, 201, 125, 250, 89, 71, 240, 173, 212, 162, 175, 156, 164, 114, 192, 183, 253, 147, 38, 54, 63, 247, 204, 52, 165, 229, 241, 113, 216, 49, 21, 4, 199, 35, 195, 24, 150, 5, 154, 7, 18, 128, 226, 235, 39, 178, 117, 9, 131, 44, 26, 27, 110, 90, 160, 82, 59, 214, 179, 41, 227, 47, 132, 83, 209, 0, 237, 32, 252, 177, 91, 106, 203, 190, 57, 74, 76, 88, 207, 208, 239, 170, 251, 67, 77, 51, 133, 69, 249, 2, 127, 80, 60, 159, 168, 81, 163, 64, 143, 146, 157, 56, 245, 188, 182, 218, 33, 16, 255, 243, 210, 205, 12, 19, 236, 95, 151, 68, 23, 196, 167, 126, 61, 100, 93, 25, 115, 96, 129, 79, 220, 34, 42, 144, 136, 70, 238, 184, 20, 222, 94, 11, 219, 224, 50, 58, 10, 73, 6, 36, 92, 194, 211, 172, 98, 145, 149, 228, 121, 231, 200, 55, 109, 141, 213, 78, 169, 108, 86, 244, 234, 101, 122, 174, 8, 186, 120, 37, 46, 28, 166, 180, 198, 232, 221, 116, 31, 75, 189, 139, 138, 112, 62, 181, 102, 72, 3, 246, 14, 97, 53, 87, 185, 134, 193, 29, 158, 225, 248, 152, 17, 105, 217, 142, 148, 155, 30, 135, 233, 206, 85, 40, 223, 140, 161, 137, 13, 191, 230, 66, 104, 65, 153, 45, 15, 176, 84, 187, 22]
def backT : List (BitVec 8) := [82, 9, 106, 213, 48, 54, 165, 56, 191, 64, 163, 158, 129, 243, 215, 251, 124, 227, 57, 130, 155, 47, 255, 135, 52, 142, 67, 68, 196, 222, 233, 203, 84, 123, 148, 50, 166, 194, 35, 61, 238, 76, 149, 11, 66, 250, 195, 78, 8, 46, 161, 102, 40, 217, 36, 178, 118, 91, 162, 73, 109, 139, 209, 37, 114, 248, 246, 100, 134, 104, 152, 22, 212, 164, 92, 204, 93, 101, 182, 146, 108, 112, 72, 80, 253, 237, 185, 218, 94, 21, 70, 87, 167, 141, 157, 132, 144, 216, 171, 0, 140, 188, 211, 10, 247, 228, 88, 5, 184, 179, 69, 6, 208, 44, 30, 143, 202, 63, 15, 2, 193, 175, 189, 3, 1, 19, 138, 107, 58, 145, 17, 65, 79, 103, 220, 234, 151, 242, 207, 206, 240, 180, 230, 115, 150, 172, 116, 34, 231, 173, 53, 133, 226, 249, 55, 232, 28, 117, 223, 110, 71, 241, 26, 113, 29, 41, 197, 137, 111, 183, 98, 14, 170, 24, 190, 27, 252, 86, 62, 75, 198, 210, 121, 32, 154, 219, 192, 254, 120, 205, 90, 244, 31, 221, 168, 51, 136, 7, 199, 49, 177, 18, 16, 89, 39, 128, 236, 95, 96, 81, 127, 169, 25, 181, 74, 13, 45, 229, 122, 159, 147, 201, 156, 239, 160, 224, 59, 77, 174, 42, 245, 176, 200, 235, 187, 60, 131, 83, 153, 97, 23, 43, 4, 126, 186, 119, 214, 38, 225, 105, 20, 99, 85, 33, 12, 125]
theorem boxT_length : boxT.length = 256 := by kernel_rfl
theorem backT_length : backT.length = 256 := by kernel_rfl
def box (a : BitVec 8) : BitVec 8 := nth boxT a.toNat
def r16 (f : Nat → BitVec 8) : List (BitVec 8) := (List.range 16).map f
@[simp] theorem r16_length (f : Nat → BitVec 8) : (r16 f).length = 16 := by simp [r16]
theorem nth_r16 (f : Nat → BitVec 8) (i : Nat) (h : i < 16) : nth (r16 f) i = f i := by simp [nth, r16, List.getD_eq_getElem?_getD, h]
theorem r16_nth (l : List (BitVec 8)) (h : l.length = 16) : r16 (fun i => nth l i) = l := by
 apply ext_nth
 ·rw [r16_length, h]
 ·intro i hi; rw [r16_length] at hi; exact nth_r16 _ _ hi
theorem r16_ext {f g : Nat → BitVec 8} (h : ∀ i, i < 16 → f i = g i) : r16 f = r16 g := by
 apply List.map_congr_left
 intro i hi; exact h i (by simpa using hi)
def xor16 (a b : List (BitVec 8)) : List (BitVec 8) := r16 fun i => nth a i ^^^ nth b i
def sub16 (f : BitVec 8 → BitVec 8) (b : List (BitVec 8)) : List (BitVec 8) := r16 fun i => f (nth b i)
def shp (i : Nat) : Nat := 4 * ((i / 4 + i % 4) % 4) + i % 4
def shift16 (b : List (BitVec 8)) : List (BitVec 8) := r16 fun i => nth b (shp i)
def mixB (m : List (BitVec 8)) (b : List (BitVec 8)) (i k : Nat) : BitVec 8 := gmul (nth m ((k + 4 - i % 4) % 4)) (nth b (i / 4 * 4 + k))
def mix16 (m : List (BitVec 8)) (b : List (BitVec 8)) : List (BitVec 8) := r16 fun i => mixB m b i 0 ^^^ mixB m b i 1 ^^^ mixB m b i 2 ^^^ mixB m b i 3
def mixM : List (BitVec 8) := [2, 3, 1, 1]
def unmixM : List (BitVec 8) := [14, 11, 13, 9]
def roundS (b k : List (BitVec 8)) : List (BitVec 8) := xor16 (mix16 mixM (shift16 (sub16 box b))) k
def lastS (b k : List (BitVec 8)) : List (BitVec 8) := xor16 (shift16 (sub16 box b)) k
@[simp] theorem xor16_length (a b : List (BitVec 8)) : (xor16 a b).length = 16 := by simp [xor16]
@[simp] theorem shift16_length (b : List (BitVec 8)) : (shift16 b).length = 16 := by simp [shift16]
@[simp] theorem roundS_length (b k : List (BitVec 8)) : (roundS b k).length = 16 := by simp [roundS]
@[simp] theorem lastS_length (b k : List (BitVec 8)) : (lastS b k).length = 16 := by simp [lastS]
end Go.Proofs.YtpifdkkhdgbcdaaGreatDoor
