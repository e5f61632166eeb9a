/- Words out of bytes and bytes out of words (plain). -/
import Derived.Test.YthogbbigglmapaaOct2
import Derived.Test.YthogbbigglmapaaCha4
import Derived.Test.YthogbbigglmapaaCha6
namespace Go.Proofs.Ythogbbigglmapaa
theorem getLsb_le32 (x : BitVec 32) : ((((0#64 ||| (x.setWidth 8).setWidth 64 <<< 0) ||| ((x >>> 8).setWidth 8).setWidth 64 <<< 8) ||| ((x >>> 16).setWidth 8).setWidth 64 <<< 16) ||| ((x >>> 24).setWidth 8).setWidth 64 <<< 24).setWidth 32 = x := by
  apply BitVec.eq_of_getLsbD_eq
  intro i hi
  simp only [BitVec.getLsbD_setWidth, BitVec.getLsbD_or, BitVec.getLsbD_shiftLeft, BitVec.getLsbD_ushiftRight, BitVec.getLsbD_zero, hi]
  by_cases h1 : i < 8
  · simp [h1, show i < 64 by omega, show i < 16 by omega, show i < 24 by omega]
  · by_cases h2 : i < 16
    · simp [h1, h2, show i < 64 by omega, show i < 24 by omega, show i - 8 < 8 by omega, show i - 8 < 64 by omega, show 8 + (i - 8) = i by omega]
    · by_cases h3 : i < 24
      · simp [h1, h2, h3, show i < 64 by omega, show ¬ (i - 8 < 8) by omega, show i - 16 < 8 by omega, show i - 16 < 64 by omega, show 16 + (i - 16) = i by omega]
      · simp [h1, h2, h3, show i < 64 by omega, show ¬ (i - 8 < 8) by omega, show ¬ (i - 16 < 8) by omega, show i - 24 < 8 by omega, show i - 24 < 64 by omega, show 24 + (i - 24) = i by omega]
theorem nth_bytes32 (l : List (BitVec 32)) (k j : Nat) (hj : j < 4) : nth (bytes32 l) (4 * k + j) = nth (le32 (nth l k)) j := by
  induction l generalizing k with
  | nil =>
    have : nth (le32 (nth ([] : List (BitVec 32)) k)) j = 0#8 := by
      have h0 : nth ([] : List (BitVec 32)) k = 0#32 := rfl
      rw [h0]
      have : j = 0 ∨ j = 1 ∨ j = 2 ∨ j = 3 := by omega
      rcases this with rfl | rfl | rfl | rfl <;> decide
    rw [this]; rfl
  | cons x l ih =>
    rw [bytes32, List.flatMap_cons, ← bytes32, nth_append, le32_length]
    cases k with
    | zero => rw [if_pos (by omega)]; simp [nth]
    | succ k =>
      rw [if_neg (by omega), show 4 * (k + 1) + j - 4 = 4 * k + j by omega, ih]
      simp [nth]
theorem word_bytes32 (l : List (BitVec 32)) (k : Nat) : word (bytes32 l) (4 * k) = nth l k := by
  unfold word
  simp only [gath]
  have h0 := nth_bytes32 l k 0 (by omega)
  have h1 := nth_bytes32 l k 1 (by omega)
  have h2 := nth_bytes32 l k 2 (by omega)
  have h3 := nth_bytes32 l k 3 (by omega)
  rw [h0, h1, h2, h3]
  exact getLsb_le32 (nth l k)
end Go.Proofs.Ythogbbigglmapaa
