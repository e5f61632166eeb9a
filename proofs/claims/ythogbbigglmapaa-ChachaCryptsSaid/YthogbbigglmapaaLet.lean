/- chacha: the first state is the letters, the key and the input; plain -/
import Derived.Test.YthogbbigglmapaaWord
import Derived.Test.YthogbbigglmapaaHalf
import Derived.Test.YthogbbigglmapaaCha5
namespace Go.Proofs.Ythogbbigglmapaa
open Go.RowKit
set_option linter.unusedSimpArgs false in
theorem le32_word (l : List (BitVec 8)) (p : Nat) : le32 (word l p) = [nth l p, nth l (p + 1), nth l (p + 2), nth l (p + 3)] := by
  unfold le32 word
  simp only [gath]
  generalize nth l (p + 0) = a
  generalize nth l (p + 1) = b
  generalize nth l (p + 2) = c
  generalize nth l (p + 3) = d
  have ge : ∀ (x : BitVec 8) (i : Nat), 8 ≤ i → x.getLsbD i = false := fun x i h => BitVec.getLsbD_of_ge _ _ h
  have e0 : BitVec.setWidth 8 (BitVec.setWidth 32 (0#64 ||| BitVec.setWidth 64 a <<< (8 * 0) ||| BitVec.setWidth 64 b <<< (8 * 1) ||| BitVec.setWidth 64 c <<< (8 * 2) ||| BitVec.setWidth 64 d <<< (8 * 3))) = a := by
    apply BitVec.eq_of_getLsbD_eq
    intro i hi
    simp only [BitVec.getLsbD_setWidth, BitVec.getLsbD_or, BitVec.getLsbD_shiftLeft, BitVec.getLsbD_ushiftRight, BitVec.getLsbD_zero, hi]
    simp [show i < 32 by omega, show i < 64 by omega, show i < 8 by omega, show i < 16 by omega, show i < 24 by omega]
  have e1 : BitVec.setWidth 8 (BitVec.setWidth 32 (0#64 ||| BitVec.setWidth 64 a <<< (8 * 0) ||| BitVec.setWidth 64 b <<< (8 * 1) ||| BitVec.setWidth 64 c <<< (8 * 2) ||| BitVec.setWidth 64 d <<< (8 * 3)) >>> 8) = b := by
    apply BitVec.eq_of_getLsbD_eq
    intro i hi
    simp only [BitVec.getLsbD_setWidth, BitVec.getLsbD_or, BitVec.getLsbD_shiftLeft, BitVec.getLsbD_ushiftRight, BitVec.getLsbD_zero, hi]
    simp [show 8 + i < 32 by omega, show 8 + i < 64 by omega, show ¬ (8 + i < 8) by omega, show 8 + i < 16 by omega, show 8 + i < 24 by omega, show 8 + i - 8 < 64 by omega, show 8 + i - 8 = i by omega, ge a (8 + i) (by omega)]
    intro _; omega
  have e2 : BitVec.setWidth 8 (BitVec.setWidth 32 (0#64 ||| BitVec.setWidth 64 a <<< (8 * 0) ||| BitVec.setWidth 64 b <<< (8 * 1) ||| BitVec.setWidth 64 c <<< (8 * 2) ||| BitVec.setWidth 64 d <<< (8 * 3)) >>> 16) = c := by
    apply BitVec.eq_of_getLsbD_eq
    intro i hi
    simp only [BitVec.getLsbD_setWidth, BitVec.getLsbD_or, BitVec.getLsbD_shiftLeft, BitVec.getLsbD_ushiftRight, BitVec.getLsbD_zero, hi]
    simp [show 16 + i < 32 by omega, show 16 + i < 64 by omega, show ¬ (16 + i < 8) by omega, show ¬ (16 + i < 16) by omega, show 16 + i < 24 by omega, show 16 + i - 8 < 64 by omega, show 16 + i - 16 < 64 by omega, show 16 + i - 16 = i by omega, ge a (16 + i) (by omega), ge b (16 + i - 8) (by omega)]
    intro _; omega
  have e3 : BitVec.setWidth 8 (BitVec.setWidth 32 (0#64 ||| BitVec.setWidth 64 a <<< (8 * 0) ||| BitVec.setWidth 64 b <<< (8 * 1) ||| BitVec.setWidth 64 c <<< (8 * 2) ||| BitVec.setWidth 64 d <<< (8 * 3)) >>> 24) = d := by
    apply BitVec.eq_of_getLsbD_eq
    intro i hi
    simp only [BitVec.getLsbD_setWidth, BitVec.getLsbD_or, BitVec.getLsbD_shiftLeft, BitVec.getLsbD_ushiftRight, BitVec.getLsbD_zero, hi]
    simp [show 24 + i < 32 by omega, show 24 + i < 64 by omega, show ¬ (24 + i < 8) by omega, show ¬ (24 + i < 16) by omega, show ¬ (24 + i < 24) by omega, show 24 + i - 8 < 64 by omega, show 24 + i - 16 < 64 by omega, show 24 + i - 24 < 64 by omega, show 24 + i - 24 = i by omega, ge a (24 + i) (by omega), ge b (24 + i - 8) (by omega), ge c (24 + i - 16) (by omega)]
    intro _; omega
  rw [e0, e1, e2, e3]
theorem take4 (l : List (BitVec 8)) (p : Nat) (h : p + 4 ≤ l.length) : (l.drop p).take 4 = [nth l p, nth l (p + 1), nth l (p + 2), nth l (p + 3)] := by
  apply ext_nth
  · simp; omega
  · intro i hi
    have hi4 : i < 4 := by simp at hi; omega
    rw [nth_take _ _ _ hi4, nth_drop]
    have : i = 0 ∨ i = 1 ∨ i = 2 ∨ i = 3 := by omega
    rcases this with rfl | rfl | rfl | rfl <;> rfl
theorem startTo_lit (key inp : List (BitVec 8)) : startTo key inp 4 = [word letters 0, word letters 4, word letters 8, word letters 12, word key 0, word key 4, word key 8, word key 12, word key 16, word key 20, word key 24, word key 28, word inp 0, word inp 4, word inp 8, word inp 12] := rfl
theorem start_bytes (key inp : List (BitVec 8)) (hk : key.length = 32) (hi : inp.length = 16) (j : Nat) (hj : j < 16) : le32 (nth (startTo key inp 4) j) = ((letters ++ key ++ inp).drop (4 * j)).take 4 := by
  have hl : letters.length = 16 := rfl
  have hlen : (letters ++ key ++ inp).length = 64 := by simp [hk, hi, hl]
  rw [take4 _ _ (by rw [hlen]; omega), startTo_lit]
  have : j = 0 ∨ j = 1 ∨ j = 2 ∨ j = 3 ∨ j = 4 ∨ j = 5 ∨ j = 6 ∨ j = 7 ∨ j = 8 ∨ j = 9 ∨ j = 10 ∨ j = 11 ∨ j = 12 ∨ j = 13 ∨ j = 14 ∨ j = 15 := by omega
  rcases this with rfl | rfl | rfl | rfl | rfl | rfl | rfl | rfl | rfl | rfl | rfl | rfl | rfl | rfl | rfl | rfl <;>
    (show le32 (word _ _) = _; rw [le32_word]; simp [nth_append, hk, hl])
end Go.Proofs.Ythogbbigglmapaa
