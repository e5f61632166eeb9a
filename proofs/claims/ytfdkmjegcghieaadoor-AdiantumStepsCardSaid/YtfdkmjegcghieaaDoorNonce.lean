/- a nonce, byte by byte -/
import Derived.Test.YtfdkmjegcghieaaDoorHj
namespace Go.Proofs.YtfdkmjegcghieaaDoor
def nonTo (M : List (BitVec 8)) (j : Nat) : List (BitVec 8) := M.take j ++ zeros 8 (24 - j)
theorem nonTo_zero (M : List (BitVec 8)) : nonTo M 0 = zeros 8 24 := rfl
theorem nonTo_length (M : List (BitVec 8)) (h : M.length = 16) (j : Nat) (hj : j ≤ 16) : (nonTo M j).length = 24 := by
  rw [nonTo, List.length_append, List.length_take, zeros_length]; omega
theorem nonTo_set (M : List (BitVec 8)) (h : M.length = 16) (j : Nat) (hj : j < 16) : (nonTo M j).set j (nth M j) = nonTo M (j + 1) := by
  apply ext_nth
  · rw [List.length_set, nonTo_length _ h _ (by omega), nonTo_length _ h _ (by omega)]
  · intro i hi
    have hi2 : i < 24 := by rwa [List.length_set, nonTo_length _ h _ (by omega)] at hi
    rw [nth_set _ _ _ _ (by rw [nonTo_length _ h _ (by omega)]; omega), nonTo, nonTo, nth_append, nth_append, List.length_take, List.length_take, Nat.min_eq_left (by omega), Nat.min_eq_left (by omega)]
    by_cases e : i = j
    · subst e
      rw [if_pos rfl, if_pos (by omega), nth_take _ _ _ (by omega)]
    · rw [if_neg (Ne.symm e)]
      by_cases hl : i < j
      · rw [if_pos hl, if_pos (by omega), nth_take _ _ _ hl, nth_take _ _ _ (by omega)]
      · rw [if_neg hl, if_neg (by omega), nth_zeros, nth_zeros]
theorem nonTo_full (M : List (BitVec 8)) (h : M.length = 16) : (nonTo M 16).set 16 1#8 = nonceW (wideN M) := by
  rw [nonceW, bytesW_wideN M h, nonTo, List.take_of_length_le (by omega), List.set_append, if_neg (by omega), h]; rfl
end Go.Proofs.YtfdkmjegcghieaaDoor
