/- ChachaHalf: what the walk needs (plain). -/
import Derived.Test.YthogbbigglmapaaWord
namespace Go.Proofs.Ythogbbigglmapaa
theorem nth_sumTo (t s : List (BitVec 32)) (k : Nat) (hk : k < t.length) : ∀ j, j ≤ t.length → nth (sumTo t s j) k = if k < j then nth t k + nth s k else nth t k
  | 0, _ => by simp [sumTo]
  | j + 1, h => by
    rw [sumTo, nth_set _ _ _ _ (by rw [sumTo_length]; omega)]
    by_cases e : j = k
    · subst e
      rw [if_pos rfl, if_pos (by omega), nth_sumTo t s j hk j (by omega), if_neg (by omega)]
    · rw [if_neg e, nth_sumTo t s k hk j (by omega)]
      by_cases h1 : k < j
      · rw [if_pos h1, if_pos (by omega)]
      · rw [if_neg h1, if_neg (by omega)]
theorem word_block (s : List (BitVec 32)) (n k : Nat) (hs : s.length = 16) (hk : k < 16) : word (blockOf s n) (4 * k) = nth (mixTo s n) k + nth s k := by
  rw [blockOf, word_bytes32, nth_sumTo _ _ _ (by rw [mixTo_length, hs]; exact hk) 16 (by rw [mixTo_length, hs]; omega), if_pos hk]
theorem word_short (t : List (BitVec 32)) (i : Nat) (ht : t.length = 16) (hi : i < 8) : word (shortOf t) (4 * i) = nth t (if i < 4 then i else i + 8) := by
  rw [shortOf, ← bytes32_append, word_bytes32, nth_append]
  have hl : (t.take 4).length = 4 := by simp [ht]
  rw [hl]
  by_cases h : i < 4
  · rw [if_pos h, if_pos h, nth_take _ _ _ h]
  · rw [if_neg h, if_neg h, nth_drop]
    congr 1
    omega
end Go.Proofs.Ythogbbigglmapaa
