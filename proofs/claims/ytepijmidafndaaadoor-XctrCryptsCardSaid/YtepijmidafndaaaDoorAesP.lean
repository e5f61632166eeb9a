/- what the laws of AES say of the schedule and of rounds (plain) -/
import Derived.Test.YtepijmidafndaaaDoorGh
namespace Go.Proofs.YtepijmidafndaaaDoor
open Go.RowKit
theorem sch_grows (n : Nat) (key : List (BitVec 8)) (k : Nat) : ∀ j, ∃ t, sch n key (k + j) = sch n key k ++ t
  | 0 => ⟨[], by simp⟩
  | j + 1 => by
    obtain ⟨t, ht⟩ := sch_grows n key k j
    exact ⟨_, by rw [← Nat.add_assoc, sch, ht, List.append_assoc]⟩
theorem nth_sch (n : Nat) (key : List (BitVec 8)) (k j i : Nat) (h : i < (sch n key k).length) : nth (sch n key (k + j)) i = nth (sch n key k) i := by
  obtain ⟨t, ht⟩ := sch_grows n key k j
  rw [ht, nth_append, if_pos h]
theorem sch_first (n : Nat) (key : List (BitVec 8)) (k i : Nat) (h : i < key.length) : nth (sch n key k) i = nth key i := by
  have := nth_sch n key 0 k i h
  rw [Nat.zero_add] at this
  exact this
theorem nth_keyAt (L : List (BitVec 8)) (j i : Nat) (h : i < 16) : nth (keyAt L j) i = nth L (16 * j + i) := by
  rw [keyAt, nth_take _ _ _ h, nth_drop, Nat.mul_comm]
theorem nth_wordAt (L : List (BitVec 8)) (j i : Nat) (h : i < 4) : nth (wordAt L j) i = nth L (4 * j + i) := by
  rw [wordAt, nth_take _ _ _ h, nth_drop, Nat.mul_comm]
theorem nth_xor4 (a b : List (BitVec 8)) (i : Nat) (h : i < 4) : nth (xor4 a b) i = nth a i ^^^ nth b i := by
  have : i = 0 ∨ i = 1 ∨ i = 2 ∨ i = 3 := by omega
  rcases this with rfl | rfl | rfl | rfl <;> rfl
/-- a word that is not turned -/
theorem sch_word (n : Nat) (key : List (BitVec 8)) (hk : key.length = 4 * n) (M i r : Nat) (h1 : n ≤ i) (h2 : i < n + M) (hr : r < 4) (hn : 0 < n) (ha : ¬ i % n = 0) (hb : ¬ (n = 8 ∧ i % 8 = 4)) :
    nth (sch n key M) (4 * i + r) = nth (sch n key M) (4 * (i - 1) + r) ^^^ nth (sch n key M) (4 * (i - n) + r) := by
  have hs : ∀ k t, t < 4 * (n + k) → k ≤ M → nth (sch n key M) t = nth (sch n key k) t := by
    intro k t ht hkM
    have := nth_sch n key k (M - k) t (by rw [sch_length n key hk]; exact ht)
    rwa [Nat.add_sub_cancel' hkM] at this
  obtain ⟨j, hj⟩ : ∃ j, j = i - n := ⟨_, rfl⟩
  rw [hs (j + 1) (4 * i + r) (by omega) (by omega), hs j (4 * (i - 1) + r) (by omega) (by omega), hs j (4 * (i - n) + r) (by omega) (by omega)]
  rw [sch, nth_append, sch_length n key hk, if_neg (by omega), show 4 * i + r - 4 * (n + j) = r by omega, nth_xor4 _ _ _ hr, nth_wordAt _ _ _ hr, stepW, if_neg (by rw [show n + j = i by omega]; exact ha), if_neg (by rw [show n + j = i by omega]; exact hb), nth_wordAt _ _ _ hr, show n + j - 1 = i - 1 by omega, ← hj, BitVec.xor_comm]
theorem rnds_bare (L : List (BitVec 8)) (m : Nat) (b : List (BitVec 8)) (j : Nat) (hj : j + 2 < m) (hL : L.length = m * 16) : rnds (midKeys L m) b (j + 1) = roundS (rnds (midKeys L m) b j) (keyAt L (j + 1)) := by
  rw [rnds, mid_keyAt L m j hj hL]
theorem enc_inj_aes (L : List (BitVec 8)) (m : Nat) (a b : List (BitVec 8)) (ha : a.length = 16) (hb : b.length = 16) (hL : L.length = m * 16) (hm : 3 ≤ m) : encS L m a = encS L m b ↔ a = b := by
  constructor
  · intro h
    rw [← dec_enc_aes L m a ha hL hm, h, dec_enc_aes L m b hb hL hm]
  · intro h; rw [h]
theorem encS_length (L : List (BitVec 8)) (m : Nat) (b : List (BitVec 8)) : (encS L m b).length = 16 := lastS_length _ _
theorem decS_length (L : List (BitVec 8)) (m : Nat) (b : List (BitVec 8)) : (decS L m b).length = 16 := xor16_length _ _
/-- the schedule of a key of so many bytes -/
def schK (key : List (BitVec 8)) : List (BitVec 8) := sch (key.length / 4) key (3 * (key.length / 4) + 28)
theorem schK_length (key : List (BitVec 8)) (h : key.length = 16 ∨ key.length = 24 ∨ key.length = 32) : (schK key).length = (key.length / 4 + 7) * 16 := by
  rw [schK, sch_length _ _ (by omega)]; omega
/-- the example of the chapter -/
theorem awake_block : (fun b : List (BitVec 8) => (nth b 0, nth b 1, nth b 15)) (encS (sch 4 (zeros 8 16) 40) 11 (zeros 8 16)) = (102#8, 233#8, 46#8) := by kernel_rfl
end Go.Proofs.YtepijmidafndaaaDoor
