/- names (plain): padded ones, and back -/
import Derived.Test.YtpifdkkhdgbcdaaGreatDoorMGa
namespace Go.Proofs.YtpifdkkhdgbcdaaGreatDoor
set_option linter.unusedSimpArgs false
set_option maxRecDepth 100000
set_option maxHeartbeats 1600000
def nroomN (n p : Nat) : Nat := min ((n + p - 1) / p * p) 255
def npadN (s : List (BitVec 8)) (p : Nat) : List (BitVec 8) := s ++ zeros 8 (nroomN s.length p - s.length)
def nrightN (s : List (BitVec 8)) : Prop := 1 ≤ s.length ∧ s.length ≤ 255 ∧ ∀ i, i < s.length → nth s i ≠ 0#8
instance (s : List (BitVec 8)) : Decidable (nrightN s) := inferInstanceAs (Decidable (_ ∧ _ ∧ _))
def nlongN (n p : Nat) : Prop := 1 ≤ n ∧ n ≤ 255 ∧ (n % p = 0 ∨ n = 255)
instance (n p : Nat) : Decidable (nlongN n p) := inferInstanceAs (Decidable (_ ∧ _ ∧ _))
def padOk (p : Nat) : Prop := p = 16 ∨ p = 32 ∨ p = 64
instance (p : Nat) : Decidable (padOk p) := inferInstanceAs (Decidable (_ ∨ _ ∨ _))
def lastN (b : List (BitVec 8)) : Nat → Nat
 | 0 => 0
 | k + 1 => if nth b k = 0#8 then lastN b k else k + 1
def cutN (b : List (BitVec 8)) : List (BitVec 8) := b.take (lastN b b.length)
theorem nroomN_ge (n p : Nat) (hp : padOk p) (hn : n ≤ 255) : n ≤ nroomN n p := by
 unfold nroomN
 rcases hp with rfl | rfl | rfl <;> omega
theorem nroomN_long (n p : Nat) (hp : padOk p) (h1 : 1 ≤ n) (hn : n ≤ 255) : nlongN (nroomN n p) p := by
 unfold nroomN nlongN
 rcases hp with rfl | rfl | rfl <;> omega
theorem npadN_length (s : List (BitVec 8)) (p : Nat) (hp : padOk p) (h : s.length ≤ 255) : (npadN s p).length = nroomN s.length p := by
 have := nroomN_ge s.length p hp h
 rw [npadN, List.length_append, zeros_length]; omega
theorem lastN_le (b : List (BitVec 8)) : ∀ k, lastN b k ≤ k
 | 0 => Nat.le_refl _
 | k + 1 => by
  unfold lastN
  split
  ·exact Nat.le_succ_of_le (lastN_le b k)
  ·exact Nat.le_refl _
theorem lastN_zero (b : List (BitVec 8)) : ∀ k i, lastN b k ≤ i → i < k → nth b i = 0#8
 | 0, i, _, h => by omega
 | k + 1, i, h, hi => by
  unfold lastN at h
  split at h
  ·rename_i e
   by_cases hk : i = k
   ·rw [hk]; exact e
   ·exact lastN_zero b k i h (by omega)
  ·omega
theorem lastN_last (b : List (BitVec 8)) : ∀ k, 0 < lastN b k → nth b (lastN b k - 1) ≠ 0#8
 | 0, h => by cases h
 | k + 1, h => by
  unfold lastN at h ⊢
  split
  ·rename_i e
   rw [if_pos e] at h
   exact lastN_last b k h
  ·rename_i e
   exact e
theorem cutN_length (b : List (BitVec 8)) : (cutN b).length = lastN b b.length := by
 have := lastN_le b b.length
 rw [cutN, List.length_take]; omega
theorem cutN_zeros (b : List (BitVec 8)) : cutN b ++ zeros 8 (b.length - (cutN b).length) = b := by
 have hle := lastN_le b b.length
 have hl := cutN_length b
 apply ext_nth
 ·rw [List.length_append, zeros_length]; omega
 ·intro i hi
  rw [List.length_append, zeros_length] at hi
  rw [nth_append, hl]
  split
  ·rename_i h
   rw [cutN, nth_take _ _ _ h]
  ·rename_i h
   rw [nth_zeros, lastN_zero b b.length i (by omega) (by omega)]
theorem lastN_pad (s : List (BitVec 8)) (m : Nat) (h : s ≠ []) (hl : nth s (s.length - 1) ≠ 0#8) : ∀ k, s.length ≤ k → k ≤ s.length + m → lastN (s ++ zeros 8 m) k = s.length
 | 0, h1, _ => by
  have := List.length_pos_iff.2 h
  omega
 | k + 1, h1, h2 => by
  unfold lastN
  rw [nth_append]
  by_cases e : k < s.length
  ·have hk : k = s.length - 1 := by omega
   rw [if_pos e, hk, if_neg hl]; omega
  ·rw [if_neg e, nth_zeros, if_pos rfl]
   exact lastN_pad s m h hl k (by omega) (by omega)
theorem cutN_pad (s : List (BitVec 8)) (p : Nat) (h : nrightN s) : cutN (npadN s p) = s := by
 obtain ⟨h1, h2, h3⟩ := h
 have hne : s ≠ [] := by intro e; rw [e] at h1; simp at h1
 have hl : lastN (npadN s p) (npadN s p).length = s.length := lastN_pad s (nroomN s.length p - s.length) hne (h3 _ (by omega)) (npadN s p).length (by rw [npadN, List.length_append]; omega) (by rw [npadN, List.length_append, zeros_length]; omega)
 rw [cutN, hl, npadN, List.take_left' rfl]
def plainOk (b : List (BitVec 8)) (p : Nat) : Prop := nrightN (cutN b) ∧ nroomN (cutN b).length p = b.length
instance (b : List (BitVec 8)) (p : Nat) : Decidable (plainOk b p) := inferInstanceAs (Decidable (_ ∧ _))
theorem plain_pad (b : List (BitVec 8)) (p : Nat) (h : plainOk b p) : npadN (cutN b) p = b := by
 have hc := cutN_zeros b
 rw [npadN, h.2, hc]
theorem plainOk_pad (s : List (BitVec 8)) (p : Nat) (hp : padOk p) (h : nrightN s) : plainOk (npadN s p) p := by
 unfold plainOk
 rw [cutN_pad s p h, npadN_length s p hp h.2.1]
 exact ⟨h, rfl⟩
theorem npadN_inj (s t : List (BitVec 8)) (p : Nat) (hs : nrightN s) (ht : nrightN t) (h : npadN s p = npadN t p) : s = t := by
 rw [← cutN_pad s p hs, h, cutN_pad t p ht]
def noZero (s : List (BitVec 8)) : Bool := s.all fun b => b != 0#8
theorem noZero_iff (s : List (BitVec 8)) : noZero s = true ↔ ∀ i, i < s.length → nth s i ≠ 0#8 := by
 unfold noZero
 rw [List.all_eq_true]
 constructor
 ·intro h i hi
  have := h (nth s i) (by rw [← nth_get hi]; exact List.getElem_mem hi)
  simpa using this
 ·intro h b hb
  obtain ⟨i, hi, rfl⟩ := List.getElem_of_mem hb
  have := h i hi
  rw [nth_get hi]
  simpa using this
theorem nrightN_iff (s : List (BitVec 8)) : nrightN s ↔ 1 ≤ s.length ∧ s.length ≤ 255 ∧ noZero s = true := by
 rw [noZero_iff]; exact Iff.rfl
def rupN (n p : Nat) : Nat := (n + p - 1) / p * p - n
def rpadN (s : List (BitVec 8)) (p : Nat) : List (BitVec 8) :=
 if (s ++ zeros 8 (rupN s.length p)).length = 256 then (s ++ zeros 8 (rupN s.length p)).take 255 else s ++ zeros 8 (rupN s.length p)
theorem rpadN_eq (s : List (BitVec 8)) (p : Nat) (hp : padOk p) (h1 : 1 ≤ s.length) (h2 : s.length ≤ 255) : rpadN s p = npadN s p := by
 have hr : s.length + rupN s.length p ≤ 256 := by unfold rupN; rcases hp with rfl | rfl | rfl <;> omega
 have hm : nroomN s.length p = min (s.length + rupN s.length p) 255 := by unfold nroomN rupN; rcases hp with rfl | rfl | rfl <;> omega
 unfold rpadN npadN
 rw [hm, List.length_append, zeros_length]
 split
 ·rename_i h
  rw [List.take_append, List.take_of_length_le h2, zeros, zeros, List.take_replicate]
  congr 2
  omega
 ·rename_i h
  congr 2
  omega
end Go.Proofs.YtpifdkkhdgbcdaaGreatDoor
