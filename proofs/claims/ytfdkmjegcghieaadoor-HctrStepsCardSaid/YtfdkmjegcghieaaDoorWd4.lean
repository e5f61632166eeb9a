/- ring: a table of an element: Make -/
import Derived.Test.YtfdkmjegcghieaaDoorWd2
import Derived.Test.YtfdkmjegcghieaaDoorGo
namespace Go.Proofs.YtfdkmjegcghieaaDoor
open Go.RowKit
/-- pairs of words, one behind the other: those of a function up to a number, noughts behind -/
def flat (f : Nat → W2) (c : Nat) : List (BitVec 64) := (List.range 32).map fun i => if i / 2 < c then (if i % 2 = 0 then (f (i / 2)).1 else (f (i / 2)).2) else 0#64
theorem flat_length (f : Nat → W2) (c : Nat) : (flat f c).length = 32 := by simp [flat]
theorem nth_flat (f : Nat → W2) (c i : Nat) (h : i < 32) : nth (flat f c) i = if i / 2 < c then (if i % 2 = 0 then (f (i / 2)).1 else (f (i / 2)).2) else 0#64 := by
  simp [nth, flat, List.getD_eq_getElem?_getD, h]
theorem flat_one (one : W2) : flat (tabW one) 1 = zeros 64 32 := by
  apply ext_nth
  · rw [flat_length, zeros_length]
  · intro i hi
    rw [flat_length] at hi
    rw [nth_flat _ _ _ hi, nth_zeros]
    by_cases h : i / 2 < 1
    · rw [if_pos h, show i / 2 = 0 by omega]
      have : tabW one 0 = (0#64, 0#64) := by simp [tabW, xorW]
      rw [this]; split <;> rfl
    · rw [if_neg h]
theorem flat_part (f : Nat → W2) (c n : Nat) (hn : n < 16) (hc : n < c) : ((flat f c).drop (2 * n)).take 2 = wl (f n) := by
  apply ext_nth
  · simp [flat_length]; omega
  · intro i hi
    have hi2 : i < 2 := by simp [flat_length] at hi; omega
    rw [nth_take _ _ _ hi2, nth_drop, nth_flat _ _ _ (by omega), if_pos (by omega), show (2 * n + i) / 2 = n by omega]
    have : i = 0 ∨ i = 1 := by omega
    rcases this with rfl | rfl
    · rw [if_pos (by omega)]; rfl
    · rw [if_neg (by omega)]; rfl
theorem flat_splc (f : Nat → W2) (c : Nat) (hc : c < 16) : splc (flat f c) (2 * c) (wl (f c)) = flat f (c + 1) := by
  have hl : 2 * c + (wl (f c)).length ≤ (flat f c).length := by rw [flat_length]; simp; omega
  apply ext_nth
  · rw [splc_length _ _ _ hl, flat_length, flat_length]
  · intro i hi
    rw [splc_length _ _ _ hl, flat_length] at hi
    rw [nth_splc _ _ _ hl, nth_flat _ _ _ hi, nth_flat _ _ _ hi]
    by_cases h : 2 * c ≤ i ∧ i < 2 * c + (wl (f c)).length
    · have h2 : i < 2 * c + 2 := h.2
      rw [if_pos h, if_pos (by omega), show i / 2 = c by omega]
      have : i - 2 * c = 0 ∨ i - 2 * c = 1 := by omega
      rcases this with e | e
      · rw [e, if_pos (by omega)]; rfl
      · rw [e, if_neg (by omega)]; rfl
    · have h2 : ¬ (2 * c ≤ i ∧ i < 2 * c + 2) := h
      rw [if_neg h]
      clear h hl
      by_cases h3 : i / 2 < c
      · have h4 : i / 2 < c + 1 := by omega
        simp only [h3, h4, if_true]
      · have h4 : ¬ i / 2 < c + 1 := by omega
        simp only [h3, h4, if_false]
/-- a table's next entry -/
theorem tabW_next (one : W2) (k i : Nat) (hk : k < 4) (hi : i < 2 ^ k) : plusW (tabW one i) (upN one k) 1#64 = tabW one (2 ^ k + i) := by
  have hx : ∀ a : W2, xorW a (0#64, 0#64) = a := fun a => by simp [xorW]
  have hz : ∀ a : W2, xorW (0#64, 0#64) a = a := fun a => by simp [xorW]
  rw [plusW_one]
  have : k = 0 ∨ k = 1 ∨ k = 2 ∨ k = 3 := by omega
  rcases this with rfl | rfl | rfl | rfl
  · have : i = 0 := by omega
    subst this; simp [tabW, hx, hz, Nat.testBit]
  · have : i = 0 ∨ i = 1 := by omega
    rcases this with rfl | rfl <;> simp [tabW, hx, hz, Nat.testBit]
  · have : i = 0 ∨ i = 1 ∨ i = 2 ∨ i = 3 := by omega
    rcases this with rfl | rfl | rfl | rfl <;> simp [tabW, hx, hz, Nat.testBit]
  · have : i = 0 ∨ i = 1 ∨ i = 2 ∨ i = 3 ∨ i = 4 ∨ i = 5 ∨ i = 6 ∨ i = 7 := by omega
    rcases this with rfl | rfl | rfl | rfl | rfl | rfl | rfl | rfl <;> simp [tabW, hx, hz, Nat.testBit]
def orOk (P i : Nat) : Prop := P ||| i = P + i ∧ P + i < 1000
theorem or_ints (t : TypeId) (P i : Nat) (h : orOk P i) : binOp .or t (.int .i64 (P : Int)) (.int .i64 (i : Int)) = pure (.int .i64 ((P + i : Nat) : Int)) := by
  obtain ⟨h1, h2⟩ := h
  simp only [binOp_or, Op.intBits]
  have e : (BitVec.ofInt IntKind.i64.bits (P : Int) ||| BitVec.ofInt IntKind.i64.bits (i : Int)).toNat = P + i := by
    show (BitVec.ofInt 64 (P : Int) ||| BitVec.ofInt 64 (i : Int)).toNat = _
    rw [BitVec.ofInt_natCast, BitVec.ofInt_natCast, BitVec.toNat_or, BitVec.toNat_ofNat, BitVec.toNat_ofNat, Nat.mod_eq_of_lt (by omega), Nat.mod_eq_of_lt (by omega), h1]
  rw [e, IntWalk.i64_in _ (by omega)]
theorem one_shl (t : TypeId) (k : Nat) (hk : k ≤ 8) : binOp .shl t (.int .i64 1) (.int .i64 (k : Int)) = pure (.int .i64 ((2 ^ k : Nat) : Int)) := by
  have : k = 0 ∨ k = 1 ∨ k = 2 ∨ k = 3 ∨ k = 4 ∨ k = 5 ∨ k = 6 ∨ k = 7 ∨ k = 8 := by omega
  rcases this with rfl | rfl | rfl | rfl | rfl | rfl | rfl | rfl | rfl <;> rfl
theorem or_pow (k i : Nat) (hk : k < 4) (hi : i < 2 ^ k) : orOk (2 ^ k) i := by
  have : k = 0 ∨ k = 1 ∨ k = 2 ∨ k = 3 := by omega
  rcases this with rfl | rfl | rfl | rfl
  · have : i = 0 := by omega
    subst this; exact ⟨rfl, by decide⟩
  · have : i = 0 ∨ i = 1 := by omega
    rcases this with rfl | rfl <;> exact ⟨rfl, by decide⟩
  · have : i = 0 ∨ i = 1 ∨ i = 2 ∨ i = 3 := by omega
    rcases this with rfl | rfl | rfl | rfl <;> exact ⟨rfl, by decide⟩
  · have : i = 0 ∨ i = 1 ∨ i = 2 ∨ i = 3 ∨ i = 4 ∨ i = 5 ∨ i = 6 ∨ i = 7 := by omega
    rcases this with rfl | rfl | rfl | rfl | rfl | rfl | rfl | rfl <;> exact ⟨rfl, by decide⟩
end Go.Proofs.YtfdkmjegcghieaaDoor
