/- chacha: no two states are mixed to one (plain). -/
import Derived.Test.YthogbbigglmapaaCha2
namespace Go.Proofs.Ythogbbigglmapaa
theorem rotl32_lsb (x : BitVec 32) (k i : Nat) (hk : 0 < k) (hk2 : k < 32) (hi : i < 32) : (rotl32 x k).getLsbD i = if i < k then x.getLsbD (32 - k + i) else x.getLsbD (i - k) := by
  unfold rotl32
  simp only [BitVec.getLsbD_or, BitVec.getLsbD_shiftLeft, BitVec.getLsbD_ushiftRight, hi, decide_true, Bool.true_and]
  by_cases h : i < k
  · simp [h]
  · simp only [h, decide_false, Bool.not_false, Bool.true_and, if_false]
    rw [BitVec.getLsbD_of_ge x (32 - k + i) (by omega), Bool.or_false]
theorem rotl32_inj (x y : BitVec 32) (k : Nat) (hk : 0 < k) (hk2 : k < 32) (h : rotl32 x k = rotl32 y k) : x = y := by
  apply BitVec.eq_of_getLsbD_eq
  intro i hi
  by_cases hc : i < 32 - k
  · have := congrArg (fun z : BitVec 32 => z.getLsbD (i + k)) h
    rw [rotl32_lsb _ _ _ hk hk2 (by omega), rotl32_lsb _ _ _ hk hk2 (by omega), if_neg (by omega), if_neg (by omega), Nat.add_sub_cancel] at this
    exact this
  · have := congrArg (fun z : BitVec 32 => z.getLsbD (i - (32 - k))) h
    rw [rotl32_lsb _ _ _ hk hk2 (by omega), rotl32_lsb _ _ _ hk hk2 (by omega), if_pos (by omega), if_pos (by omega), show 32 - k + (i - (32 - k)) = i by omega] at this
    exact this
theorem xor_inj {n : Nat} {a b c : BitVec n} (h : a ^^^ c = b ^^^ c) : a = b := by
  have := congrArg (· ^^^ c) h
  simpa [BitVec.xor_assoc] using this
theorem add_inj {n : Nat} {a b c : BitVec n} (h : a + c = b + c) : a = b := by
  have := congrArg (· - c) h
  simpa using this
/-- half a quarter -/
def half (p q : Nat) (t : BitVec 32 × BitVec 32 × BitVec 32 × BitVec 32) : BitVec 32 × BitVec 32 × BitVec 32 × BitVec 32 :=
  (t.1 + t.2.1, rotl32 (t.2.1 ^^^ (t.2.2.1 + rotl32 (t.2.2.2 ^^^ (t.1 + t.2.1)) p)) q, t.2.2.1 + rotl32 (t.2.2.2 ^^^ (t.1 + t.2.1)) p, rotl32 (t.2.2.2 ^^^ (t.1 + t.2.1)) p)
theorem quarter_half (a b c d : BitVec 32) : quarter a b c d = half 8 7 (half 16 12 (a, b, c, d)) := rfl
theorem half_inj (p q : Nat) (hp : 0 < p) (hp2 : p < 32) (hq : 0 < q) (hq2 : q < 32) (s t : BitVec 32 × BitVec 32 × BitVec 32 × BitVec 32) (h : half p q s = half p q t) : s = t := by
  obtain ⟨a, b, c, d⟩ := s
  obtain ⟨a', b', c', d'⟩ := t
  simp only [half, Prod.mk.injEq] at h
  obtain ⟨h1, h2, h3, h4⟩ := h
  have hb := xor_inj (c := c + rotl32 (d ^^^ (a + b)) p) (by rw [rotl32_inj _ _ _ hq hq2 h2, ← h3] : b ^^^ (c + rotl32 (d ^^^ (a + b)) p) = b' ^^^ (c + rotl32 (d ^^^ (a + b)) p))
  have hd := rotl32_inj _ _ _ hp hp2 h4
  rw [← h1] at hd
  have hd := xor_inj hd
  subst hb hd
  have ha := add_inj h1
  subst ha
  have hc := add_inj h3
  subst hc
  rfl
theorem quarter_inj {a b c d a' b' c' d' : BitVec 32} (h : quarter a b c d = quarter a' b' c' d') : a = a' ∧ b = b' ∧ c = c' ∧ d = d' := by
  rw [quarter_half, quarter_half] at h
  have := half_inj 16 12 (by omega) (by omega) (by omega) (by omega) _ _ (half_inj 8 7 (by omega) (by omega) (by omega) (by omega) _ _ h)
  simpa using this
theorem qround_inj (s t : List (BitVec 32)) (i j k l : Nat) (hs : s.length = 16) (ht : t.length = 16) (hi : i < 4) (hj : 4 ≤ j ∧ j < 8) (hk : 8 ≤ k ∧ k < 12) (hl : 12 ≤ l ∧ l < 16) (h : qround s i j k l = qround t i j k l) : s = t := by
  have get : ∀ u : List (BitVec 32), u.length = 16 → ∀ m, nth (qround u i j k l) m = if l = m then (quarter (nth u i) (nth u j) (nth u k) (nth u l)).2.2.2 else if k = m then (quarter (nth u i) (nth u j) (nth u k) (nth u l)).2.2.1 else if j = m then (quarter (nth u i) (nth u j) (nth u k) (nth u l)).2.1 else if i = m then (quarter (nth u i) (nth u j) (nth u k) (nth u l)).1 else nth u m := by
    intro u hu m
    unfold qround
    rw [nth_set _ _ _ _ (by simp; omega), nth_set _ _ _ _ (by simp; omega), nth_set _ _ _ _ (by simp; omega), nth_set _ _ _ _ (by omega)]
  have e : ∀ m, nth (qround s i j k l) m = nth (qround t i j k l) m := fun m => by rw [h]
  have e1 := e i
  have e2 := e j
  have e3 := e k
  have e4 := e l
  rw [get s hs, get t ht] at e1 e2 e3 e4
  rw [if_neg (by omega), if_neg (by omega), if_neg (by omega), if_pos rfl, if_neg (by omega), if_neg (by omega), if_neg (by omega), if_pos rfl] at e1
  rw [if_neg (by omega), if_neg (by omega), if_pos rfl, if_neg (by omega), if_neg (by omega), if_pos rfl] at e2
  rw [if_neg (by omega), if_pos rfl, if_neg (by omega), if_pos rfl] at e3
  rw [if_pos rfl, if_pos rfl] at e4
  have q := quarter_inj (Prod.ext e1 (Prod.ext e2 (Prod.ext e3 e4)))
  apply ext_nth (by omega)
  intro m _
  by_cases h1 : l = m
  · subst h1; exact q.2.2.2
  · by_cases h2 : k = m
    · subst h2; exact q.2.2.1
    · by_cases h3 : j = m
      · subst h3; exact q.2.1
      · by_cases h4 : i = m
        · subst h4; exact q.1
        · have := e m
          rw [get s hs, get t ht, if_neg h1, if_neg h2, if_neg h3, if_neg h4, if_neg h1, if_neg h2, if_neg h3, if_neg h4] at this
          exact this
theorem slantTo_inj (s t : List (BitVec 32)) (b n : Nat) (hs : s.length = 16) (ht : t.length = 16) (hn : n ≤ 4) (h : slantTo s b n = slantTo t b n) : s = t := by
  induction n with
  | zero => exact h
  | succ n ih =>
    refine ih (by omega) (qround_inj _ _ n (4 + (n + b) % 4) (8 + (n + 2 * b) % 4) (12 + (n + 3 * b) % 4) (by rw [slantTo_length, hs]) (by rw [slantTo_length, ht]) (by omega) (by omega) (by omega) (by omega) h)
theorem mixTo_inj (s t : List (BitVec 32)) (n : Nat) (hs : s.length = 16) (ht : t.length = 16) (h : mixTo s n = mixTo t n) : s = t := by
  induction n with
  | zero => exact h
  | succ n ih =>
    refine ih (slantTo_inj _ _ 0 4 (by rw [mixTo_length, hs]) (by rw [mixTo_length, ht]) (by omega) (slantTo_inj _ _ 1 4 (by rw [slantTo_length, mixTo_length, hs]) (by rw [slantTo_length, mixTo_length, ht]) (by omega) h))
end Go.Proofs.Ythogbbigglmapaa
