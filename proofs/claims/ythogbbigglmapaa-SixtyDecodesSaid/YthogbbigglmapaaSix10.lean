/- sixty: the bytes bit by bit are the bytes; plain -/
import Derived.Test.YthogbbigglmapaaSix9
namespace Go.Proofs.Ythogbbigglmapaa
open Go.RowKit
theorem one_bit : ∀ n, n < 8 → 0 < n → (1#8).getLsbD n = false := by decide
theorem add_bit (x : BitVec 8) (k r : Nat) (hk : k < 8) (hr : r < 8) (h : x.getLsbD k = false) : (x + 1#8 <<< k).getLsbD r = (x.getLsbD r || decide (r = k)) := by
  have hb : ∀ i, i < 8 → (1#8 <<< k).getLsbD i = decide (i = k) := by
    intro i hi
    rw [BitVec.getLsbD_shiftLeft]
    by_cases h1 : i < k
    · have : ¬ i = k := by omega
      simp [h1, this]
    · by_cases h2 : i = k
      · subst h2; simp [hi]
      · have : ¬ i - k = 0 := by omega
        have h3 : (1#8).getLsbD (i - k) = false := one_bit (i - k) (by omega) (by omega)
        simp [h3, h2]
  have h0 : x &&& 1#8 <<< k = 0#8 := by
    apply BitVec.eq_of_getLsbD_eq
    intro i hi
    rw [BitVec.getLsbD_and, hb i hi]
    by_cases h2 : i = k
    · subst h2; simp [h]
    · simp [h2]
  rw [BitVec.add_eq_or_of_and_eq_zero _ _ h0, BitVec.getLsbD_or, hb r hr]
theorem outR_bit (s : List (BitVec 8)) (m p j r : Nat) (hj : j < m) (hr : r < 8) : (nth (outR s m p) j).getLsbD r = (decide (8 * j + (7 - r) < p) && bitS s (8 * j + (7 - r))) := by
  induction p generalizing j r with
  | zero => simp [outR, nth_zeros]
  | succ p ih =>
    unfold outR
    by_cases hb : bitS s p = true
    · rw [if_pos hb]
      have hother : 8 * j + (7 - r) ≠ p → (decide (8 * j + (7 - r) < p) && bitS s (8 * j + (7 - r))) = (decide (8 * j + (7 - r) < p + 1) && bitS s (8 * j + (7 - r))) := by
        intro h
        congr 1
        by_cases h1 : 8 * j + (7 - r) < p
        · rw [decide_eq_true h1, decide_eq_true (by omega)]
        · rw [decide_eq_false h1, decide_eq_false (by omega)]
      by_cases hm : p / 8 < m
      · rw [nth_set _ _ _ _ (by rw [outR_length]; exact hm)]
        by_cases hj2 : p / 8 = j
        · rw [if_pos hj2]
          have hclear : (nth (outR s m p) (p / 8)).getLsbD (7 - p % 8) = false := by
            rw [ih (p / 8) (7 - p % 8) hm (by omega), decide_eq_false (by omega), Bool.false_and]
          rw [add_bit _ _ _ (by omega) hr hclear, hj2, ih j r hj hr]
          by_cases hr2 : r = 7 - p % 8
          · have e : 8 * j + (7 - r) = p := by omega
            rw [e, hb, decide_eq_true hr2]
            simp
          · rw [decide_eq_false hr2, Bool.or_false]
            exact hother (by omega)
        · rw [if_neg hj2, ih j r hj hr]
          exact hother (by omega)
      · rw [List.set_eq_of_length_le (by rw [outR_length]; omega), ih j r hj hr]
        exact hother (by omega)
    · rw [if_neg hb, ih j r hj hr]
      have hb' : bitS s p = false := by simpa using hb
      by_cases h : 8 * j + (7 - r) < p
      · have : 8 * j + (7 - r) < p + 1 := by omega
        simp [h, this]
      · by_cases h2 : 8 * j + (7 - r) = p
        · rw [h2, hb']; simp
        · have : ¬ 8 * j + (7 - r) < p + 1 := by omega
          simp [h, this]
theorem shr_bit (x : BitVec 8) (k r : Nat) : (x >>> k).getLsbD r = x.getLsbD (k + r) := BitVec.getLsbD_ushiftRight _ _ _
theorem num6 {x p : BitVec 8} (h : num x = some p) (i : Nat) (hi : 6 ≤ i) : p.getLsbD i = false := high6 (num_some h).1 i hi
theorem bitS_at {s : List (BitVec 8)} {k : Nat} {p : BitVec 8} (h : num (nth s k) = some p) (q : Nat) (hq : q < 6) : bitS s (6 * k + q) = p.getLsbD (5 - q) := by
  unfold bitS
  rw [show (6 * k + q) / 6 = k by omega, show (6 * k + q) % 6 = q by omega, h]; rfl
section
variable {s : List (BitVec 8)} {p q u v : BitVec 8}
theorem byte0 (h0 : num (nth s 0) = some p) (h1 : num (nth s 1) = some q) (r : Nat) (hr : r < 8) : (p <<< 2 ||| q >>> 4).getLsbD r = bitS s (7 - r) := by
  rw [BitVec.getLsbD_or, shr_bit]
  by_cases h : r < 2
  · rw [shl_low _ _ _ h, Bool.false_or, show 7 - r = 6 * 1 + (1 - r) by omega, bitS_at h1 _ (by omega), show 5 - (1 - r) = 4 + r by omega]
  · rw [show r = 2 + (r - 2) by omega, shl_bit _ _ _ (by omega), num6 h1 _ (by omega), Bool.or_false, show 7 - (2 + (r - 2)) = 6 * 0 + (7 - r) by omega, bitS_at h0 _ (by omega)]
    congr 1
    omega
theorem byte1 (h1 : num (nth s 1) = some q) (h2 : num (nth s 2) = some u) (r : Nat) (hr : r < 8) : (q <<< 4 ||| u >>> 2).getLsbD r = bitS s (8 + (7 - r)) := by
  rw [BitVec.getLsbD_or, shr_bit]
  by_cases h : r < 4
  · rw [shl_low _ _ _ h, Bool.false_or, show 8 + (7 - r) = 6 * 2 + (3 - r) by omega, bitS_at h2 _ (by omega)]
    congr 1
    omega
  · rw [show r = 4 + (r - 4) by omega, shl_bit _ _ _ (by omega), num6 h2 _ (by omega), Bool.or_false, show 8 + (7 - (4 + (r - 4))) = 6 * 1 + (9 - r) by omega, bitS_at h1 _ (by omega)]
    congr 1
    omega
theorem byte2 (h2 : num (nth s 2) = some u) (h3 : num (nth s 3) = some v) (r : Nat) (hr : r < 8) : (u <<< 6 ||| v).getLsbD r = bitS s (16 + (7 - r)) := by
  rw [BitVec.getLsbD_or]
  by_cases h : r < 6
  · rw [shl_low _ _ _ h, Bool.false_or, show 16 + (7 - r) = 6 * 3 + (5 - r) by omega, bitS_at h3 _ (by omega)]
    congr 1
    omega
  · rw [num6 h3 r (by omega), Bool.or_false, show r = 6 + (r - 6) by omega, shl_bit _ _ _ (by omega), show 16 + (7 - (6 + (r - 6))) = 6 * 2 + (11 - r) by omega, bitS_at h2 _ (by omega)]
    congr 1
    omega
end
/-- two bytes of the same bits -/
theorem byte_eq {a b : BitVec 8} (h : ∀ r, r < 8 → a.getLsbD r = b.getLsbD r) : a = b := BitVec.eq_of_getLsbD_eq h
theorem bitS_cons4 (x y z t : BitVec 8) (r : List (BitVec 8)) (k : Nat) : bitS (x :: y :: z :: t :: r) (24 + k) = bitS r k := by
  unfold bitS
  rw [show (24 + k) / 6 = k / 6 + 4 by omega, show (24 + k) % 6 = k % 6 by omega]
  rfl
theorem shl_zero_of (x : BitVec 8) (k : Nat) (_hk : k ≤ 8) (h : ∀ i, k + i < 8 → x.getLsbD i = false) : x <<< k = 0#8 := by
  apply byte_eq
  intro r hr
  by_cases h1 : r < k
  · rw [shl_low _ _ _ h1]; simp
  · rw [show r = k + (r - k) by omega, shl_bit _ _ _ (by omega), h _ (by omega)]; simp
theorem shl_zero_bit {x : BitVec 8} {k : Nat} (h : x <<< k = 0#8) (i : Nat) (hi : k + i < 8) : x.getLsbD i = false := by
  rw [← zero_bits h i hi]; simp
theorem refDec_none {s : List (BitVec 8)} (k : Nat) (hk : k < s.length) (h : num (nth s k) = none) : refDec s = none := by
  unfold refDec
  rw [if_neg]
  intro hc
  have := hc.2.1 k hk
  rw [h] at this
  cases this
theorem refDec_dec : ∀ s : List (BitVec 8), refDec s = dec s
  | [] => rfl
  | [x] => by
    unfold refDec
    rw [if_neg (fun h => h.1 rfl)]
    rfl
  | [x, y] => by
    cases hx : num x with
    | none => rw [refDec_none (s := [x, y]) 0 (by simp) hx]; simp [dec, hx]
    | some p =>
      cases hy : num y with
      | none => rw [refDec_none (s := [x, y]) 1 (by simp) hy]; simp [dec, hy]
      | some q =>
        have h0 : num (nth [x, y] 0) = some p := hx
        have h1 : num (nth [x, y] 1) = some q := hy
        have hbit : ∀ i, i < 4 → bitS [x, y] (11 - i) = q.getLsbD i := by
          intro i hi
          rw [show 11 - i = 6 * 1 + (5 - i) by omega, bitS_at h1 _ (by omega)]
          congr 1
          omega
        simp only [dec, hx, hy, Option.bind_some]
        unfold refDec
        rw [show 6 * [x, y].length / 8 = 1 by simp, show 6 * [x, y].length = 12 by simp]
        by_cases hz : q <<< 4 = 0#8
        · have hc : [x, y].length % 4 ≠ 1 ∧ (∀ k, k < [x, y].length → (num (nth [x, y] k)).isSome = true) ∧ (∀ p, p < 12 → 8 * 1 ≤ p → bitS [x, y] p = false) := by
            refine ⟨by simp, fun k hk => ?_, fun k hk h8 => ?_⟩
            · have : k = 0 ∨ k = 1 := by simp at hk; omega
              rcases this with rfl | rfl
              · rw [h0]; rfl
              · rw [h1]; rfl
            · rw [show k = 11 - (11 - k) by omega, hbit _ (by omega)]
              exact shl_zero_bit hz _ (by omega)
          rw [if_pos hz, if_pos hc]
          · congr 1
            apply ext_nth
            · rw [outR_length]; rfl
            · intro i hi
              rw [outR_length] at hi
              obtain rfl : i = 0 := by omega
              apply byte_eq
              intro r hr
              rw [outR_bit _ _ _ _ _ hi hr, decide_eq_true (by omega), Bool.true_and]
              show _ = (p <<< 2 ||| q >>> 4).getLsbD r
              rw [byte0 h0 h1 r hr]
              exact congrArg _ (by omega)
        · rw [if_neg hz, if_neg]
          intro hc
          refine hz (shl_zero_of q 4 (by omega) fun i hi => ?_)
          rw [← hbit i (by omega)]
          exact hc.2.2 _ (by omega) (by omega)
  | [x, y, z] => by
    cases hx : num x with
    | none => rw [refDec_none (s := [x, y, z]) 0 (by simp) hx]; simp [dec, hx]
    | some p =>
      cases hy : num y with
      | none => rw [refDec_none (s := [x, y, z]) 1 (by simp) hy]; simp [dec, hy]
      | some q =>
        cases hw : num z with
        | none => rw [refDec_none (s := [x, y, z]) 2 (by simp) hw]; simp [dec, hw]
        | some u =>
          have h0 : num (nth [x, y, z] 0) = some p := hx
          have h1 : num (nth [x, y, z] 1) = some q := hy
          have h2 : num (nth [x, y, z] 2) = some u := hw
          have hbit : ∀ i, i < 2 → bitS [x, y, z] (17 - i) = u.getLsbD i := by
            intro i hi
            rw [show 17 - i = 6 * 2 + (5 - i) by omega, bitS_at h2 _ (by omega)]
            congr 1
            omega
          simp only [dec, hx, hy, hw, Option.bind_some]
          unfold refDec
          rw [show 6 * [x, y, z].length / 8 = 2 by simp, show 6 * [x, y, z].length = 18 by simp]
          by_cases hz : u <<< 6 = 0#8
          · have hc : [x, y, z].length % 4 ≠ 1 ∧ (∀ k, k < [x, y, z].length → (num (nth [x, y, z] k)).isSome = true) ∧ (∀ p, p < 18 → 8 * 2 ≤ p → bitS [x, y, z] p = false) := by
              refine ⟨by simp, fun k hk => ?_, fun k hk h8 => ?_⟩
              · have : k = 0 ∨ k = 1 ∨ k = 2 := by simp at hk; omega
                rcases this with rfl | rfl | rfl
                · rw [h0]; rfl
                · rw [h1]; rfl
                · rw [h2]; rfl
              · rw [show k = 17 - (17 - k) by omega, hbit _ (by omega)]
                exact shl_zero_bit hz _ (by omega)
            rw [if_pos hz, if_pos hc]
            · congr 1
              apply ext_nth
              · rw [outR_length]; rfl
              · intro i hi
                rw [outR_length] at hi
                apply byte_eq
                intro r hr
                rw [outR_bit _ _ _ _ _ hi hr, decide_eq_true (by omega), Bool.true_and]
                have : i = 0 ∨ i = 1 := by omega
                rcases this with rfl | rfl
                · show _ = (p <<< 2 ||| q >>> 4).getLsbD r
                  rw [byte0 h0 h1 r hr]
                  exact congrArg _ (by omega)
                · show _ = (q <<< 4 ||| u >>> 2).getLsbD r
                  rw [byte1 h1 h2 r hr]
          · rw [if_neg hz, if_neg]
            intro hc
            refine hz (shl_zero_of u 6 (by omega) fun i hi => ?_)
            rw [← hbit i (by omega)]
            exact hc.2.2 _ (by omega) (by omega)
  | x :: y :: z :: t :: r => by
    have ih := refDec_dec r
    cases hx : num x with
    | none => rw [refDec_none (s := x :: y :: z :: t :: r) 0 (by simp) hx]; simp [dec, hx]
    | some p =>
      cases hy : num y with
      | none => rw [refDec_none (s := x :: y :: z :: t :: r) 1 (by simp) hy]; simp [dec, hy]
      | some q =>
        cases hw : num z with
        | none => rw [refDec_none (s := x :: y :: z :: t :: r) 2 (by simp) hw]; simp [dec, hw]
        | some u =>
          cases ht : num t with
          | none => rw [refDec_none (s := x :: y :: z :: t :: r) 3 (by simp) ht]; simp [dec, ht]
          | some v =>
            obtain ⟨s, hs⟩ : ∃ s, s = x :: y :: z :: t :: r := ⟨_, rfl⟩
            have h0 : num (nth s 0) = some p := by rw [hs]; exact hx
            have h1 : num (nth s 1) = some q := by rw [hs]; exact hy
            have h2 : num (nth s 2) = some u := by rw [hs]; exact hw
            have h3 : num (nth s 3) = some v := by rw [hs]; exact ht
            have hn4 : ∀ k, nth s (k + 4) = nth r k := by intro k; rw [hs]; rfl
            have hb4 : ∀ k, bitS s (24 + k) = bitS r k := by intro k; rw [hs]; exact bitS_cons4 x y z t r k
            have hl : s.length = r.length + 4 := by rw [hs]; rfl
            have hd : dec s = (dec r).map fun o => (p <<< 2 ||| q >>> 4) :: (q <<< 4 ||| u >>> 2) :: (u <<< 6 ||| v) :: o := by
              rw [hs]; simp only [dec, hx, hy, hw, ht, Option.bind_some]
            rw [← hs, hd, ← ih]
            have hM : 6 * s.length / 8 = 3 + 6 * r.length / 8 := by rw [hl]; omega
            unfold refDec
            by_cases hc : r.length % 4 ≠ 1 ∧ (∀ k, k < r.length → (num (nth r k)).isSome = true) ∧ (∀ p, p < 6 * r.length → 8 * (6 * r.length / 8) ≤ p → bitS r p = false)
            · have hc' : s.length % 4 ≠ 1 ∧ (∀ k, k < s.length → (num (nth s k)).isSome = true) ∧ (∀ p, p < 6 * s.length → 8 * (6 * s.length / 8) ≤ p → bitS s p = false) := by
                refine ⟨by rw [hl]; omega, fun k hk => ?_, fun k hk h8 => ?_⟩
                · match k with
                  | 0 => rw [h0]; rfl
                  | 1 => rw [h1]; rfl
                  | 2 => rw [h2]; rfl
                  | 3 => rw [h3]; rfl
                  | k + 4 => rw [hn4]; exact hc.2.1 k (by omega)
                · rw [show k = 24 + (k - 24) by omega, hb4]
                  exact hc.2.2 _ (by omega) (by omega)
              rw [if_pos hc, if_pos hc', hM]
              · simp only [Option.map_some, Option.some.injEq]
                apply ext_nth
                · simp [outR_length]; omega
                · intro i hi
                  rw [outR_length] at hi
                  apply byte_eq
                  intro b hb
                  rw [outR_bit _ _ _ _ _ hi hb, decide_eq_true (by rw [hl]; omega), Bool.true_and]
                  match i with
                  | 0 =>
                    show _ = (p <<< 2 ||| q >>> 4).getLsbD b
                    rw [byte0 h0 h1 b hb]
                    exact congrArg _ (by omega)
                  | 1 =>
                    show _ = (q <<< 4 ||| u >>> 2).getLsbD b
                    rw [byte1 h1 h2 b hb]
                  | 2 =>
                    show _ = (u <<< 6 ||| v).getLsbD b
                    rw [byte2 h2 h3 b hb]
                  | i + 3 =>
                    show _ = (nth (outR r (6 * r.length / 8) (6 * r.length)) i).getLsbD b
                    rw [outR_bit _ _ _ _ _ (by omega) hb, decide_eq_true (by omega), Bool.true_and, ← hb4]
                    congr 1
                    omega
            · rw [if_neg hc, if_neg]
              · rfl
              · intro h
                refine hc ⟨by have := h.1; rw [hl] at this; omega, fun k hk => ?_, fun k hk h8 => ?_⟩
                · rw [← hn4]; exact h.2.1 _ (by omega)
                · rw [← hb4]; exact h.2.2 _ (by omega) (by omega)
end Go.Proofs.Ythogbbigglmapaa
