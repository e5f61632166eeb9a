/- prime by definition (plain): numbers of seventeen bytes -/
import Derived.Test.YtfdkmjegcghieaaGreatDoorMGc
namespace Go.Proofs.YtfdkmjegcghieaaGreatDoor
set_option linter.unusedSimpArgs false
set_option maxRecDepth 100000
set_option maxHeartbeats 1600000
def dgt (n i : Nat) : BitVec 8 := BitVec.ofNat 8 (n / 256 ^ i)
def byN (k n : Nat) : List (BitVec 8) := (List.range k).map (dgt n)
@[simp] theorem byN_length (k n : Nat) : (byN k n).length = k := by simp [byN]
theorem nth_byN (k n i : Nat) (h : i < k) : nth (byN k n) i = dgt n i := nth_range_map _ i h
theorem dgt_toNat (n i : Nat) : (dgt n i).toNat = n / 256 ^ i % 256 := by
 rw [dgt, BitVec.toNat_ofNat]
theorem byN_zero (k : Nat) : byN k 0 = zeros 8 k := by
 apply ext_nth
 ·simp
 ·intro i hi
  rw [byN_length] at hi
  rw [nth_byN _ _ _ hi, nth_zeros, dgt, Nat.zero_div]
theorem mod_step (n i : Nat) : n % 256 ^ (i + 1) = n / 256 ^ i % 256 * 256 ^ i + n % 256 ^ i := by
 rw [Nat.pow_succ, Nat.mod_mul, Nat.add_comm, Nat.mul_comm]
theorem div_step (n i : Nat) : n / 256 ^ (i + 1) = n / 256 ^ i / 256 := by
 rw [Nat.pow_succ, Nat.div_div_eq_div_mul]
theorem pow_pos256 (i : Nat) : 0 < 256 ^ i := Nat.pow_pos (by omega)
def dbC (n c i : Nat) : Nat := (2 * (n % 256 ^ i) + c) / 256 ^ i
theorem dbC_zero (n c : Nat) : dbC n c 0 = c := by simp [dbC, Nat.mod_one]
theorem dbC_le (n c i : Nat) (hc : c ≤ 1) : dbC n c i ≤ 1 := by
 have h1 := Nat.mod_lt n (pow_pos256 i)
 unfold dbC
 have : (2 * (n % 256 ^ i) + c) / 256 ^ i < 2 := by rw [Nat.div_lt_iff_lt_mul (pow_pos256 i)]; omega
 omega
theorem dbC_sum (n c i : Nat) : 2 * (n % 256 ^ (i + 1)) + c = 256 ^ i * (2 * (n / 256 ^ i % 256) + dbC n c i) + (2 * (n % 256 ^ i) + c) % 256 ^ i := by
 have h := Nat.div_add_mod (2 * (n % 256 ^ i) + c) (256 ^ i)
 rw [mod_step, dbC, Nat.mul_add (256 ^ i), Nat.add_assoc, h, Nat.mul_add, Nat.add_assoc, Nat.mul_comm (n / 256 ^ i % 256), Nat.mul_left_comm]
theorem dbC_next (n c i : Nat) : dbC n c (i + 1) = (2 * (dgt n i).toNat + dbC n c i) / 256 := by
 rw [dgt_toNat]
 conv => lhs; rw [dbC, dbC_sum]
 rw [Nat.pow_succ, ← Nat.div_div_eq_div_mul, Nat.mul_add_div (pow_pos256 i), Nat.div_eq_of_lt (Nat.mod_lt _ (pow_pos256 i)), Nat.add_zero]
theorem dbC_byte (n c i : Nat) : dgt (2 * n + c) i = BitVec.ofNat 8 ((2 * (dgt n i).toNat + dbC n c i) % 256) := by
 apply BitVec.eq_of_toNat_eq
 rw [dgt_toNat, BitVec.toNat_ofNat, dgt_toNat]
 have e1 : (2 * n + c) / 256 ^ i % 256 = (2 * n + c) % 256 ^ (i + 1) / 256 ^ i := by rw [Nat.pow_succ, Nat.mod_mul_right_div_self]
 have e2 : (2 * n + c) % 256 ^ (i + 1) = (2 * (n % 256 ^ (i + 1)) + c) % 256 ^ (i + 1) := by rw [Nat.add_mod, Nat.mul_mod]; conv => rhs; rw [Nat.add_mod, Nat.mul_mod, Nat.mod_mod]
 rw [e1, e2, dbC_sum]
 have e3 : ∀ a b : Nat, b < 256 ^ i → (256 ^ i * a + b) % 256 ^ (i + 1) / 256 ^ i = a % 256 := by
  intro a b hb
  rw [Nat.pow_succ, Nat.mod_mul_right_div_self, Nat.mul_add_div (pow_pos256 i), Nat.div_eq_of_lt hb, Nat.add_zero]
 rw [e3 _ _ (Nat.mod_lt _ (pow_pos256 i)), Nat.mod_mod]
def dfC (a b i : Nat) : Nat := if a % 256 ^ i < b % 256 ^ i then 1 else 0
theorem dfC_zero (a b : Nat) : dfC a b 0 = 0 := by simp [dfC, Nat.mod_one]
theorem dfC_le (a b i : Nat) : dfC a b i ≤ 1 := by unfold dfC; split <;> omega
theorem dfC_next (a b i : Nat) : dfC a b (i + 1) = 1 - (256 + (dgt a i).toNat - (dgt b i).toNat - dfC a b i) / 256 := by
 rw [dgt_toNat, dgt_toNat, dfC, dfC, mod_step, mod_step]
 have h1 := Nat.mod_lt a (pow_pos256 i)
 have h2 := Nat.mod_lt b (pow_pos256 i)
 have h3 : a / 256 ^ i % 256 < 256 := Nat.mod_lt _ (by omega)
 have h4 : b / 256 ^ i % 256 < 256 := Nat.mod_lt _ (by omega)
 generalize a / 256 ^ i % 256 = x at *
 generalize b / 256 ^ i % 256 = y at *
 generalize a % 256 ^ i = u at *
 generalize b % 256 ^ i = v at *
 generalize 256 ^ i = p at *
 rcases Nat.lt_trichotomy x y with h | h | h
 ·have : x * p + p ≤ y * p := by rw [← Nat.succ_mul]; exact Nat.mul_le_mul_right p h
  rw [if_pos (by omega)]; split <;> omega
 ·subst h
  by_cases hu : u < v
  ·rw [if_pos (by omega), if_pos hu]; omega
  ·rw [if_neg (by omega), if_neg hu]; omega
 ·have : y * p + p ≤ x * p := by rw [← Nat.succ_mul]; exact Nat.mul_le_mul_right p h
  rw [if_neg (by omega)]; split <;> omega
theorem sub_mod_low (a b p : Nat) (hba : b ≤ a) (hp : 0 < p) : (a - b) % p = (a % p + p - b % p) % p := by
 have ha := Nat.div_add_mod a p
 have hb := Nat.div_add_mod b p
 have h1 := Nat.mod_lt b hp
 have h2 := Nat.div_le_div_right (c := p) hba
 obtain ⟨d, hd⟩ := Nat.le.dest h2
 generalize a % p = u at *
 generalize b % p = v at *
 have e2 : p * (a / p) = p * (b / p) + p * d := by rw [← hd, Nat.mul_add]
 have e : a - b + p = p * d + (u + p - v) := by omega
 rw [← Nat.add_mod_right, e, Nat.mul_add_mod]
theorem dfC_byte (a b i : Nat) (h : b ≤ a) : dgt (a - b) i = BitVec.ofNat 8 ((256 + (dgt a i).toNat - (dgt b i).toNat - dfC a b i) % 256) := by
 apply BitVec.eq_of_toNat_eq
 rw [dgt_toNat, BitVec.toNat_ofNat, dgt_toNat, dgt_toNat, dfC]
 have e1 : (a - b) / 256 ^ i % 256 = (a - b) % 256 ^ (i + 1) / 256 ^ i := by rw [Nat.pow_succ, Nat.mod_mul_right_div_self]
 rw [e1, sub_mod_low _ _ _ h (pow_pos256 _), mod_step a i, mod_step b i, Nat.pow_succ]
 have h1 := Nat.mod_lt a (pow_pos256 i)
 have h2 := Nat.mod_lt b (pow_pos256 i)
 have h3 : a / 256 ^ i % 256 < 256 := Nat.mod_lt _ (by omega)
 have h4 : b / 256 ^ i % 256 < 256 := Nat.mod_lt _ (by omega)
 rw [Nat.mod_mul_right_div_self]
 generalize a / 256 ^ i % 256 = x at *
 generalize b / 256 ^ i % 256 = y at *
 generalize a % 256 ^ i = u at *
 generalize b % 256 ^ i = v at *
 generalize 256 ^ i = p at *
 have hy : y * p ≤ 255 * p := Nat.mul_le_mul_right p (by omega)
 obtain ⟨z, hz⟩ : ∃ z, 256 + x = y + z := ⟨256 + x - y, by omega⟩
 have hzp : 256 * p + x * p = y * p + z * p := by rw [← Nat.add_mul, hz, Nat.add_mul]
 have hz1 : 1 ≤ z := by omega
 obtain ⟨q, rfl⟩ : ∃ q, z = q + 1 := ⟨z - 1, by omega⟩
 rw [Nat.add_mul, Nat.one_mul] at hzp
 have e : x * p + u + p * 256 - (y * p + v) = (q + 1) * p + u - v := by rw [Nat.mul_comm p 256, Nat.add_mul]; omega
 rw [e]
 split
 ·rw [show (q + 1) * p + u - v = p * q + (p + u - v) by rw [Nat.add_mul, Nat.mul_comm p q]; omega, Nat.mul_add_div (by omega), Nat.div_eq_of_lt (by omega)]; omega
 ·rw [show (q + 1) * p + u - v = p * (q + 1) + (u - v) by rw [Nat.mul_comm p]; omega, Nat.mul_add_div (by omega), Nat.div_eq_of_lt (by omega)]; omega
theorem cmp_step (a b i : Nat) (h : a / 256 ^ (i + 1) = b / 256 ^ (i + 1)) (hn : dgt a i ≠ dgt b i) : decide ((dgt a i).toNat < (dgt b i).toNat) = decide (a < b) := by
 have hne : a / 256 ^ i % 256 ≠ b / 256 ^ i % 256 := fun e => hn (BitVec.eq_of_toNat_eq (by rw [dgt_toNat, dgt_toNat, e]))
 rw [dgt_toNat, dgt_toNat]
 rw [div_step, div_step] at h
 have hlt : a / 256 ^ i < b / 256 ^ i → a < b := fun hh => by
  rcases Nat.lt_or_ge a b with h1 | h1
  ·exact h1
  ·exact absurd (Nat.div_le_div_right (c := 256 ^ i) h1) (by omega)
 have hgt : b / 256 ^ i < a / 256 ^ i → b < a := fun hh => by
  rcases Nat.lt_or_ge b a with h1 | h1
  ·exact h1
  ·exact absurd (Nat.div_le_div_right (c := 256 ^ i) h1) (by omega)
 generalize a / 256 ^ i = x at *
 generalize b / 256 ^ i = y at *
 rcases Nat.lt_or_ge x y with hh | hh
 ·have := hlt hh
  rw [decide_eq_true (by omega), decide_eq_true this]
 ·have := hgt (by omega)
  rw [decide_eq_false (by omega), decide_eq_false (by omega)]
theorem cmp_same (a b i : Nat) (h : a / 256 ^ (i + 1) = b / 256 ^ (i + 1)) (he : dgt a i = dgt b i) : a / 256 ^ i = b / 256 ^ i := by
 have he' : (dgt a i).toNat = (dgt b i).toNat := by rw [he]
 rw [dgt_toNat, dgt_toNat] at he'
 rw [div_step, div_step] at h
 omega
def mixN (k a b j : Nat) : List (BitVec 8) := (List.range k).map fun i => if i < j then dgt a i else dgt b i
@[simp] theorem mixN_length (k a b j : Nat) : (mixN k a b j).length = k := by simp [mixN]
theorem nth_mixN (k a b j i : Nat) (h : i < k) : nth (mixN k a b j) i = if i < j then dgt a i else dgt b i := nth_range_map _ i h
theorem mixN_zero (k a b : Nat) : mixN k a b 0 = byN k b := by
 unfold mixN byN
 exact List.map_congr_left fun i _ => by rw [if_neg (by omega)]
theorem mixN_full (k a b : Nat) : mixN k a b k = byN k a := by
 unfold mixN byN
 exact List.map_congr_left fun i hi => by rw [if_pos (List.mem_range.1 hi)]
theorem mixN_set (k a b j : Nat) (hj : j < k) : (mixN k a b j).set j (dgt a j) = mixN k a b (j + 1) := by
 apply ext_nth
 ·simp
 ·intro i hi
  have hi' : i < k := by simpa using hi
  rw [nth_set _ _ _ _ (by simp; exact hj), nth_mixN _ _ _ _ _ hi', nth_mixN _ _ _ _ _ hi']
  by_cases e : j = i
  ·subst e; rw [if_pos rfl, if_pos (by omega)]
  ·rw [if_neg e]
   by_cases hij : i < j
   ·rw [if_pos hij, if_pos (by omega)]
   ·rw [if_neg hij, if_neg (by omega)]
def numL : List (BitVec 8) → Nat
 | [] => 0
 | b :: l => b.toNat + 256 * numL l
theorem numL_drop (l : List (BitVec 8)) (i : Nat) (h : i < l.length) : numL (l.drop i) = (nth l i).toNat + 256 * numL (l.drop (i + 1)) := by
 rw [List.drop_eq_getElem_cons h]
 show _ + _ = _
 congr 2
 simp [nth, List.getD_eq_getElem?_getD, h]
def prm : Nat := 2 ^ 130 - 5
end Go.Proofs.YtfdkmjegcghieaaGreatDoor
