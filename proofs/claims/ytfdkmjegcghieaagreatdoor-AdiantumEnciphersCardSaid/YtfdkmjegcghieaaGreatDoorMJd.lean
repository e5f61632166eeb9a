/- prime's numbers of five parts as numbers (plain) -/
import Derived.Test.YtfdkmjegcghieaaGreatDoorMHq
import Derived.Test.YtfdkmjegcghieaaGreatDoorMJc
import Derived.Test.YtfdkmjegcghieaaGreatDoorMHj
import Derived.Test.YtfdkmjegcghieaaGreatDoorMHs
import Derived.Test.YtfdkmjegcghieaaGreatDoorMJa
import Derived.Test.YtfdkmjegcghieaaGreatDoorMHn
import Derived.Test.YtfdkmjegcghieaaGreatDoorMHd
namespace Go.Proofs.YtfdkmjegcghieaaGreatDoor
set_option linter.unusedSimpArgs false
set_option maxRecDepth 100000
set_option maxHeartbeats 1600000
theorem prm_P130 : prm = P130 := by decide
def n5 (l : List (BitVec 32)) : Nat := val5 (to64 l)
theorem to64_to32 (w : List (BitVec 64)) (h5 : w.length = 5) (h : small5 w) : to64 (to32 w) = w := by
 apply ext_nth
 ·simp [to32]
 ·intro i hi
  have hi' : i < w.length := by simpa [to32] using hi
  have := h i (by omega)
  rw [nth_to64 _ _ (by simpa [to32] using hi'), nth_to32 _ _ hi']
  apply BitVec.eq_of_toNat_eq
  unfold pn at this
  simp only [BitVec.toNat_setWidth]
  omega
theorem n5_tidyL (w : List (BitVec 64)) (hw : ∀ i, i < 5 → pn w i < 2 ^ 60) : n5 (tidyL w) = val5 w % prm := by
 rw [n5, tidyL, to64_to32 _ (tidyW_length w) (tidyW_small w hw), val_tidy w hw, prm_P130]
theorem n5_plusN (a b : List (BitVec 32)) (ha : a.length = 5) : n5 (plusN a b) = (n5 a + n5 b) % prm := by
 rw [plusN, n5_tidyL _ (fun i hi => by rw [pn_addW a b ha i hi]; have := (nth a i).isLt; have := (nth b i).isLt; omega)]
 congr 1
 unfold n5 val5
 rw [pn_addW a b ha 0 (by omega), pn_addW a b ha 1 (by omega), pn_addW a b ha 2 (by omega), pn_addW a b ha 3 (by omega), pn_addW a b ha 4 (by omega)]
 simp only [pn_to64]
 omega
theorem n5_formN (x : List (BitVec 32)) : n5 (formN x) = n5 x % prm := by
 rw [formN, n5_tidyL _ (fun i _ => Nat.lt_of_lt_of_le (to64_lt x i) (by decide))]; rfl
def cc (i : Nat) : Nat := 67108864 ^ i
theorem val5_cc (w : List (BitVec 64)) : val5 w = cc 0 * pn w 0 + cc 1 * pn w 1 + cc 2 * pn w 2 + cc 3 * pn w 3 + cc 4 * pn w 4 := by
 unfold val5
 rw [show cc 0 = 1 from rfl, show cc 1 = 67108864 by decide, show cc 2 = 4503599627370496 by decide, show cc 3 = 302231454903657293676544 by decide, show cc 4 = 20282409603651670423947251286016 by decide, Nat.one_mul]
theorem val5_set (w : List (BitVec 64)) (h5 : w.length = 5) (k : Nat) (hk : k < 5) (x : BitVec 64) (hx : pn w k + x.toNat < 2 ^ 64) : val5 (w.set k (nth w k + x)) = val5 w + cc k * x.toNat := by
 have e : ∀ i, pn (w.set k (nth w k + x)) i = if k = i then pn w k + x.toNat else pn w i := fun i => by
  unfold pn at hx ⊢
  rw [nth_set _ _ _ _ (by omega)]
  split
  ·rw [BitVec.toNat_add]; omega
  ·rfl
 rw [val5_cc, val5_cc, e, e, e, e, e]
 obtain rfl | rfl | rfl | rfl | rfl : k = 0 ∨ k = 1 ∨ k = 2 ∨ k = 3 ∨ k = 4 := by omega
 all_goals
  simp only [if_true, if_false, Nat.mul_add, show ¬ (0 = 1) by omega, show ¬ (0 = 2) by omega, show ¬ (0 = 3) by omega, show ¬ (0 = 4) by omega, show ¬ (1 = 0) by omega, show ¬ (1 = 2) by omega, show ¬ (1 = 3) by omega, show ¬ (1 = 4) by omega, show ¬ (2 = 0) by omega, show ¬ (2 = 1) by omega, show ¬ (2 = 3) by omega, show ¬ (2 = 4) by omega, show ¬ (3 = 0) by omega, show ¬ (3 = 1) by omega, show ¬ (3 = 2) by omega, show ¬ (3 = 4) by omega, show ¬ (4 = 0) by omega, show ¬ (4 = 1) by omega, show ¬ (4 = 2) by omega, show ¬ (4 = 3) by omega]
  omega
theorem prod_step (a b : List (BitVec 64)) (ha : small5 a) (hb : small5 b) (t : Nat) (ht : t < 25) :
  val5 (prodTo a b (t + 1)) = val5 (prodTo a b t) + cc ((t / 5 + t % 5) % 5) * (pX a b (t / 5) (t % 5)).toNat := by
 have h1 := prodTo_lt a b ha hb t (by omega) ((t / 5 + t % 5) % 5) (by omega)
 have h2 := pX_lt a b ha hb (t / 5) (t % 5) (by omega) (by omega)
 have h3 : t * 36028797018963968 ≤ 24 * 36028797018963968 := Nat.mul_le_mul_right _ (by omega)
 rw [prodTo, val5_set _ (prodTo_length a b t) _ (by omega) _ (by omega)]
theorem cc_add (i j : Nat) : cc (i + j) = cc i * cc j := Nat.pow_add _ _ _
theorem cc_five : cc 5 = 5 + prm := by decide
theorem mod_plus {a b c d p : Nat} (h1 : a % p = b % p) (h2 : c % p = d % p) : (a + c) % p = (b + d) % p := by
 rw [Nat.add_mod, h1, h2, ← Nat.add_mod]
theorem pX_mod (a b : List (BitVec 64)) (ha : small5 a) (hb : small5 b) (i j : Nat) (hi : i < 5) (hj : j < 5) :
  (cc ((i + j) % 5) * (pX a b i j).toNat) % prm = (cc i * pn a i * (cc j * pn b j)) % prm := by
 have h1 := ha i hi
 have h2 := hb j hj
 unfold pn at h1 h2 ⊢
 have h3 : (nth a i).toNat * (nth b j).toNat ≤ 67108863 * 67108863 := Nat.mul_le_mul (by omega) (by omega)
 have h4 : (nth a i * nth b j).toNat = (nth a i).toNat * (nth b j).toNat := by rw [BitVec.toNat_mul]; omega
 have h5 : cc i * (nth a i).toNat * (cc j * (nth b j).toNat) = cc (i + j) * ((nth a i).toNat * (nth b j).toNat) := by
  rw [cc_add, Nat.mul_mul_mul_comm]
 rw [h5]
 unfold pX
 by_cases h : 5 ≤ i + j
 ·rw [if_pos h, BitVec.toNat_mul, h4, show (5#64).toNat = 5 from rfl]
  generalize (nth a i).toNat * (nth b j).toNat = g at h3 ⊢
  rw [show g * 5 % 2 ^ 64 = g * 5 from Nat.mod_eq_of_lt (by omega), show (i + j) % 5 = i + j - 5 by omega, show cc (i + j) = cc (i + j - 5) * (5 + prm) by rw [← cc_five, ← cc_add]; congr 1; omega]
  rw [Nat.mul_assoc, Nat.add_mul, Nat.mul_add, Nat.mul_left_comm _ prm g, Nat.add_mul_mod_self_left, Nat.mul_comm g 5]
 ·rw [if_neg h, h4, show (i + j) % 5 = i + j by omega]
def sq (a b : List (BitVec 64)) : Nat → Nat
 | 0 => 0
 | t + 1 => sq a b t + cc (t / 5) * pn a (t / 5) * (cc (t % 5) * pn b (t % 5))
theorem prod_sq (a b : List (BitVec 64)) (ha : small5 a) (hb : small5 b) : ∀ t, t ≤ 25 → val5 (prodTo a b t) % prm = sq a b t % prm
 | 0, _ => by
  show val5 (zeros 64 5) % prm = 0 % prm
  decide
 | t + 1, ht => by
  rw [prod_step a b ha hb t (by omega), sq]
  exact mod_plus (prod_sq a b ha hb t (by omega)) (pX_mod a b ha hb _ _ (by omega) (by omega))
theorem sq_all (a b : List (BitVec 64)) : sq a b 25 = val5 a * val5 b := by
 rw [val5_cc, val5_cc]
 obtain ⟨f, hf⟩ : ∃ f : Nat → Nat, ∀ i, f i = cc i * pn a i := ⟨fun i => cc i * pn a i, fun _ => rfl⟩
 obtain ⟨g, hg⟩ : ∃ g : Nat → Nat, ∀ i, g i = cc i * pn b i := ⟨fun i => cc i * pn b i, fun _ => rfl⟩
 simp only [sq, ← hf, ← hg]
 show 0 + f 0 * g 0 + f 0 * g 1 + f 0 * g 2 + f 0 * g 3 + f 0 * g 4 + f 1 * g 0 + f 1 * g 1 + f 1 * g 2 + f 1 * g 3 + f 1 * g 4 + f 2 * g 0 + f 2 * g 1 + f 2 * g 2 + f 2 * g 3 + f 2 * g 4 + f 3 * g 0 + f 3 * g 1 + f 3 * g 2 + f 3 * g 3 + f 3 * g 4 + f 4 * g 0 + f 4 * g 1 + f 4 * g 2 + f 4 * g 3 + f 4 * g 4 = _
 simp only [Nat.add_mul, Nat.mul_add]
 omega
theorem n5_timesN (a b : List (BitVec 32)) : n5 (timesN a b) = n5 a * n5 b % prm := by
 have ha := formN_small a
 have hb := formN_small b
 rw [timesN, n5_tidyL _ (fun i hi => by
  have := prodTo_lt _ _ ha hb 25 (by omega) i hi
  omega), prod_sq _ _ ha hb 25 (by omega), sq_all]
 show n5 (formN a) * n5 (formN b) % prm = _
 rw [n5_formN, n5_formN, ← Nat.mul_mod]
theorem or_apart (k a b : Nat) (hb : b < 2 ^ k) : b ||| 2 ^ k * a = b + 2 ^ k * a := by
 rw [Nat.or_comm, ← Nat.two_pow_add_eq_or_of_lt hb, Nat.add_comm]
theorem val_ofW (X : W2) (h : BitVec 32) : val5 (ofW X h) = X.1.toNat + 18446744073709551616 * X.2.toNat + 340282366920938463463374607431768211456 * h.toNat := by
 obtain ⟨x, y⟩ := X
 have hx := x.isLt
 have hy := y.isLt
 have hh := h.isLt
 have e0 : pn (ofW (x, y) h) 0 = x.toNat % 67108864 := and_msk _
 have e1 : pn (ofW (x, y) h) 1 = x.toNat / 67108864 % 67108864 := by
  rw [← shr26]; exact and_msk _
 have e2 : pn (ofW (x, y) h) 2 = (x.toNat / 4503599627370496 + 4096 * (y.toNat % 4503599627370496)) % 67108864 := by
  show ((x >>> 52 ||| y <<< 12) &&& msk).toNat = _
  rw [and_msk, BitVec.toNat_or, BitVec.toNat_ushiftRight, BitVec.toNat_shiftLeft, Nat.shiftRight_eq_div_pow, Nat.shiftLeft_eq]
  rw [show y.toNat * 2 ^ 12 % 2 ^ 64 = 2 ^ 12 * (y.toNat % 4503599627370496) by omega, or_apart _ _ _ (by omega)]
 have e3 : pn (ofW (x, y) h) 3 = y.toNat / 16384 % 67108864 := by
  show ((y >>> 14) &&& msk).toNat = _
  rw [and_msk, BitVec.toNat_ushiftRight, Nat.shiftRight_eq_div_pow]
 have e4 : pn (ofW (x, y) h) 4 = y.toNat / 1099511627776 + 16777216 * h.toNat := by
  show (y >>> 40 ||| (h.setWidth 64) <<< 24).toNat = _
  rw [BitVec.toNat_or, BitVec.toNat_ushiftRight, BitVec.toNat_shiftLeft, Nat.shiftRight_eq_div_pow, Nat.shiftLeft_eq, BitVec.toNat_setWidth]
  rw [show h.toNat % 2 ^ 64 * 2 ^ 24 % 2 ^ 64 = 2 ^ 24 * h.toNat by omega, or_apart _ _ _ (by omega)]
 unfold val5
 rw [e0, e1, e2, e3, e4]
 show _ = x.toNat + 18446744073709551616 * y.toNat + _
 omega
theorem numL_sixteen (l : List (BitVec 8)) (h : l.length = 16) : numL l = (long l 0).toNat + 18446744073709551616 * (long l 8).toNat := by
 have e := bytesW_wideN l h
 have h1 := (long l 0).isLt
 have h2 := (long l 8).isLt
 unfold bytesW wideN at e
 rw [le64_pair, show (256:Nat) ^ 8 = 18446744073709551616 from rfl] at e
 conv => lhs; rw [← e]
 exact numL_byN 16 _ (by rw [show (256:Nat) ^ 16 = 340282366920938463463374607431768211456 from rfl]; show (long l 0).toNat + 18446744073709551616 * (long l 8).toNat < _; omega)
theorem n5_ofN (l : List (BitVec 8)) (h : BitVec 32) (hl : l.length = 16) : n5 (ofN l h) = (numL l + 340282366920938463463374607431768211456 * h.toNat) % prm := by
 rw [ofN, n5_tidyL _ (ofW_lt _ _), val_ofW, numL_sixteen l hl]
theorem lowN_byN (x : List (BitVec 32)) : lowN x = byN 16 (n5 x % prm) := by
 have hs := formN_small x
 rw [← n5_formN]
 unfold n5 lowN
 generalize to64 (formN x) = w at hs
 have b0 := hs 0 (by omega)
 have b1 := hs 1 (by omega)
 have b2 := hs 2 (by omega)
 have b3 := hs 3 (by omega)
 have b4 := hs 4 (by omega)
 unfold val5
 unfold pn at *
 have e1 : (lowW w).1.toNat = ((nth w 0).toNat + 67108864 * (nth w 1).toNat + 4503599627370496 * (nth w 2).toNat) % 18446744073709551616 := by
  show (nth w 0 ||| nth w 1 <<< 26 ||| nth w 2 <<< 52).toNat = _
  rw [BitVec.toNat_or, BitVec.toNat_or, BitVec.toNat_shiftLeft, BitVec.toNat_shiftLeft, Nat.shiftLeft_eq, Nat.shiftLeft_eq]
  rw [show (nth w 1).toNat * 2 ^ 26 % 2 ^ 64 = 2 ^ 26 * (nth w 1).toNat by omega, or_apart _ _ _ (by omega)]
  rw [show (nth w 2).toNat * 2 ^ 52 % 2 ^ 64 = 2 ^ 52 * ((nth w 2).toNat % 4096) by omega, or_apart _ _ _ (by omega)]
  omega
 have e2 : (lowW w).2.toNat = ((nth w 2).toNat / 4096 + 16384 * (nth w 3).toNat + 1099511627776 * (nth w 4).toNat) % 18446744073709551616 := by
  show (nth w 2 >>> 12 ||| nth w 3 <<< 14 ||| nth w 4 <<< 40).toNat = _
  rw [BitVec.toNat_or, BitVec.toNat_or, BitVec.toNat_shiftLeft, BitVec.toNat_shiftLeft, Nat.shiftLeft_eq, Nat.shiftLeft_eq, BitVec.toNat_ushiftRight, Nat.shiftRight_eq_div_pow]
  rw [show (nth w 3).toNat * 2 ^ 14 % 2 ^ 64 = 2 ^ 14 * (nth w 3).toNat by omega, or_apart _ _ _ (by omega)]
  rw [show (nth w 4).toNat * 2 ^ 40 % 2 ^ 64 = 2 ^ 40 * ((nth w 4).toNat % 16777216) by omega, or_apart _ _ _ (by omega)]
  omega
 rw [le64_pair, e1, e2, ← byN_mod, ← byN_mod 16 (_ + 20282409603651670423947251286016 * _)]
 congr 1
 rw [show (256:Nat) ^ 16 = 340282366920938463463374607431768211456 from rfl, show (256:Nat) ^ 8 = 18446744073709551616 from rfl]
 omega
def rv (y : Nat) (D : List (BitVec 8)) : Nat → Nat
 | 0 => 0
 | k + 1 => (rv y D k + numL ((D.drop (16 * k)).take 16 ++ [1#8]) % prm) % prm * y % prm
theorem rv_lt (y : Nat) (D : List (BitVec 8)) (k : Nat) : rv y D k < prm := by
 cases k with
 | zero =>
  show 0 < prm
  decide
 | succ k => exact Nat.mod_lt _ (by decide)
def ryN (l : List (BitVec 8)) : Nat := numL (clR l) % prm
def rhN (l D : List (BitVec 8)) : List (BitVec 8) := byN 16 (rv (ryN l) D ((D.length + 15) / 16))
theorem and15 (b : BitVec 8) : b &&& 15#8 = b % 16#8 := by
 apply BitVec.eq_of_toNat_eq
 rw [BitVec.toNat_and, BitVec.toNat_umod, show (15#8).toNat = 2 ^ 4 - 1 from rfl, Nat.and_two_pow_sub_one_eq_mod]; rfl
theorem and252 : ∀ b : BitVec 8, b &&& 252#8 = b / 4#8 * 4#8 := by decide +kernel
theorem clampL_clR (l : List (BitVec 8)) (h : l.length = 16) : clampL l = clR l := by
 match l, h with
 | [a0, a1, a2, a3, a4, a5, a6, a7, a8, a9, a10, a11, a12, a13, a14, a15], _ =>
  show [a0, a1, a2, a3 &&& 15#8, a4 &&& 252#8, a5, a6, a7 &&& 15#8, a8 &&& 252#8, a9, a10, a11 &&& 15#8, a12 &&& 252#8, a13, a14, a15 &&& 15#8] = [a0, a1, a2, a3 % 16#8, a4 / 4#8 * 4#8, a5, a6, a7 % 16#8, a8 / 4#8 * 4#8, a9, a10, a11 % 16#8, a12 / 4#8 * 4#8, a13, a14, a15 % 16#8]
  simp only [and15, and252]
theorem n5_keyP (l : List (BitVec 8)) (h : l.length = 16) : n5 (keyP l) = ryN l := by
 rw [keyP, n5_ofN _ _ (by rw [clampL_clR l h, clR_length]), clampL_clR l h, show (0#32).toNat = 0 from rfl, Nat.mul_zero, Nat.add_zero, ryN]
theorem numL_one (l : List (BitVec 8)) : numL (l ++ [1#8]) = numL l + 256 ^ l.length := by
 rw [numL_append, show numL [1#8] = 1 from rfl, Nat.mul_one]
theorem n5_polyV (ky : List (BitVec 32)) (D : List (BitVec 8)) : ∀ k, 16 * k ≤ D.length → n5 (polyV ky D k) = rv (n5 ky) D k
 | 0, _ => by
  show val5 (to64 (zeros 32 5)) = 0
  decide
 | k + 1, h => by
  rw [polyV, n5_timesN, n5_plusN _ _ (polyV_length ky D k), n5_ofN _ _ (by rw [List.length_take, List.length_drop]; omega), n5_polyV ky D k (by omega), rv, numL_one]
  rw [show ((D.drop (16 * k)).take 16).length = 16 by rw [List.length_take, List.length_drop]; omega]
  rfl
theorem numL_lastP (x : List (BitVec 8)) (h : x.length < 16) : numL (lastP x) = numL (x ++ [1#8]) := by
 obtain ⟨m, hm⟩ : ∃ m, 16 - x.length = m + 1 := ⟨15 - x.length, by omega⟩
 have e : lastP x = x ++ [1#8] ++ zeros 8 m := by
  rw [lastP, hm, show zeros 8 (m + 1) = 0#8 :: zeros 8 m from rfl, List.set_append_right _ _ (Nat.le_refl _), Nat.sub_self, List.set_cons_zero, List.append_assoc]; rfl
 rw [e, numL_append _ (zeros 8 m), numL_zeros, Nat.mul_zero, Nat.add_zero]
theorem n5_polyE (ky : List (BitVec 32)) (D : List (BitVec 8)) : n5 (polyE ky D) = rv (n5 ky) D ((D.length + 15) / 16) := by
 unfold polyE
 by_cases h : D.length % 16 = 0
 ·rw [if_pos h, n5_polyV _ _ _ (by omega)]
  congr 1; omega
 ·rw [if_neg h, n5_timesN, n5_plusN _ _ (polyV_length _ _ _), n5_polyV _ _ _ (by omega), show (D.length + 15) / 16 = D.length / 16 + 1 by omega, rv]
  have hl : (D.drop (16 * (D.length / 16))).length < 16 := by rw [List.length_drop]; omega
  rw [n5_ofN _ _ (lastP_length _ (by omega)), numL_lastP _ hl, List.take_of_length_le (by omega), show (0#32).toNat = 0 from rfl, Nat.mul_zero, Nat.add_zero]
theorem polyT_rhN (l D : List (BitVec 8)) (h : l.length = 16) : polyT (keyP l) D = rhN l D := by
 rw [polyT, lowN_byN, n5_polyE, n5_keyP l h, Nat.mod_eq_of_lt (rv_lt _ _ _), rhN]
def psX (ws : List (BitVec 32)) (b : List (BitVec 8)) (p u i : Nat) : BitVec 64 :=
 nhPlus ((word b (16 * u + 4 * i)).setWidth 64) (nth ws (4 * u + 4 * p + i)) * nhPlus ((word b (16 * u + 4 * i + 8)).setWidth 64) (nth ws (4 * u + 4 * p + i + 2))
def psN (ws : List (BitVec 32)) (b : List (BitVec 8)) (p : Nat) : Nat → BitVec 64
 | 0 => 0#64
 | u + 1 => psN ws b p u + psX ws b p u 0 + psX ws b p u 1
theorem psX_prod (ws : List (BitVec 32)) (b : List (BitVec 8)) (p u : Nat) : nhT ws b u p = psX ws b p u 0 + psX ws b p u 1 := by
 unfold nhT psX
 rw [nhPlus_32, nhPlus_32, nhPlus_32, nhPlus_32]
 rfl
theorem psN_nhTo (ws : List (BitVec 32)) (b : List (BitVec 8)) (p : Nat) (hp : p < 4) : ∀ u, nth (nhTo ws b u) p = psN ws b p u
 | 0 => nth_zeros 64 4 p
 | u + 1 => by
  rw [nhTo, nth_updG _ _ _ _ (by rw [nhTo_length]; exact hp), if_pos hp, psN_nhTo ws b p hp u, psN, psX_prod, BitVec.add_assoc]
def wdsN (key : List (BitVec 8)) (j : Nat) : List (BitVec 32) := (List.range j).map fun i => word key (4 * i)
@[simp] theorem wdsN_length (key : List (BitVec 8)) (j : Nat) : (wdsN key j).length = j := by simp [wdsN]
theorem wdsN_succ (key : List (BitVec 8)) (j : Nat) : wdsN key j ++ [word key (4 * j)] = wdsN key (j + 1) := by simp [wdsN, List.range_succ]
theorem words_wds (key : List (BitVec 8)) : ∀ j, j ≤ 268 → wordsTo key j = wdsN key j ++ zeros 32 (268 - j)
 | 0, _ => rfl
 | j + 1, h => by
  obtain ⟨m, hm⟩ : ∃ m, 268 - j = m + 1 := ⟨267 - j, by omega⟩
  rw [wordsTo, words_wds key j (by omega), List.set_append_right _ _ (by rw [wdsN_length]; exact Nat.le_refl _), wdsN_length, Nat.sub_self, hm, show zeros 32 (m + 1) = 0#32 :: zeros 32 m from rfl, List.set_cons_zero, ← wdsN_succ, List.append_assoc, show 268 - (j + 1) = m by omega]
  rfl
theorem words_all (key : List (BitVec 8)) : wordsTo key 268 = wdsN key 268 := by
 rw [words_wds key 268 (Nat.le_refl _), Nat.sub_self]; exact List.append_nil _
def wN (x : W2) : Nat := x.1.toNat + 18446744073709551616 * x.2.toNat
theorem wN_lt (x : W2) : wN x < 256 ^ 16 := by
 have h1 := x.1.isLt
 have h2 := x.2.isLt
 rw [show (256:Nat) ^ 16 = 340282366920938463463374607431768211456 from rfl, wN]
 omega
theorem bytesW_byN (x : W2) : bytesW x = byN 16 (wN x) := by
 rw [bytesW, le64_pair]; rfl
theorem wN_add (x y : W2) : wN (addW2 x y) = (wN x + wN y) % 256 ^ 16 := by
 obtain ⟨a, b⟩ := x
 obtain ⟨c, d⟩ := y
 have h1 := a.isLt
 have h2 := b.isLt
 have h3 := c.isLt
 have h4 := d.isLt
 show (a + c).toNat + 18446744073709551616 * (b + d + carU a c).toNat = (a.toNat + 18446744073709551616 * b.toNat + (c.toNat + 18446744073709551616 * d.toNat)) % _
 rw [BitVec.toNat_add, BitVec.toNat_add, BitVec.toNat_add, carU, BitVec.toNat_ofNat, show (256:Nat) ^ 16 = 340282366920938463463374607431768211456 from rfl]
 omega
theorem wN_sub (x y : W2) : wN (subW2 x y) = (wN x + 256 ^ 16 - wN y) % 256 ^ 16 := by
 obtain ⟨a, b⟩ := x
 obtain ⟨c, d⟩ := y
 have h1 := a.isLt
 have h2 := b.isLt
 have h3 := c.isLt
 have h4 := d.isLt
 show (a - c).toNat + 18446744073709551616 * (b - d - borU a c).toNat = (a.toNat + 18446744073709551616 * b.toNat + _ - (c.toNat + 18446744073709551616 * d.toNat)) % _
 rw [BitVec.toNat_sub, BitVec.toNat_sub, BitVec.toNat_sub, borU, BitVec.toNat_ofNat, show (256:Nat) ^ 16 = 340282366920938463463374607431768211456 from rfl]
 split <;> omega
def rheadN (key tw : List (BitVec 8)) (n : Nat) : List (BitVec 8) := rhN (blk key) (headB n ++ tw)
def rbodyN (key b : List (BitVec 8)) : List (BitVec 8) := rhN (blk (key.drop 16)) (hpN (wordsTo (key.drop 32) 268) (padN b))
@[simp] theorem rhN_length (l D : List (BitVec 8)) : (rhN l D).length = 16 := by rw [rhN, byN_length]
theorem head_bytes (key tw : List (BitVec 8)) (n : Nat) : bytesW (headN key tw n) = rheadN key tw n := by
 rw [headN, polyT_rhN _ _ (blk_length _), bytesW_wideN _ (rhN_length _ _)]; rfl
theorem body_bytes (key b : List (BitVec 8)) : bytesW (bodyN key b) = rbodyN key b := by
 rw [bodyN, polyT_rhN _ _ (blk_length _), bytesW_wideN _ (rhN_length _ _)]; rfl
end Go.Proofs.YtfdkmjegcghieaaGreatDoor
