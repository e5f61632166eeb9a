/- ring by definition, plain: a product of polynomials, its rest, and divided by x so often -/
import Derived.Test.YtfdkmjegcghieaaGreatDoorRingP
import Derived.Test.YtfdkmjegcghieaaGreatDoorIg
namespace Go.Proofs.YtfdkmjegcghieaaGreatDoor
open Go.RowKit
def fieldF : BitVec 256 := 0x1c2000000000000000000000000000001#256
def wideB (x : BitVec 128) : BitVec 256 := x.setWidth 256
def mulTo (p q : BitVec 256) : Nat → BitVec 256
  | 0 => 0#256
  | i + 1 => mulTo p q i ^^^ (if q.getLsbD i then p <<< i else 0#256)
def redS (q : BitVec 256) (i : Nat) : BitVec 256 := q ^^^ (if q.getLsbD i then fieldF <<< (i - 128) else 0#256)
def redTo (q : BitVec 256) : Nat → BitVec 256
  | 0 => q
  | t + 1 => redS (redTo q t) (254 - t)
def halfS (p : BitVec 256) : BitVec 256 := (p ^^^ (if p.getLsbD 0 then fieldF else 0#256)) >>> 1
def halfTo (p : BitVec 256) : Nat → BitVec 256
  | 0 => p
  | t + 1 => halfS (halfTo p t)
theorem wideB_xor (a b : BitVec 128) : wideB (a ^^^ b) = wideB a ^^^ wideB b := by
  apply BitVec.eq_of_getLsbD_eq; intro i hi; simp [wideB]
theorem redS_xor (a b : BitVec 256) (i : Nat) : redS (a ^^^ b) i = redS a i ^^^ redS b i := by
  unfold redS
  rw [BitVec.getLsbD_xor, if_xor, xor_four]
theorem redTo_xor (a b : BitVec 256) : ∀ t, redTo (a ^^^ b) t = redTo a t ^^^ redTo b t
  | 0 => rfl
  | t + 1 => by rw [redTo, redTo_xor a b t, redS_xor, redTo, redTo]
theorem halfS_xor (a b : BitVec 256) : halfS (a ^^^ b) = halfS a ^^^ halfS b := by
  unfold halfS
  rw [BitVec.getLsbD_xor, if_xor, xor_four, BitVec.ushiftRight_xor_distrib]
theorem redTo_zero : ∀ t, redTo 0#256 t = 0#256
  | 0 => rfl
  | t + 1 => by rw [redTo, redTo_zero t]; simp [redS]
theorem ups_bit (j : Nat) (h : j < 128) : ups 1#128 j = 1#128 <<< j := by
  have hall : ∀ j : Fin 128, ups 1#128 j.1 = 1#128 <<< j.1 := of_decide_eq_true (by kernel_rfl)
  exact hall ⟨j, h⟩
theorem red_bit (j : Nat) (h : j < 255) : redTo (1#256 <<< j) 127 = wideB (ups 1#128 j) := by
  have hall : ∀ j : Fin 255, redTo (1#256 <<< j.1) 127 = wideB (ups 1#128 j.1) := of_decide_eq_true (by kernel_rfl)
  exact hall ⟨j, h⟩
theorem wide_bit (j : Nat) (h : j < 128) : wideB (1#128 <<< j) = 1#256 <<< j := by
  have hall : ∀ j : Fin 128, wideB (1#128 <<< j.1) = 1#256 <<< j.1 := of_decide_eq_true (by kernel_rfl)
  exact hall ⟨j, h⟩
theorem red_shift (p : BitVec 128) (i : Nat) (hi : i < 128) : redTo (wideB p <<< i) 127 = wideB (ups p i) :=
  linN (f := fun p => redTo (wideB p <<< i) 127) (g := fun p => wideB (ups p i)) (fun a b => by rw [wideB_xor, BitVec.shiftLeft_xor_distrib, redTo_xor]) (fun a b => by rw [ups_xor, wideB_xor])
    (fun j hj => by rw [wide_bit j hj, ← BitVec.shiftLeft_add, red_bit (j + i) (by omega), ← ups_bit j hj, ups_add]) p
theorem redTo_if (b : Bool) (x : BitVec 256) (t : Nat) : redTo (if b then x else 0#256) t = if b then redTo x t else 0#256 := by cases b; exact redTo_zero t; rfl
theorem wideB_if (b : Bool) (x : BitVec 128) : wideB (if b then x else 0#128) = if b then wideB x else 0#256 := by cases b; rfl; rfl
theorem wideB_bit (q : BitVec 128) (i : Nat) (h : i < 128) : (wideB q).getLsbD i = q.getLsbD i := by simp [wideB]; omega
theorem red_mulTo (p q : BitVec 128) : ∀ i, i ≤ 128 → redTo (mulTo (wideB p) (wideB q) i) 127 = wideB (evTo p q i)
  | 0, _ => by rw [mulTo, redTo_zero]; rfl
  | i + 1, h => by rw [mulTo, redTo_xor, red_mulTo p q i (by omega), redTo_if, red_shift p i (by omega), wideB_bit _ _ (by omega), evTo, wideB_xor, wideB_if]
theorem half_wide (z : BitVec 128) : halfS (wideB z) = wideB (downB z) :=
  linN (f := fun z => halfS (wideB z)) (g := fun z => wideB (downB z)) (fun a b => by rw [wideB_xor, halfS_xor]) (fun a b => by rw [downB_xor, wideB_xor]) (fun j hj => by
    have hall : ∀ j : Fin 128, halfS (wideB (1#128 <<< j.1)) = wideB (downB (1#128 <<< j.1)) := of_decide_eq_true (by kernel_rfl)
    exact hall ⟨j, hj⟩) z
theorem halfTo_wide (z : BitVec 128) : ∀ t, halfTo (wideB z) t = wideB (downs z t)
  | 0 => rfl
  | t + 1 => by rw [halfTo, halfTo_wide z t, half_wide, downs]
/-- a dot by definition is a dot -/
theorem def_dot (p q : BitVec 128) : halfTo (redTo (mulTo (wideB p) (wideB q) 128) 127) 128 = wideB (dotB p q) := by
  rw [red_mulTo p q 128 (Nat.le_refl _), halfTo_wide]; rfl
end Go.Proofs.YtfdkmjegcghieaaGreatDoor
/- ring, plain: a row of bytes as a number, its half bytes -/
namespace Go.Proofs.YtfdkmjegcghieaaGreatDoor
open Go.RowKit
theorem gath_bit (l : List (BitVec 8)) (p : Nat) : ∀ n i, i < 64 → (gath l p n).getLsbD i = (decide (i < 8 * n) && (nth l (p + i / 8)).getLsbD (i % 8))
  | 0, i, _ => by simp [gath]
  | n + 1, i, hi => by
    rw [gath, BitVec.getLsbD_or, gath_bit l p n i hi, BitVec.getLsbD_shiftLeft, BitVec.getLsbD_setWidth]
    by_cases h : i < 8 * n
    · simp [h, show i < 8 * (n + 1) by omega]
    · by_cases h2 : i < 8 * (n + 1)
      · have e1 : i / 8 = n := by omega
        have e2 : i - 8 * n = i % 8 := by omega
        have e3 : i % 8 < 64 := by omega
        simp [h, h2, e1, e2, hi, e3]
      · have : (nth l (p + n)).getLsbD (i - 8 * n) = false := BitVec.getLsbD_of_ge _ _ (by omega)
        simp [h, h2, this]
/-- a row of bytes as a number -/
def numB (l : List (BitVec 8)) : BitVec 128 := tb (long l 0, long l 8)
theorem numB_bit (l : List (BitVec 8)) (i : Nat) (hi : i < 128) : (numB l).getLsbD i = (nth l (i / 8)).getLsbD (i % 8) := by
  unfold numB tb
  rw [BitVec.getLsbD_append]
  by_cases h : i < 64
  · rw [if_pos h]
    show (gath l 0 8).getLsbD i = _
    rw [gath_bit _ _ _ _ h]; simp [h]
  · rw [if_neg h]
    show (gath l 8 8).getLsbD (i - 64) = _
    have h2 : i - 64 < 64 := by omega
    rw [gath_bit _ _ _ _ h2, show 8 + (i - 64) / 8 = i / 8 by omega, show (i - 64) % 8 = i % 8 by omega]
    simp [h2]
theorem nib_bits (l : List (BitVec 8)) (k : Nat) (hk : k < 32) : (numB l >>> (4 * (31 - k))).toNat % 16 = (nibB (nth l (15 - k / 2)) (k % 2)).toNat := by
  have e : (numB l >>> (4 * (31 - k))).setWidth 4 = (nibB (nth l (15 - k / 2)) (k % 2)).setWidth 4 := by
    apply BitVec.eq_of_getLsbD_eq
    intro i hi
    rw [BitVec.getLsbD_setWidth, BitVec.getLsbD_setWidth, BitVec.getLsbD_ushiftRight, numB_bit _ _ (by omega)]
    congr 1
    unfold nibB
    by_cases h : k % 2 = 0
    · rw [if_pos h, BitVec.getLsbD_ushiftRight, show (4 * (31 - k) + i) / 8 = 15 - k / 2 by omega, show (4 * (31 - k) + i) % 8 = 4 + i by omega]
    · rw [if_neg h, BitVec.getLsbD_and, show (4 * (31 - k) + i) / 8 = 15 - k / 2 by omega, show (4 * (31 - k) + i) % 8 = i by omega]
      have : i = 0 ∨ i = 1 ∨ i = 2 ∨ i = 3 := by omega
      rcases this with rfl | rfl | rfl | rfl <;> simp
  have h1 := congrArg BitVec.toNat e
  rw [BitVec.toNat_setWidth, BitVec.toNat_setWidth, Nat.mod_eq_of_lt (nibB_lt _ _)] at h1
  exact h1
theorem dotL_dotN (t : Nat → W2) (l : List (BitVec 8)) : ∀ k, k ≤ 32 → dotL t l k = dotN t (numB l) k
  | 0, _ => rfl
  | k + 1, hk => by rw [dotL, dotN, dotL_dotN t l k (by omega), nib_bits l k (by omega)]
/-- a dot by a table -/
theorem dotL_dot (h l : List (BitVec 8)) : tb (dotL (tabW (oneW h)) l 32) = dotB (numB h) (numB l) := by
  rw [dotL_dotN _ _ 32 (Nat.le_refl _), oneW, dotN_dot]; rfl
end Go.Proofs.YtfdkmjegcghieaaGreatDoor
