/- prime: parts carried and put in form, plain -/
import Derived.Test.YtpifdkkhdgbcdaaGreatDoorMGa
namespace Go.Proofs.YtpifdkkhdgbcdaaGreatDoor
set_option linter.unusedSimpArgs false
set_option maxRecDepth 100000
set_option maxHeartbeats 1600000
def msk : BitVec 64 := 67108863#64
def cq0 (w : List (BitVec 64)) : BitVec 64 := nth w 0 + 0#64
def cq1 (w : List (BitVec 64)) : BitVec 64 := nth w 1 + (cq0 w >>> 26)
def cq2 (w : List (BitVec 64)) : BitVec 64 := nth w 2 + (cq1 w >>> 26)
def cq3 (w : List (BitVec 64)) : BitVec 64 := nth w 3 + (cq2 w >>> 26)
def cq4 (w : List (BitVec 64)) : BitVec 64 := nth w 4 + (cq3 w >>> 26)
def carr (w : List (BitVec 64)) : List (BitVec 64) :=
 [(cq0 w &&& msk) + 5#64 * (cq4 w >>> 26), cq1 w &&& msk, cq2 w &&& msk, cq3 w &&& msk, cq4 w &&& msk]
@[simp] theorem carr_length (w : List (BitVec 64)) : (carr w).length = 5 := rfl
theorem and_msk (x : BitVec 64) : (x &&& msk).toNat = x.toNat % 67108864 := by
 rw [BitVec.toNat_and, show msk.toNat = 2 ^ 26 - 1 from rfl, Nat.and_two_pow_sub_one_eq_mod]
theorem shr26 (x : BitVec 64) : (x >>> 26).toNat = x.toNat / 67108864 := by
 rw [BitVec.toNat_ushiftRight, Nat.shiftRight_eq_div_pow]
def pn (w : List (BitVec 64)) (i : Nat) : Nat := (nth w i).toNat
structure CarN (w : List (BitVec 64)) (a0 a1 a2 a3 a4 c : Nat) : Prop where
 h0 : a0 = pn w 0
 h1 : a1 = pn w 1 + a0 / 67108864
 h2 : a2 = pn w 2 + a1 / 67108864
 h3 : a3 = pn w 3 + a2 / 67108864
 h4 : a4 = pn w 4 + a3 / 67108864
 r0 : pn (carr w) 0 = a0 % 67108864 + 5 * (a4 / 67108864)
 r1 : pn (carr w) 1 = a1 % 67108864
 r2 : pn (carr w) 2 = a2 % 67108864
 r3 : pn (carr w) 3 = a3 % 67108864
 r4 : pn (carr w) 4 = a4 % 67108864
theorem carN (w : List (BitVec 64)) (hw : ∀ i, i < 5 → pn w i < 2 ^ 60) : ∃ a0 a1 a2 a3 a4, CarN w a0 a1 a2 a3 a4 0 := by
 have b0 := hw 0 (by omega)
 have b1 := hw 1 (by omega)
 have b2 := hw 2 (by omega)
 have b3 := hw 3 (by omega)
 have b4 := hw 4 (by omega)
 unfold pn at b0 b1 b2 b3 b4
 have e0 : (cq0 w).toNat = (nth w 0).toNat := by rw [cq0, BitVec.toNat_add]; simp; omega
 have e1 : (cq1 w).toNat = (nth w 1).toNat + (cq0 w).toNat / 67108864 := by rw [cq1, BitVec.toNat_add, shr26]; omega
 have e2 : (cq2 w).toNat = (nth w 2).toNat + (cq1 w).toNat / 67108864 := by rw [cq2, BitVec.toNat_add, shr26]; omega
 have e3 : (cq3 w).toNat = (nth w 3).toNat + (cq2 w).toNat / 67108864 := by rw [cq3, BitVec.toNat_add, shr26]; omega
 have e4 : (cq4 w).toNat = (nth w 4).toNat + (cq3 w).toNat / 67108864 := by rw [cq4, BitVec.toNat_add, shr26]; omega
 refine ⟨_, _, _, _, _, e0, e1, e2, e3, e4, ?_, and_msk _, and_msk _, and_msk _, and_msk _⟩
 show ((cq0 w &&& msk) + 5#64 * (cq4 w >>> 26)).toNat = _
 rw [BitVec.toNat_add, BitVec.toNat_mul, and_msk, shr26, show (5#64).toNat = 5 from rfl]
 omega
theorem carr_same (w v : List (BitVec 64)) (hv : v.length = 5) (hw : w.length = 5) (h : ∀ i, i < 5 → pn w i = pn v i) : w = v := by
 apply List.ext_getElem (by omega)
 intro i h1 h2
 have := h i (by omega)
 unfold pn nth at this
 apply BitVec.eq_of_toNat_eq
 simpa [List.getD_eq_getElem?_getD, h1, h2] using this
def small5 (w : List (BitVec 64)) : Prop := ∀ i, i < 5 → pn w i < 67108864
theorem carr_small (w : List (BitVec 64)) (hl : w.length = 5) (h : small5 w) : carr w = w := by
 obtain ⟨a0, a1, a2, a3, a4, H⟩ := carN w (fun i hi => by have := h i hi; omega)
 have b0 := h 0 (by omega)
 have b1 := h 1 (by omega)
 have b2 := h 2 (by omega)
 have b3 := h 3 (by omega)
 have b4 := h 4 (by omega)
 obtain ⟨h0, h1, h2, h3, h4, r0, r1, r2, r3, r4⟩ := H
 refine carr_same _ _ hl rfl fun i hi => ?_
 obtain rfl | rfl | rfl | rfl | rfl : i = 0 ∨ i = 1 ∨ i = 2 ∨ i = 3 ∨ i = 4 := by omega
 all_goals omega
theorem carr3_small (w : List (BitVec 64)) (hw : ∀ i, i < 5 → pn w i < 2 ^ 60) : small5 (carr (carr (carr w))) := by
 obtain ⟨a0, a1, a2, a3, a4, h0, h1, h2, h3, h4, r0, r1, r2, r3, r4⟩ := carN w hw
 have b0 := hw 0 (by omega)
 have b1 := hw 1 (by omega)
 have b2 := hw 2 (by omega)
 have b3 := hw 3 (by omega)
 have b4 := hw 4 (by omega)
 have q0 : pn (carr w) 0 < 2 ^ 38 := by omega
 have q1 : pn (carr w) 1 < 67108864 := by omega
 have q2 : pn (carr w) 2 < 67108864 := by omega
 have q3 : pn (carr w) 3 < 67108864 := by omega
 have q4 : pn (carr w) 4 < 67108864 := by omega
 clear h0 h1 h2 h3 h4 r0 r1 r2 r3 r4 b0 b1 b2 b3 b4 hw
 generalize carr w = v at *
 obtain ⟨a0, a1, a2, a3, a4, h0, h1, h2, h3, h4, r0, r1, r2, r3, r4⟩ := carN v (fun i hi => by
  obtain rfl | rfl | rfl | rfl | rfl : i = 0 ∨ i = 1 ∨ i = 2 ∨ i = 3 ∨ i = 4 := by omega
  all_goals omega)
 have p0 : pn (carr v) 0 < 67108869 := by omega
 have p1 : pn (carr v) 1 < 67108864 := by omega
 have p2 : pn (carr v) 2 < 67108864 := by omega
 have p3 : pn (carr v) 3 < 67108864 := by omega
 have p4 : pn (carr v) 4 < 67108864 := by omega
 clear h0 h1 h2 h3 h4 r0 r1 r2 r3 r4 q0 q1 q2 q3 q4
 generalize carr v = u at *
 obtain ⟨a0, a1, a2, a3, a4, h0, h1, h2, h3, h4, r0, r1, r2, r3, r4⟩ := carN u (fun i hi => by
  obtain rfl | rfl | rfl | rfl | rfl : i = 0 ∨ i = 1 ∨ i = 2 ∨ i = 3 ∨ i = 4 := by omega
  all_goals omega)
 intro i hi
 obtain rfl | rfl | rfl | rfl | rfl : i = 0 ∨ i = 1 ∨ i = 2 ∨ i = 3 ∨ i = 4 := by omega
 all_goals omega
def carK (w : List (BitVec 64)) : Nat → List (BitVec 64)
 | 0 => w
 | k + 1 => carr (carK w k)
theorem carK_stay (w : List (BitVec 64)) (k : Nat) (h : carr (carK w k) = carK w k) : ∀ j, carK w (k + j) = carK w k
 | 0 => rfl
 | j + 1 => by rw [← Nat.add_assoc, carK, carK_stay w k h j, h]
theorem carK3 (w : List (BitVec 64)) (hw : ∀ i, i < 5 → pn w i < 2 ^ 60) : carr (carK w 3) = carK w 3 := carr_small _ rfl (carr3_small w hw)
theorem carK_end (w : List (BitVec 64)) (hw : ∀ i, i < 5 → pn w i < 2 ^ 60) (k : Nat) (h : carr (carK w k) = carK w k) : carK w k = carK w 3 := by
 by_cases hk : k ≤ 3
 ·have := carK_stay w k h (3 - k)
  rw [show k + (3 - k) = 3 by omega] at this
  exact this.symm
 ·have := carK_stay w 3 (carK3 w hw) (k - 3)
  rw [show 3 + (k - 3) = k by omega] at this
  exact this
def topB (w : List (BitVec 64)) : Bool := nth w 1 == msk && nth w 2 == msk && nth w 3 == msk && nth w 4 == msk && decide (67108858 < (nth w 0).toNat)
def normL (w : List (BitVec 64)) : List (BitVec 64) := if topB w then [nth w 0 - 67108859#64, 0#64, 0#64, 0#64, 0#64] else w
def tidyW (w : List (BitVec 64)) : List (BitVec 64) := normL (carK w 3)
def to32 (w : List (BitVec 64)) : List (BitVec 32) := w.map fun x => x.setWidth 32
def to64 (w : List (BitVec 32)) : List (BitVec 64) := w.map fun x => x.setWidth 64
def tidyL (w : List (BitVec 64)) : List (BitVec 32) := to32 (tidyW w)
theorem normL_small (w : List (BitVec 64)) (h : small5 w) : small5 (normL w) := by
 unfold normL
 split
 ·intro i hi
  have h0 := h 0 (by omega)
  obtain rfl | rfl | rfl | rfl | rfl : i = 0 ∨ i = 1 ∨ i = 2 ∨ i = 3 ∨ i = 4 := by omega
  ·rename_i hb
   simp only [topB, Bool.and_eq_true, decide_eq_true_eq] at hb
   have h5 := hb.2
   unfold pn at h0 ⊢
   show (nth w 0 - 67108859#64).toNat < _
   rw [BitVec.toNat_sub]; simp; omega
  all_goals (show (0#64).toNat < _; decide)
 ·exact h
theorem normL_length (w : List (BitVec 64)) (h : w.length = 5) : (normL w).length = 5 := by
 unfold normL; split
 ·rfl
 ·exact h
theorem tidyW_small (w : List (BitVec 64)) (hw : ∀ i, i < 5 → pn w i < 2 ^ 60) : small5 (tidyW w) := normL_small _ (carr3_small w hw)
theorem tidyW_length (w : List (BitVec 64)) : (tidyW w).length = 5 := normL_length _ rfl
@[simp] theorem tidyL_length (w : List (BitVec 64)) : (tidyL w).length = 5 := by simp [tidyL, to32, tidyW_length]
@[simp] theorem to64_length (w : List (BitVec 32)) : (to64 w).length = w.length := by simp [to64]
theorem pn_to64 (w : List (BitVec 32)) (i : Nat) : pn (to64 w) i = (nth w i).toNat := by
 unfold pn nth to64
 by_cases h : i < w.length
 ·simp [List.getD_eq_getElem?_getD, h]
  omega
 ·simp [List.getD_eq_getElem?_getD, h]
end Go.Proofs.YtpifdkkhdgbcdaaGreatDoor
