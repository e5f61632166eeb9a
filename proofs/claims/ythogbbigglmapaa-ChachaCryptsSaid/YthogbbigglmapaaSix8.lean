/- sixty: the text bit by bit is the text; plain -/
import Derived.Test.YthogbbigglmapaaSix7
namespace Go.Proofs.Ythogbbigglmapaa
open Go.RowKit
theorem nth_over (l : List (BitVec 8)) (i : Nat) (h : l.length ≤ i) : nth l i = 0 := by
  simp [nth, List.getD_eq_getElem?_getD, List.getElem?_eq_none h]
theorem bitAt_eq (l : List (BitVec 8)) (k : Nat) : bitAt l k = (nth l (k / 8)).getLsbD (7 - k % 8) := by
  unfold bitAt
  by_cases h : k < 8 * l.length
  · rw [decide_eq_true h, Bool.true_and]
  · rw [decide_eq_false h, Bool.false_and, nth_over l _ (by omega)]; simp
theorem bit_wd (l : List (BitVec 8)) (k : Nat) (hk : k < 24) : bitAt l k = (wd (nth l 0) (nth l 1) (nth l 2)).getLsbD (23 - k) := by
  rw [bitAt_eq, wd_bit _ _ _ _ (by omega)]
  by_cases h1 : k < 8
  · rw [if_neg (by omega), if_neg (by omega), show k / 8 = 0 by omega, show 23 - k - 16 = 7 - k % 8 by omega]
  · by_cases h2 : k < 16
    · rw [if_neg (by omega), if_pos (by omega), show k / 8 = 1 by omega, show 23 - k - 8 = 7 - k % 8 by omega]
    · rw [if_pos (by omega), show k / 8 = 2 by omega, show 23 - k = 7 - k % 8 by omega]
theorem six_sum : ∀ x : Fin 64, 2 * (2 * (2 * (2 * (2 * (2 * 0 + ((BitVec.ofNat 8 x.val).getLsbD 5).toNat) + ((BitVec.ofNat 8 x.val).getLsbD 4).toNat) + ((BitVec.ofNat 8 x.val).getLsbD 3).toNat) + ((BitVec.ofNat 8 x.val).getLsbD 2).toNat) + ((BitVec.ofNat 8 x.val).getLsbD 1).toNat) + ((BitVec.ofNat 8 x.val).getLsbD 0).toNat = x.val := by decide +kernel
theorem six_lt (n : BitVec 32) (k : Nat) : (six n k).toNat < 64 := by
  unfold six
  have := and63_lt (n >>> (18 - 6 * k))
  rw [BitVec.toNat_setWidth, Nat.mod_eq_of_lt (by omega)]
  exact this
theorem val_six (l : List (BitVec 8)) (t : Nat) (ht : t < 4) : valB l (6 * t) 6 = (six (wd (nth l 0) (nth l 1) (nth l 2)) t).toNat := by
  generalize hn : wd (nth l 0) (nth l 1) (nth l 2) = n
  have hb : ∀ i, i < 6 → bitAt l (6 * t + i) = (six n t).getLsbD (5 - i) := by
    intro i hi
    rw [bit_wd l _ (by omega), six_bit, decide_eq_true (by omega), Bool.true_and, hn]
    congr 1
    omega
  have hs := six_sum ⟨(six n t).toNat, six_lt n t⟩
  simp only [BitVec.ofNat_toNat, BitVec.setWidth_eq] at hs
  rw [← hs]
  simp only [valB, hb 0 (by omega), hb 1 (by omega), hb 2 (by omega), hb 3 (by omega), hb 4 (by omega), hb 5 (by omega)]
theorem sig_nth (n : BitVec 32) (k : Nat) : sig n k = nth signs (six n k).toNat := by
  rw [sig_six]
  unfold sgn
  rw [BitVec.toNat_setWidth, Nat.mod_eq_of_lt (by have := six_lt n k; omega)]
theorem enc_group (l : List (BitVec 8)) (t : Nat) (ht : t < 4) : nth signs (valB l (6 * t) 6) = sig (wd (nth l 0) (nth l 1) (nth l 2)) t := by
  rw [val_six l t ht, sig_nth]
theorem encR_sigs (l : List (BitVec 8)) (m : Nat) (hm : m ≤ 4) : encR l m = sigs (wd (nth l 0) (nth l 1) (nth l 2)) m := by
  unfold encR sigs
  apply List.map_congr_left
  intro t ht
  exact enc_group l t (by have := List.mem_range.1 ht; omega)
theorem bit_cons3 (a b c : BitVec 8) (r : List (BitVec 8)) (k : Nat) : bitAt (a :: b :: c :: r) (24 + k) = bitAt r k := by
  rw [bitAt_eq, bitAt_eq, show (24 + k) / 8 = k / 8 + 3 by omega, show (24 + k) % 8 = k % 8 by omega]
  rfl
theorem val_cons3 (a b c : BitVec 8) (r : List (BitVec 8)) (at_ q : Nat) : valB (a :: b :: c :: r) (24 + at_) q = valB r at_ q := by
  induction q with
  | zero => rfl
  | succ q ih => rw [valB, valB, ih, Nat.add_assoc, bit_cons3]
theorem encR_enc : ∀ l : List (BitVec 8), encR l ((8 * l.length + 5) / 6) = enc l
  | [] => rfl
  | [a] => by
    rw [show (8 * [a].length + 5) / 6 = 2 by simp]
    exact encR_sigs [a] 2 (by omega)
  | [a, b] => by
    rw [show (8 * [a, b].length + 5) / 6 = 3 by simp]
    exact encR_sigs [a, b] 3 (by omega)
  | a :: b :: c :: r => by
    have ih := encR_enc r
    have e : (8 * (a :: b :: c :: r).length + 5) / 6 = 4 + (8 * r.length + 5) / 6 := by simp only [List.length_cons]; omega
    have h4 := encR_sigs (a :: b :: c :: r) 4 (Nat.le_refl _)
    have key : encR (a :: b :: c :: r) (4 + (8 * r.length + 5) / 6) = encR (a :: b :: c :: r) 4 ++ encR r ((8 * r.length + 5) / 6) := by
      generalize (8 * r.length + 5) / 6 = m
      unfold encR
      rw [List.range_add, List.map_append, List.map_map]
      refine congrArg (fun z => List.map (fun t => nth signs (valB (a :: b :: c :: r) (6 * t) 6)) (List.range 4) ++ z) ?_
      apply List.map_congr_left
      intro t _
      show nth signs (valB (a :: b :: c :: r) (6 * (4 + t)) 6) = _
      rw [show 6 * (4 + t) = 24 + 6 * t by omega, val_cons3]
    rw [e, key, ih, h4]
    rfl
end Go.Proofs.Ythogbbigglmapaa
