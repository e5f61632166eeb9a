/- sixty by definition: Decode -/
import Derived.Test.YthogbbigglmapaaSix7
namespace Go.Proofs.Ythogbbigglmapaa
open Go.RowKit
def bitS (s : List (BitVec 8)) (p : Nat) : Bool := ((num (nth s (p / 6))).getD 0#8).getLsbD (5 - p % 6)
/-- what came out of p bits -/
def outR (s : List (BitVec 8)) (m : Nat) : Nat → List (BitVec 8)
  | 0 => zeros 8 m
  | p + 1 => if bitS s p then (outR s m p).set (p / 8) (nth (outR s m p) (p / 8) + 1#8 <<< (7 - p % 8)) else outR s m p
theorem outR_length (s : List (BitVec 8)) (m p : Nat) : (outR s m p).length = m := by
  induction p with
  | zero => simp [outR]
  | succ p ih => unfold outR; split <;> simp [ih]
def refDec (s : List (BitVec 8)) : Option (List (BitVec 8)) :=
  if s.length % 4 ≠ 1 ∧ (∀ k, k < s.length → (num (nth s k)).isSome = true) ∧ (∀ p, p < 6 * s.length → 8 * (6 * s.length / 8) ≤ p → bitS s p = false) then some (outR s (6 * s.length / 8) (6 * s.length)) else none
def RefDecPost (w : World) (d : Option (List (BitVec 8))) (e : Ending) (w' : World) : Prop :=
  match d with
  | none => e = .returned (.tuple #[.slice none 0 0, .bool false])
  | some b => ∃ v, e = .returned (.tuple #[v, .bool true]) ∧ Own8 w' w.heap.size 5 v b
@[go_sem high] theorem one_shl (t : TypeId) (b : BitVec 64) : binOp .shl t (.int .u8 1) (v64 b) = pure (v8 (1#8 <<< amt b)) := v8_shl_v64 t 1#8 b
theorem amt_of (R : Nat) (h : R < 64) : amt (BitVec.ofNat 64 R) = R := by
  unfold amt
  rw [BitVec.toNat_ofNat]
  omega
theorem shr_nat (t : TypeId) (p R : Nat) (hR : R < 64) : binOp .shr t (.int .i64 p) (v64 (BitVec.ofNat 64 R)) = pure (.int .i64 ((p / 2 ^ R : Nat) : Int)) := by
  have e : (BitVec.ofNat 64 R).toNat = R := by rw [BitVec.toNat_ofNat]; omega
  simp only [v64, binOp, Op.shift, e, if_neg (show ¬ (R : Int) < 0 by omega)]
  have e2 : min (R : Int).toNat IntKind.i64.bits = R := by
    rw [Int.toNat_natCast]
    exact Nat.min_eq_left (by show R ≤ 64; omega)
  rw [e2, Int.fdiv_eq_ediv_of_nonneg _ (by have : (0 : Int) < 2 ^ R := Int.pow_pos (by decide); omega), show ((2 : Int) ^ R) = ((2 ^ R : Nat) : Int) by simp, ← Int.natCast_ediv]
theorem bit_div (p : BitVec 8) (R : Nat) : p.getLsbD R = decide (p.toNat / 2 ^ R % 2 = 1) := by
  show p.toNat.testBit R = _
  rw [Nat.testBit_eq_decide_div_mod_eq]
set_option linter.unusedSimpArgs false in
set_option maxRecDepth 100000 in
set_option maxHeartbeats 1600000 in
theorem refDecode_any (s : List (BitVec 8)) (w : World) (hsz : s.length ≤ 1000000) :
    Calls Try.prog 24 #[.string (str s)] w fun e w' => RefDecPost w (refDec s) e w' ∧ Below w.heap.size w w' := by
  have hsl : (str s).size = s.length := str_size s
  obtain ⟨D, hD⟩ : ∃ D, D = refDec s := ⟨_, rfl⟩
  rw [← hD]
  have HD := Lib.hid hD
  clear hD
  obtain ⟨M, hM⟩ : ∃ M, M = 6 * s.length / 8 := ⟨_, rfl⟩
  have m1 : 6 * (s.length : Int) / 8 = (M : Int) := by omega
  have HM := Lib.hid hM
  clear hM
  go_enter Try.func24, Try.ntmps24
  by_cases h4 : s.length % 4 = 1
  · have h4' : (s.length : Int) % 4 = 1 := by omega
    have hd : D = none := by rw [HD.out, refDec, if_neg (fun h => h.1 h4)]
    subst hd
    go_wp2
    go_ret2
    exact ⟨rfl, Below.refl _ _⟩
  · have h4' : ¬ (s.length : Int) % 4 = 1 := by omega
    go_wp2_with fail
    go_loopw [4, 6] (fun v i wr => ∃ j : Nat, j ≤ M ∧ i = .int .i64 j ∧ Own8 wr w.heap.size 5 v (zeros 8 j) ∧ Below w.heap.size w wr) (fun _ i _ => M - (intOf i).toNat)
    case atStart => exact ⟨0, Nat.zero_le _, rfl, Own8.nil_ _ _ _, Below.refl _ _⟩
    case round =>
      obtain ⟨j, hj, rfl, hO, hB⟩ := hrel
      by_cases hjM : j < M
      · have f1 : (j : Int) < (M : Int) := by omega
        have HO := Lib.hid hO
        have HB := Lib.hid hB
        have hM := HM.out
        clear hO hB hM
        go_upto_region 8 with fail
        refine wp_region_plain [0,2,2,0] rfl (fun ops' K2 hK2 => ?_)
        repeat
          first
            | ((with_reducible refine z_move (a' := ?_) ?_ ?_); rotate_left; · (simp only [Act.put, List.setIfInBounds_toArray, List.set_cons_succ, List.set_cons_zero, Act.eval, Array.getD_eq_getD_getElem?, List.getElem?_toArray, List.getElem?_cons_succ, List.getElem?_cons_zero, Option.getD_some]; exact rfl))
            | ((with_reducible refine z_assign (a' := ?_) ?_ ?_); rotate_left; · (simp only [Act.put, List.setIfInBounds_toArray, List.set_cons_succ, List.set_cons_zero, Act.eval, Array.getD_eq_getD_getElem?, List.getElem?_toArray, List.getElem?_cons_succ, List.getElem?_cons_zero, Option.getD_some]; exact rfl))
            | ((with_reducible refine z_obl (v := ?_) (a' := ?_) rfl (fun _ => ?_) ?_ ?_); rotate_left; rotate_left; (focus (go_simp; (try go_bits); exact rfl)); (focus (simp only [Act.put, List.setIfInBounds_toArray, List.set_cons_succ, List.set_cons_zero, Act.eval, Array.getD_eq_getD_getElem?, List.getElem?_toArray, List.getElem?_cons_succ, List.getElem?_cons_zero, Option.getD_some]; exact rfl)))
            | ((with_reducible refine z_read (v := ?_) (a' := ?_) rfl ?_ ?_ ?_); rotate_left; rotate_left; (focus (go_simp; (try go_bits); exact rfl)); (focus (simp only [Act.put, List.setIfInBounds_toArray, List.set_cons_succ, List.set_cons_zero, Act.eval, Array.getD_eq_getD_getElem?, List.getElem?_toArray, List.getElem?_cons_succ, List.getElem?_cons_zero, Option.getD_some]; exact rfl)))
        refine z_build1 (x := 0#8) rfl Try.underlying22 info8 (fun w2 b2 hr2 hb2 => ?_)
        simp only [Act.put, List.setIfInBounds_toArray, List.set_cons_succ, List.set_cons_zero]
        refine z_append8 (HO.out.below hb2) hr2 rfl rfl Try.underlying22 info8 (by simp; have := HM.out; omega) (Nat.le_trans HB.out.size hb2.size) (fun w3 v3 o3 g3 b3 => ?_)
        simp only [Act.put, List.setIfInBounds_toArray, List.set_cons_succ, List.set_cons_zero]
        repeat
          first
            | ((with_reducible refine z_move (a' := ?_) ?_ ?_); rotate_left; · (simp only [Act.put, List.setIfInBounds_toArray, List.set_cons_succ, List.set_cons_zero, Act.eval, Array.getD_eq_getD_getElem?, List.getElem?_toArray, List.getElem?_cons_succ, List.getElem?_cons_zero, Option.getD_some]; exact rfl))
            | ((with_reducible refine z_assign (a' := ?_) ?_ ?_); rotate_left; · (simp only [Act.put, List.setIfInBounds_toArray, List.set_cons_succ, List.set_cons_zero, Act.eval, Array.getD_eq_getD_getElem?, List.getElem?_toArray, List.getElem?_cons_succ, List.getElem?_cons_zero, Option.getD_some]; exact rfl))
            | ((with_reducible refine z_obl (v := ?_) (a' := ?_) rfl (fun _ => ?_) ?_ ?_); rotate_left; rotate_left; (focus (go_simp; (try go_bits); exact rfl)); (focus (simp only [Act.put, List.setIfInBounds_toArray, List.set_cons_succ, List.set_cons_zero, Act.eval, Array.getD_eq_getD_getElem?, List.getElem?_toArray, List.getElem?_cons_succ, List.getElem?_cons_zero, Option.getD_some]; exact rfl)))
            | ((with_reducible refine z_read (v := ?_) (a' := ?_) rfl ?_ ?_ ?_); rotate_left; rotate_left; (focus (go_simp; (try go_bits); exact rfl)); (focus (simp only [Act.put, List.setIfInBounds_toArray, List.set_cons_succ, List.set_cons_zero, Act.eval, Array.getD_eq_getD_getElem?, List.getElem?_toArray, List.getElem?_cons_succ, List.getElem?_cons_zero, Option.getD_some]; exact rfl)))
        refine z_nil (hK2 _ _ ?_)
        rw [show zeros 8 j ++ [0#8] = zeros 8 (j + 1) by simp [zeros, List.replicate_succ']] at o3
        have B3 := Lib.hid ((HB.out.trans (hb2.mono HB.out.size)).trans b3)
        have O3 := Lib.hid o3
        clear o3 g3 b3 hb2 hr2 hK2
        go_wp2
        exact ⟨⟨j + 1, by omega, by go_num, O3.out, B3.out⟩, by simp [intOf]; omega⟩
      · obtain rfl : j = M := by omega
        have f1 : ¬ (j : Int) < (j : Int) := by omega
        have HO := Lib.hid hO
        have HB := Lib.hid hB
        clear hO hB
        go_wp2_with fail
        go_loopw [7] (fun i wz => ∃ k : Nat, k ≤ s.length ∧ i = .int .i64 k ∧ Own8 wz w.heap.size 5 u4 (outR s j (6 * k)) ∧ (∀ q, q < k → (num (nth s q)).isSome = true) ∧ (∀ p, p < 6 * k → 8 * j ≤ p → bitS s p = false) ∧ Below w.heap.size w wz) (fun i _ => s.length - (intOf i).toNat)
        case atStart => exact ⟨0, Nat.zero_le _, rfl, HO.out, fun q hq => by omega, fun p hp => by omega, HB.out⟩
        case round =>
          obtain ⟨k, hk, rfl, hO, hN, hZ, hB⟩ := hrel
          have HO2 := Lib.hid hO
          have HN := Lib.hid hN
          have HZ := Lib.hid hZ
          have HB2 := Lib.hid hB
          clear hO hN hZ hB
          by_cases hkl : k < s.length
          · have k1 : (k : Int) < (s.length : Int) := by omega
            go_wp2_with fail
            refine (refNumber_any (nth s k) _).mono ?_
            rintro e w1 ⟨rfl, rfl⟩
            cases hp : num (nth s k) with
            | none =>
              rw [show numI (nth s k) = -1 by unfold numI; rw [hp]]
              have hd : D = none := by
                rw [HD.out, refDec, if_neg (fun h => by have := h.2.1 k hkl; rw [hp] at this; cases this)]
              have HDN := Lib.hid hd
              clear hd
              go_wp2
              go_ret2
              rw [HDN.out]
              exact ⟨rfl, HB2.out⟩
            | some p =>
              have p6 := (num_some hp).1
              rw [show numI (nth s k) = (p.toNat : Int) by unfold numI; rw [hp]]
              obtain ⟨P, hP⟩ : ∃ P, P = p.toNat := ⟨_, rfl⟩
              rw [← hP] at p6 ⊢
              have HP := Lib.hid hP
              have HPP := Lib.hid hp
              have P0 : ¬ (P : Int) < 0 := by omega
              clear hP hp
              go_wp2_with fail
              go_loopw [9] (fun i wy => ∃ q : Nat, q ≤ 6 ∧ i = .int .i64 q ∧ Own8 wy w.heap.size 5 u4 (outR s j (6 * k + q)) ∧ (∀ p, p < 6 * k + q → 8 * j ≤ p → bitS s p = false) ∧ Below w.heap.size w wy) (fun i _ => 6 - (intOf i).toNat)
              case atStart => exact ⟨0, Nat.zero_le _, rfl, HO2.out, HZ.out, HB2.out⟩
              case round =>
                obtain ⟨q, hq, rfl, hO, hZ, hB⟩ := hrel
                have HO3 := Lib.hid hO
                have HZ3 := Lib.hid hZ
                have HB3 := Lib.hid hB
                clear hO hZ hB HO2 HZ HB2
                by_cases hq6 : q < 6
                · have q1 : (q : Int) < 6 := by omega
                  obtain ⟨A, hA⟩ : ∃ A, A = 6 * k + q := ⟨_, rfl⟩
                  obtain ⟨R, hR⟩ : ∃ R, R = 5 - q := ⟨_, rfl⟩
                  obtain ⟨X, hX⟩ : ∃ X, X = P / 2 ^ R := ⟨_, rfl⟩
                  have a1 : 6 * (k : Int) + (q : Int) = (A : Int) := by omega
                  have r1 : (5 : Int) - (q : Int) = (R : Int) := by omega
                  have hsh := shr_nat 3 P R (by omega)
                  rw [← hX] at hsh
                  have hbit : bitS s A = decide (X % 2 = 1) := by
                    rw [bitS, show A / 6 = k by omega, show A % 6 = q by omega, HPP.out, Option.getD_some, bit_div, ← hR, ← HP.out, ← hX]
                  rw [← hA] at HO3 HZ3
                  have hsame : outR s j (A + 1) = if bitS s A then (outR s j A).set (A / 8) (nth (outR s j A) (A / 8) + 1#8 <<< (7 - A % 8)) else outR s j A := rfl
                  have HA := Lib.hid hA
                  clear hA hR hX
                  by_cases hx : X % 2 = 1
                  · have x1 : (X : Int) % 2 = 1 := by omega
                    rw [decide_eq_true hx] at hbit
                    rw [hbit, if_pos rfl] at hsame
                    have HBT := Lib.hid hbit
                    have HS := Lib.hid hsame
                    clear hbit hsame hx
                    by_cases hA8 : 8 * j ≤ A
                    · have a2 : 8 * (j : Int) ≤ (A : Int) := by omega
                      have hd : D = none := by
                        rw [HD.out, refDec, if_neg (fun h => by
                          have h3 := h.2.2 A (by have := HA.out; omega) (by rw [← HM.out]; exact hA8)
                          rw [HBT.out] at h3; cases h3)]
                      have HDN := Lib.hid hd
                      clear hd
                      go_wp2
                      go_ret2
                      rw [HDN.out]
                      exact ⟨rfl, HB3.out⟩
                    · have a2 : ¬ 8 * (j : Int) ≤ (A : Int) := by omega
                      have hlen := outR_length s j A
                      obtain ⟨g, cap, hv, hg1, _⟩ := HO3.out.form (by rw [hlen]; omega)
                      rw [hlen] at hv
                      subst hv
                      have hO' : Own8 wr w.heap.size 5 (.slice (some ⟨g, 0, none⟩) (outR s j A).length cap) (outR s j A) := by rw [hlen]; exact HO3.out
                      obtain ⟨D8, hD8⟩ : ∃ d, d = A / 8 := ⟨_, rfl⟩
                      obtain ⟨R8, hR8⟩ : ∃ d, d = 7 - A % 8 := ⟨_, rfl⟩
                      have b1 : (A : Int) / 8 = (D8 : Int) := by omega
                      have b2 : (7 : Int) - (A : Int) % 8 = (R8 : Int) := by omega
                      have b3 : (D8 : Int) < (j : Int) := by omega
                      have b4 : (0 : Int) ≤ (D8 : Int) := by omega
                      have b5 : (0 : Int) ≤ (R8 : Int) := by omega
                      have b6 : D8 < j := by omega
                      have hamt := amt_of R8 (by omega)
                      have hS := HS.out
                      rw [← hD8, ← hR8] at hS
                      have co := hO'.cell D8 (by rw [hlen]; exact b6)
                      have fo := hO'.frozen D8
                      have st := (hO'.stored D8 (nth (outR s j A) D8 + 1#8 <<< R8)).1
                      rw [← hS, hlen] at st
                      have ST := Lib.hid st
                      have BT := Lib.hid (HB3.out.setCell (p := ⟨g, D8, none⟩) hg1 (v8 (nth (outR s j A) D8 + 1#8 <<< R8)))
                      clear hS st hO' hD8 hR8 hlen HS
                      go_wp2
                      exact ⟨⟨q + 1, by omega, by go_num, by rw [← Nat.add_assoc, ← HA.out]; exact ST.out, fun p hp h8 => by
                        by_cases h : p < A
                        · exact HZ3.out p h h8
                        · rw [show p = A by have := HA.out; omega] at h8; omega, BT.out⟩, by simp [intOf]; omega⟩
                  · have x1 : (X : Int) % 2 = 0 := by omega
                    rw [decide_eq_false hx] at hbit
                    rw [hbit] at hsame
                    simp only [Bool.false_eq_true, if_false] at hsame
                    have HBT := Lib.hid hbit
                    have HS := Lib.hid hsame
                    clear hbit hsame hx
                    go_wp2
                    exact ⟨⟨q + 1, by omega, by go_num, by rw [← Nat.add_assoc, ← HA.out, HS.out]; exact HO3.out, fun p hp h8 => by
                      by_cases h : p < A
                      · exact HZ3.out p h h8
                      · rw [show p = A by have := HA.out; omega]; exact HBT.out, HB3.out⟩, by simp [intOf]; omega⟩
                · have q1 : ¬ (q : Int) < 6 := by omega
                  obtain rfl : q = 6 := by omega
                  go_wp2
                  exact ⟨⟨k + 1, by omega, by go_num, HO3.out, fun q hq => by
                    by_cases h : q < k
                    · exact HN.out q h
                    · rw [show q = k by omega, HPP.out]; rfl, HZ3.out, HB3.out⟩, by simp [intOf]; omega⟩
          · have k1 : ¬ (k : Int) < (s.length : Int) := by omega
            obtain rfl : k = s.length := by omega
            have hd : D = some (outR s j (6 * s.length)) := by
              rw [HD.out, refDec, if_pos ⟨h4, HN.out, by rw [← HM.out]; exact HZ.out⟩, ← HM.out]
            have HDN := Lib.hid hd
            clear hd
            go_wp2
            go_ret2
            rw [HDN.out]
            exact ⟨⟨_, rfl, HO2.out⟩, HB2.out⟩
end Go.Proofs.Ythogbbigglmapaa
