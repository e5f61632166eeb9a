/- sixty by definition: Encode -/
import Derived.Test.YthogbbigglmapaaSix6
import Derived.Test.YthogbbigglmapaaText4
namespace Go.Proofs.Ythogbbigglmapaa
open Go.RowKit
@[go_sem high] theorem v8_rem2 (t : TypeId) (a : BitVec 8) : binOp .rem t (v8 a) (.int .u8 2) = pure (v8 (a % 2#8)) := by
  simp [v8, binOp, Op.intDiv, Int.tmod_eq_emod_of_nonneg]
theorem bit_of (x : BitVec 8) (R : Nat) (hR : R < 8) : ((x >>> amt (BitVec.ofNat 64 R)) % 2#8 == 1#8) = x.getLsbD R := by
  have e : amt (BitVec.ofNat 64 R) = R := by
    unfold amt
    rw [BitVec.toNat_ofNat]
    omega
  rw [e, BitVec.getLsbD, Nat.testBit, Bool.eq_iff_iff, beq_iff_eq]
  constructor
  · intro h
    have := congrArg BitVec.toNat h
    simp only [BitVec.toNat_umod, BitVec.toNat_ushiftRight, BitVec.toNat_ofNat] at this
    simp
    omega
  · intro h
    apply BitVec.eq_of_toNat_eq
    simp only [BitVec.toNat_umod, BitVec.toNat_ushiftRight, BitVec.toNat_ofNat]
    simp at h
    omega
def bitAt (l : List (BitVec 8)) (k : Nat) : Bool := decide (k < 8 * l.length) && (nth l (k / 8)).getLsbD (7 - k % 8)
def valB (l : List (BitVec 8)) (at_ : Nat) : Nat → Nat
  | 0 => 0
  | q + 1 => 2 * valB l at_ q + (bitAt l (at_ + q)).toNat
theorem valB_lt (l : List (BitVec 8)) (at_ q : Nat) : valB l at_ q < 2 ^ q := by
  induction q with
  | zero => simp [valB]
  | succ q ih =>
    rw [valB, Nat.pow_succ]
    have : (bitAt l (at_ + q)).toNat ≤ 1 := by cases bitAt l (at_ + q) <;> simp
    omega
def encR (l : List (BitVec 8)) (m : Nat) : List (BitVec 8) := (List.range m).map fun t => nth signs (valB l (6 * t) 6)
theorem encR_succ (l : List (BitVec 8)) (m : Nat) : encR l m ++ [nth signs (valB l (6 * m) 6)] = encR l (m + 1) := by simp [encR, List.range_succ]
theorem encR_length (l : List (BitVec 8)) (m : Nat) : (encR l m).length = m := by simp [encR]
set_option linter.unusedSimpArgs false in
set_option maxRecDepth 100000 in
set_option maxHeartbeats 1600000 in
theorem refEncode_any (l : List (BitVec 8)) (a : Option Addr) (n c : Nat) (w : World) (hr : Rd8 w a n c l) (hsz : n ≤ 1000000) :
    Calls Try.prog 21 #[.slice a n c] w fun e w' => e = .returned (.string (str (encR l ((8 * n + 5) / 6)))) ∧ Below w.heap.size w w' := by
  have L := Lib.hid hr
  have N := Lib.hid hr.1
  clear hr
  go_enter Try.func21, Try.ntmps21
  go_wp2_with fail
  go_loopw [3, 4] (fun v i wr => ∃ (t A : Nat), A = 6 * t ∧ t ≤ (8 * n + 5) / 6 ∧ i = .int .i64 A ∧ Own8 wr w.heap.size 5 v (encR l t) ∧ Below w.heap.size w wr) (fun _ i _ => 8 * n + 6 - (intOf i).toNat)
  case atStart => exact ⟨0, 0, rfl, Nat.zero_le _, rfl, Own8.nil_ _ _ _, Below.refl _ _⟩
  case round =>
    obtain ⟨t, A, hA, ht, rfl, hown, hbel⟩ := hrel
    have HA := Lib.hid hA
    have O := Lib.hid hown
    have B := Lib.hid hbel
    by_cases hAn : A < 8 * n
    · have f1 : (A : Int) < 8 * (n : Int) := by omega
      have htm : t < (8 * n + 5) / 6 := by omega
      have HT := Lib.hid htm
      clear hA hown hbel ht htm
      go_wp2_with fail
      go_loopw [5, 6] (fun x k wz => ∃ q K : Nat, q ≤ 6 ∧ K = A + q ∧ x = .int .i64 (valB l A q) ∧ k = .int .i64 K ∧ wz = wr) (fun _ k _ => A + 7 - (intOf k).toNat)
      case atStart => exact ⟨0, A, Nat.zero_le _, rfl, rfl, rfl, rfl⟩
      case round =>
        obtain ⟨q, K, hq, hK, rfl, rfl, rfl⟩ := hrel
        have HK := Lib.hid hK
        have hvl := valB_lt l A q
        obtain ⟨V, hV⟩ : ∃ V, V = valB l A q := ⟨_, rfl⟩
        rw [← hV] at hvl ⊢
        have hV64 : V < 64 := Nat.lt_of_lt_of_le hvl (Nat.le_trans (Nat.pow_le_pow_right (by omega) hq) (by decide))
        have HV := Lib.hid hV
        clear hV hvl
        by_cases hq6 : q < 6
        · have g1 : (K : Int) < (A : Int) + 6 := by omega
          by_cases hk : K < 8 * n
          · have g2 : (K : Int) < 8 * (n : Int) := by omega
            obtain ⟨b, o, rfl, hb, hc⟩ := L.out.2.2.2 (by omega)
            obtain ⟨D, hD⟩ : ∃ D, D = K / 8 := ⟨_, rfl⟩
            obtain ⟨R, hR⟩ : ∃ R, R = 7 - K % 8 := ⟨_, rfl⟩
            have d1 : (K : Int) / 8 = (D : Int) := by omega
            have d2 : (7 : Int) - (K : Int) % 8 = (R : Int) := by omega
            have d3 : (D : Int) < (n : Int) := by omega
            have d4 : (0 : Int) ≤ (D : Int) := by omega
            have r4 : (0 : Int) ≤ (R : Int) := by omega
            have c0 : wr.cell? ⟨b, o + D, none⟩ = some (v8 (nth l D)) := (B.out.cell hb).trans (hc D (by omega))
            have HD := Lib.hid hD
            have HR := Lib.hid hR
            clear hD hR hK hb hc
            have hbit : ((nth l D >>> amt (BitVec.ofNat 64 R)) % 2#8 == 1#8) = bitAt l K := by
              rw [bit_of _ _ (by rw [HR.out]; omega), bitAt, decide_eq_true (by rw [N.out]; exact hk), Bool.true_and, ← HD.out, ← HR.out]
            have hval : valB l A (q + 1) = 2 * V + (bitAt l K).toNat := by rw [valB, ← HV.out, ← HK.out]
            have HVAL := Lib.hid hval
            clear hval
            cases hbt : bitAt l K with
            | true =>
              rw [hbt] at hbit
              have HBT := Lib.hid hbt
              clear hbt
              have v1 : (2 : Int) * (V : Int) + 1 = ((valB l A (q + 1) : Nat) : Int) := by rw [HVAL.out, HBT.out]; simp
              go_wp2
              exact ⟨⟨q + 1, K + 1, by omega, by rw [HK.out]; omega, rfl, by go_num, trivial⟩, by simp [intOf]; omega⟩
            | false =>
              rw [hbt] at hbit
              have HBT := Lib.hid hbt
              clear hbt
              have v1 : (2 : Int) * (V : Int) = ((valB l A (q + 1) : Nat) : Int) := by rw [HVAL.out, HBT.out]; simp
              go_wp2
              exact ⟨⟨q + 1, K + 1, by omega, by rw [HK.out]; omega, rfl, by go_num, trivial⟩, by simp [intOf]; omega⟩
          · have g2 : ¬ (K : Int) < 8 * (n : Int) := by omega
            have hbt : bitAt l K = false := by rw [bitAt, decide_eq_false (by rw [N.out]; exact hk), Bool.false_and]
            have v1 : (2 : Int) * (V : Int) = ((valB l A (q + 1) : Nat) : Int) := by rw [valB, ← HV.out, ← HK.out, hbt]; simp
            clear hK hbt
            go_wp2
            exact ⟨⟨q + 1, K + 1, by omega, by rw [HK.out]; omega, rfl, by go_num, trivial⟩, by simp [intOf]; omega⟩
        · have g1 : ¬ (K : Int) < (A : Int) + 6 := by omega
          obtain rfl : q = 6 := by omega
          clear hK
          go_upto_region 12 with fail
          refine wp_region_plain [0,0,2,2,2,0] rfl (fun ops' K2 hK2 => ?_)
          repeat
            first
              | ((with_reducible refine z_move (a' := ?_) ?_ ?_); rotate_left; · (simp only [Act.put, List.setIfInBounds_toArray, List.set_cons_succ, List.set_cons_zero, Act.eval, Array.getD_eq_getD_getElem?, List.getElem?_toArray, List.getElem?_cons_succ, List.getElem?_cons_zero, Option.getD_some]; exact rfl))
              | ((with_reducible refine z_assign (a' := ?_) ?_ ?_); rotate_left; · (simp only [Act.put, List.setIfInBounds_toArray, List.set_cons_succ, List.set_cons_zero, Act.eval, Array.getD_eq_getD_getElem?, List.getElem?_toArray, List.getElem?_cons_succ, List.getElem?_cons_zero, Option.getD_some]; exact rfl))
              | ((with_reducible refine z_obl (v := ?_) (a' := ?_) rfl (fun _ => ?_) ?_ ?_); rotate_left; rotate_left; (focus (go_simp; (try go_bits); exact rfl)); (focus (simp only [Act.put, List.setIfInBounds_toArray, List.set_cons_succ, List.set_cons_zero, Act.eval, Array.getD_eq_getD_getElem?, List.getElem?_toArray, List.getElem?_cons_succ, List.getElem?_cons_zero, Option.getD_some]; exact rfl)))
              | ((with_reducible refine z_read (v := ?_) (a' := ?_) rfl ?_ ?_ ?_); rotate_left; rotate_left; (focus (go_simp; (try go_bits); exact rfl)); (focus (simp only [Act.put, List.setIfInBounds_toArray, List.set_cons_succ, List.set_cons_zero, Act.eval, Array.getD_eq_getD_getElem?, List.getElem?_toArray, List.getElem?_cons_succ, List.getElem?_cons_zero, Option.getD_some]; exact rfl)))
          (with_reducible refine z_callw rfl ?_)
          go_simp
          refine entersW_of ?_
          refine (refSign_any V hV64 wr).mono ?_
          rintro e w1 ⟨rfl, rfl⟩
          refine ⟨_, rfl, ?_⟩
          try simp only [Act.put, List.setIfInBounds_toArray, List.set_cons_succ, List.set_cons_zero]
          refine z_build1 (x := nth signs V) rfl Try.underlying22 info8 (fun w2 b2 hr2 hb2 => ?_)
          simp only [Act.put, List.setIfInBounds_toArray, List.set_cons_succ, List.set_cons_zero]
          refine z_append8 (O.out.below hb2) hr2 rfl rfl Try.underlying22 info8 (by rw [encR_length]; have := HT.out; omega) (Nat.le_trans B.out.size hb2.size) (fun w3 v3 o3 g3 b3 => ?_)
          simp only [Act.put, List.setIfInBounds_toArray, List.set_cons_succ, List.set_cons_zero]
          repeat
            first
              | ((with_reducible refine z_move (a' := ?_) ?_ ?_); rotate_left; · (simp only [Act.put, List.setIfInBounds_toArray, List.set_cons_succ, List.set_cons_zero, Act.eval, Array.getD_eq_getD_getElem?, List.getElem?_toArray, List.getElem?_cons_succ, List.getElem?_cons_zero, Option.getD_some]; exact rfl))
              | ((with_reducible refine z_assign (a' := ?_) ?_ ?_); rotate_left; · (simp only [Act.put, List.setIfInBounds_toArray, List.set_cons_succ, List.set_cons_zero, Act.eval, Array.getD_eq_getD_getElem?, List.getElem?_toArray, List.getElem?_cons_succ, List.getElem?_cons_zero, Option.getD_some]; exact rfl))
              | ((with_reducible refine z_obl (v := ?_) (a' := ?_) rfl (fun _ => ?_) ?_ ?_); rotate_left; rotate_left; (focus (go_simp; (try go_bits); exact rfl)); (focus (simp only [Act.put, List.setIfInBounds_toArray, List.set_cons_succ, List.set_cons_zero, Act.eval, Array.getD_eq_getD_getElem?, List.getElem?_toArray, List.getElem?_cons_succ, List.getElem?_cons_zero, Option.getD_some]; exact rfl)))
              | ((with_reducible refine z_read (v := ?_) (a' := ?_) rfl ?_ ?_ ?_); rotate_left; rotate_left; (focus (go_simp; (try go_bits); exact rfl)); (focus (simp only [Act.put, List.setIfInBounds_toArray, List.set_cons_succ, List.set_cons_zero, Act.eval, Array.getD_eq_getD_getElem?, List.getElem?_toArray, List.getElem?_cons_succ, List.getElem?_cons_zero, Option.getD_some]; exact rfl)))
          refine z_nil (hK2 _ _ ?_)
          have B3 := Lib.hid ((B.out.trans (hb2.mono B.out.size)).trans b3)
          have o4 : Own8 w3 w.heap.size 5 v3 (encR l (t + 1)) := by
            rw [← encR_succ, ← HA.out, ← HV.out]
            exact o3
          have O4 := Lib.hid o4
          clear o3 o4 g3 b3 hb2 hr2 hK2
          go_wp2
          exact ⟨⟨t + 1, A + 6, by rw [HA.out]; omega, HT.out, by go_num, O4.out, B3.out⟩, by simp [intOf]; omega⟩
    · have f1 : ¬ (A : Int) < 8 * (n : Int) := by omega
      have ht2 : t = (8 * n + 5) / 6 := by omega
      obtain ⟨EE, hE⟩ : ∃ EE, EE = encR l ((8 * n + 5) / 6) := ⟨_, rfl⟩
      rw [ht2, ← hE] at hown
      have HE := Lib.hid hE
      clear hE
      obtain ⟨a2, c2, rfl, hr2, _⟩ := hown.rd
      have s1 := run_str (P := Try.prog) wr 22 9 5 _ _ _ _ Try.underlying22 Try.underlying9 Try.underlying5 hr2
      generalize EE.length = LEN at *
      clear hA hown hbel ht ht2 hr2 O
      go_wp2
      go_ret
      rw [← HE.out]
      exact ⟨rfl, B.out⟩
end Go.Proofs.Ythogbbigglmapaa
