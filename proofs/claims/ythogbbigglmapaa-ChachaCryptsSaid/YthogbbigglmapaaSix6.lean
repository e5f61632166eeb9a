/- sixty by definition: Sign, Number -/
import Derived.Test.YthogbbigglmapaaSixP
namespace Go.Proofs.Ythogbbigglmapaa
open Go.RowKit
theorem sign_val : ∀ i : Fin 64, nth signs i.val = if i.val < 26 then BitVec.ofNat 8 (65 + i.val) else if i.val < 52 then BitVec.ofNat 8 (97 + i.val - 26) else if i.val < 62 then BitVec.ofNat 8 (48 + i.val - 52) else if i.val = 62 then 45#8 else 95#8 := by decide +kernel
set_option linter.unusedSimpArgs false in
theorem refSign_any (i : Nat) (hi : i < 64) (w : World) :
    Calls Try.prog 44 #[.int .i64 i] w fun e w' => e = .returned (v8 (nth signs i)) ∧ w = w' := by
  have hv := sign_val ⟨i, hi⟩
  simp only at hv
  rw [hv]
  clear hv
  have i0 : (0 : Int) ≤ (i : Int) := by omega
  have i1 : (i : Int) < 64 := by omega
  by_cases h1 : i < 26
  · have f1 : (i : Int) < 26 := by omega
    rw [if_pos h1]
    have e : BitVec.ofInt 8 (65 + (i : Int)) = BitVec.ofNat 8 (65 + i) := by rw [show (65 + (i : Int)) = ((65 + i : Nat) : Int) by omega, BitVec.ofInt_natCast]
    go_enter Try.func44, Try.ntmps44
    go_wp2
    go_ret
    rw [← e]
    exact ⟨rfl, rfl⟩
  · rw [if_neg h1]
    have f1 : ¬ (i : Int) < 26 := by omega
    by_cases h2 : i < 52
    · have f2 : (i : Int) < 52 := by omega
      rw [if_pos h2]
      have e : BitVec.ofInt 8 (97 + (i : Int) - 26) = BitVec.ofNat 8 (97 + i - 26) := by rw [show (97 + (i : Int) - 26) = ((97 + i - 26 : Nat) : Int) by omega, BitVec.ofInt_natCast]
      go_enter Try.func44, Try.ntmps44
      go_wp2
      go_ret
      rw [← e]
      exact ⟨rfl, rfl⟩
    · rw [if_neg h2]
      have f2 : ¬ (i : Int) < 52 := by omega
      by_cases h3 : i < 62
      · have f3 : (i : Int) < 62 := by omega
        rw [if_pos h3]
        have e : BitVec.ofInt 8 (48 + (i : Int) - 52) = BitVec.ofNat 8 (48 + i - 52) := by rw [show (48 + (i : Int) - 52) = ((48 + i - 52 : Nat) : Int) by omega, BitVec.ofInt_natCast]
        go_enter Try.func44, Try.ntmps44
        go_wp2
        go_ret
        rw [← e]
        exact ⟨rfl, rfl⟩
      · rw [if_neg h3]
        have f3 : ¬ (i : Int) < 62 := by omega
        by_cases h4 : i = 62
        · rw [if_pos h4]
          subst h4
          go_enter Try.func44, Try.ntmps44
          go_wp2
          go_ret
          exact ⟨rfl, rfl⟩
        · rw [if_neg h4]
          have f4 : ¬ (i : Int) = 62 := by omega
          go_enter Try.func44, Try.ntmps44
          go_wp2
          go_ret
          exact ⟨rfl, rfl⟩
/-- a sign's number, by definition -/
def numI (c : BitVec 8) : Int := match num c with | none => -1 | some p => (p.toNat : Int)
theorem num_not (c : BitVec 8) (h : ∀ k, k < 64 → nth signs k ≠ c) : num c = none := by
  cases hn : num c with
  | none => rfl
  | some p =>
    obtain ⟨p6, hp⟩ := num_some hn
    unfold sgn at hp
    rw [BitVec.toNat_setWidth, Nat.mod_eq_of_lt (by omega)] at hp
    exact (h p.toNat p6 hp).elim
theorem num_is (k : Nat) (hk : k < 64) : numI (nth signs k) = (k : Int) := by
  have := num_signs ⟨k, hk⟩
  simp only at this
  unfold numI
  rw [this]
  simp
  omega
set_option linter.unusedSimpArgs false in
set_option maxRecDepth 100000 in
theorem refNumber_any (c : BitVec 8) (w : World) :
    Calls Try.prog 46 #[v8 c] w fun e w' => e = .returned (.int .i64 (numI c)) ∧ w = w' := by
  go_enter Try.func46, Try.ntmps46
  go_wp2_with fail
  go_loopw [3] (fun i wr => ∃ j : Nat, j ≤ 64 ∧ i = .int .i64 j ∧ (∀ k, k < j → nth signs k ≠ c) ∧ w = wr) (fun i _ => 64 - (intOf i).toNat)
  case atStart => exact ⟨0, Nat.zero_le _, rfl, fun k hk => by omega, rfl⟩
  case round =>
    obtain ⟨j, hj, rfl, hk, rfl⟩ := hrel
    have HK := Lib.hid hk
    clear hk
    by_cases hj64 : j < 64
    · have j1 : (j : Int) < 64 := by omega
      by_cases hc : nth signs j = c
      · have hr := num_is j hj64
        rw [hc] at hr
        have HC := Lib.hid hc
        have hb : (nth signs j == c) = true := beq_iff_eq.2 hc
        have HR := Lib.hid hr
        clear hc hr
        go_wp2_with fail
        refine (refSign_any j hj64 _).mono ?_
        rintro e w1 ⟨rfl, rfl⟩
        go_wp2
        go_ret
        rw [HR.out]
        exact ⟨rfl, rfl⟩
      · have hb : (nth signs j == c) = false := beq_eq_false_iff_ne.2 hc
        have HC := Lib.hid hc
        clear hc
        go_wp2_with fail
        refine (refSign_any j hj64 _).mono ?_
        rintro e w1 ⟨rfl, rfl⟩
        go_wp2
        exact ⟨⟨j + 1, by omega, by go_num, fun k hk => by
          by_cases h : k < j
          · exact HK.out k h
          · rw [show k = j by omega]; exact HC.out, trivial⟩, by simp [intOf]; omega⟩
    · obtain rfl : j = 64 := by omega
      have hr : numI c = -1 := by unfold numI; rw [num_not c HK.out]
      have HR := Lib.hid hr
      clear hr
      go_wp2
      go_ret
      rw [HR.out]
      exact ⟨rfl, rfl⟩
end Go.Proofs.Ythogbbigglmapaa
