/- gf by definition: Times, Power -/
import Derived.Test.YtepijmidafndaaaDoorPol
import Derived.Test.YtepijmidafndaaaDoorI16
import Derived.Test.YtepijmidafndaaaDoorGc
import Derived.WalkMore
namespace Go.Proofs.YtepijmidafndaaaDoor
open Go.RowKit
@[go_sem high] theorem v8_rem2g (t : TypeId) (a : BitVec 8) : binOp .rem t (v8 a) (.int .u8 2) = pure (v8 (a % 2#8)) := by
  simp [v8, binOp, Op.intDiv, Int.tmod_eq_emod_of_nonneg]
theorem v64_nat (s : BitVec 64) : v64 s = .int .u64 (s.toNat : Int) := rfl
theorem amt_nat (j : Nat) (h : j < 2 ^ 64) : amt (BitVec.ofNat 64 j) = j := by
  unfold amt
  rw [BitVec.toNat_ofNat, Nat.mod_eq_of_lt h]
@[go_sem high] theorem i16_shl64 (t : TypeId) (a : BitVec 8) (s : BitVec 64) (hm : amt s ≤ 8) : binOp .shl t (.int .i64 (a.toNat : Int)) (v64 s) = pure (i16 (a.setWidth 16 <<< amt s)) := by
  rw [v64_nat, show s.toNat = amt s from rfl, i16_shl _ _ _ _ hm]
@[go_sem high] theorem lit_shl64 (t : TypeId) (s : BitVec 64) (hm : amt s ≤ 6) : binOp .shl t (.int .i64 283) (v64 s) = pure (i16 (283#16 <<< amt s)) := by
  rw [v64_nat, show s.toNat = amt s from rfl, lit_shl _ _ _ hm]
@[go_sem high] theorem i16_shr64 (t : TypeId) (a : BitVec 16) (s : BitVec 64) (hm : amt s ≤ 64) : binOp .shr t (i16 a) (v64 s) = pure (i16 (a >>> amt s)) := by
  rw [v64_nat, show s.toNat = amt s from rfl, i16_shr _ _ _ _ hm]
theorem bit8 (x : BitVec 8) (R : Nat) (hR : R < 8) : ((x >>> R) % 2#8 == 1#8) = x.getLsbD R := by
  have hall : ∀ R : Fin 8, ∀ x : BitVec 8, ((x >>> R.1) % 2#8 == 1#8) = x.getLsbD R.1 := of_decide_eq_true (by kernel_rfl)
  exact hall ⟨R, hR⟩ x
theorem bit16 (x : BitVec 16) (R : Nat) : ((x >>> R) % 2#16 == 1#16) = x.getLsbD R := by
  rw [Bool.eq_iff_iff, beq_iff_eq]
  have h1 : ((x >>> R) % 2#16).toNat = (x.toNat >>> R) % 2 := by simp
  rw [BitVec.getLsbD, Nat.testBit_eq_decide_div_mod_eq, decide_eq_true_eq, ← Nat.shiftRight_eq_div_pow, ← h1]
  constructor
  · intro h; rw [h]; rfl
  · intro h; exact BitVec.eq_of_toNat_eq (by rw [h]; rfl)
set_option linter.unusedSimpArgs false in
set_option maxHeartbeats 800000 in
theorem refTimes_any (a b : BitVec 8) (w : World) :
    Calls Tryd.prog 114 #[v8 a, v8 b] w fun e w' => e = .returned (v8 (gmul a b)) ∧ w = w' := by
  go_enter Tryd.func114, Tryd.ntmps114
  go_wp2_with fail
  go_loopw [5, 6] (fun n i wr => ∃ j : Nat, j ≤ 8 ∧ i = .int .i64 j ∧ n = i16 (ppr a b j) ∧ wr = w) (fun _ i _ => 8 - (intOf i).toNat)
  case atStart => exact ⟨0, by omega, rfl, rfl, rfl⟩
  case round =>
    obtain ⟨j, hj, rfl, rfl, rfl⟩ := hrel
    by_cases hj8 : j < 8
    · have j1 : (j : Int) < 8 := by omega
      have j0 : (0 : Int) ≤ (j : Int) := by omega
      have e0 := amt_nat j (by omega)
      have e1 : amt (BitVec.ofNat 64 j) ≤ 8 := by omega
      have hp : ppr a b (j + 1) = pstep a b (ppr a b j) j := rfl
      have hb := bit8 b j hj8
      unfold pstep at hp
      obtain ⟨N, hN⟩ : ∃ N, N = ppr a b j := ⟨_, rfl⟩
      rw [← hN] at hp ⊢
      by_cases hbit : b.getLsbD j = true
      · rw [if_pos hbit] at hp
        rw [hbit] at hb
        have HP := Lib.hid hp
        clear hp hN hbit
        go_wp2
        exact ⟨⟨j + 1, by omega, by go_num, by rw [HP.out], trivial⟩, by simp [intOf]; omega⟩
      · rw [if_neg hbit] at hp
        have hbf : b.getLsbD j = false := by simpa using hbit
        rw [hbf] at hb
        have HP := Lib.hid hp
        clear hp hN hbit hbf
        go_wp2
        exact ⟨⟨j + 1, by omega, by go_num, by rw [HP.out], trivial⟩, by simp [intOf]; omega⟩
    · obtain rfl : j = 8 := by omega
      obtain ⟨N, hN⟩ : ∃ N, N = ppr a b 8 := ⟨_, rfl⟩
      rw [← hN]
      have HN := Lib.hid hN
      clear hN
      go_wp2_with fail
      go_loopw [5, 7] (fun n i wz => ∃ t J : Nat, t ≤ 7 ∧ J + t = 14 ∧ i = .int .i64 J ∧ n = i16 (prs N t) ∧ wz = wr) (fun _ i _ => (intOf i).toNat)
      case atStart => exact ⟨0, 14, by omega, by omega, rfl, rfl, rfl⟩
      case round =>
        obtain ⟨t, J, ht, hJ, rfl, rfl, rfl⟩ := hrel
        obtain ⟨R, hR⟩ : ∃ R, R = prs N t := ⟨_, rfl⟩
        rw [← hR]
        by_cases ht7 : t < 7
        · have j1 : (8 : Int) ≤ (J : Int) := by omega
          have j0 : (0 : Int) ≤ (J : Int) := by omega
          obtain ⟨I, hI⟩ : ∃ I, I = J - 1 := ⟨_, rfl⟩
          obtain ⟨S, hS⟩ : ∃ S, S = J - 8 := ⟨_, rfl⟩
          have i1 : (J : Int) - 1 = (I : Int) := by omega
          have i2 : IntKind.i64.wrap (I : Int) = (I : Int) := by rw [IntKind.wrap_i64]; omega
          have s1 : (J : Int) - 8 = (S : Int) := by omega
          have s2 : IntKind.i64.wrap (S : Int) = (S : Int) := by rw [IntKind.wrap_i64]; omega
          have e0 := amt_nat J (by omega)
          have e1 : J ≤ 64 := by omega
          have e2 := amt_nat S (by omega)
          have e3 : S ≤ 6 := by omega
          have hp : prs N (t + 1) = rstep (prs N t) (14 - t) := rfl
          have hb := bit16 R J
          rw [show 14 - t = J by omega] at hp
          unfold rstep at hp
          rw [← hR, show J - 8 = S by omega] at hp
          have hIJ : I + (t + 1) = 14 := by omega
          have HIJ := Lib.hid hIJ
          have hlt : I < J := by omega
          by_cases hbit : R.getLsbD J = true
          · rw [if_pos hbit] at hp
            rw [hbit] at hb
            have HP := Lib.hid hp
            clear hp hR hbit hI hS hJ hIJ
            go_wp2
            exact ⟨⟨t + 1, I, by omega, HIJ.out, rfl, by rw [HP.out], trivial⟩, by simp [intOf]; omega⟩
          · rw [if_neg hbit] at hp
            have hbf : R.getLsbD J = false := by simpa using hbit
            rw [hbf] at hb
            have HP := Lib.hid hp
            clear hp hR hbit hbf hI hS hJ hIJ
            go_wp2
            exact ⟨⟨t + 1, I, by omega, HIJ.out, rfl, by rw [HP.out], trivial⟩, by simp [intOf]; omega⟩
        · obtain rfl : t = 7 := by omega
          obtain rfl : J = 7 := by omega
          have hfin : R.setWidth 8 = gmul a b := by
            rw [hR, HN.out, ← refT_gmul]; rfl
          have HF := Lib.hid hfin
          clear hR hfin hJ
          go_wp2
          go_ret
          rw [HF.out]
          exact ⟨rfl, rfl⟩
theorem gmul_two : ∀ a : BitVec 8, gmul a 2#8 = dbl a := of_decide_eq_true (by kernel_rfl)
/-- a power of two, by so many products -/
def rcp : Nat → BitVec 8
  | 0 => 1#8
  | k + 1 => dbl (rcp k)
set_option linter.unusedSimpArgs false in
theorem refPower_two (n : Nat) (w : World) (hn : n ≤ 1000) :
    Calls Tryd.prog 73 #[v8 2#8, .int .i64 n] w fun e w' => e = .returned (v8 (rcp n)) ∧ w = w' := by
  have n0 : ¬ (n : Int) < 0 := by omega
  go_enter Tryd.func73, Tryd.ntmps73
  go_wp2_with fail
  go_loopw [5, 6] (fun x i wr => ∃ j : Nat, j ≤ n ∧ i = .int .i64 j ∧ x = v8 (rcp j) ∧ wr = w) (fun _ i _ => n - (intOf i).toNat)
  case atStart => exact ⟨0, by omega, rfl, rfl, rfl⟩
  case round =>
    obtain ⟨j, hj, rfl, rfl, rfl⟩ := hrel
    by_cases hjn : j < n
    · have j1 : (j : Int) < (n : Int) := by omega
      go_wp2_with fail
      refine (refTimes_any (rcp j) 2#8 wr).mono ?_
      rintro e w1 ⟨rfl, rfl⟩
      rw [gmul_two]
      go_wp2
      exact ⟨⟨j + 1, by omega, by go_num, rfl, trivial⟩, by simp [intOf]; omega⟩
    · obtain rfl : j = n := by omega
      go_wp2
      go_ret
      exact ⟨rfl, rfl⟩
end Go.Proofs.YtepijmidafndaaaDoor
