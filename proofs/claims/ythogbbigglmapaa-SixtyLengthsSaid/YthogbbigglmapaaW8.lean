/- sixty: how many signs: the walk -/
import Derived.Test.YthogbbigglmapaaSixP
import Derived.Test.YthogbbigglmapaaSix4
namespace Go.Proofs.Ythogbbigglmapaa
open Go.RowKit
set_option linter.unusedSimpArgs false in
set_option maxRecDepth 100000 in
set_option maxHeartbeats 1600000 in
theorem SixtyLengths_walk (a : Option Addr) (n c : Nat) (l : List (BitVec 8)) (w : World) (h : Rd8 w a n c l) :
    Calls Try.prog 8 #[.slice a n c] w fun e w' => e = .returned (.bool true) ∧ Below w.heap.size w w' := by
  have L := Lib.hid h
  have hlen := enc_length l
  rw [h.1] at hlen
  have hnum := num_enc l
  have HE0 : n ≤ 300 → Calls Try.prog 20 #[.slice a n c] w fun e w' => e = .returned (.string (str (enc l))) ∧ Below w.heap.size w w' := fun h1 => sixEncode_any l a n c w h (by omega)
  have HE := Lib.hid HE0
  clear HE0
  generalize enc l = E at hlen hnum HE
  obtain ⟨m, hm⟩ : ∃ m, m = E.length := ⟨_, rfl⟩
  rw [← hm] at hlen
  have hsz : (str E).size = m := by rw [str_size, hm]
  have hall : ∀ j, j < m → (num (nth E j)).isSome = true := by
    intro j hj
    apply hnum
    rw [hm] at hj
    simp only [nth, List.getD_eq_getElem?_getD, List.getElem?_eq_getElem hj, Option.getD_some]
    exact List.getElem_mem _
  have HA := Lib.hid hall
  have HL := Lib.hid hlen
  have HM := Lib.hid hm
  clear hnum hall hlen hm h
  go_enter Try.func8, Try.ntmps8
  by_cases hn : n ≤ 300
  · have n1 : ¬ (300 : Int) < (n : Int) := by omega
    have hm4 : m ≤ 1000 := by have := HL.out; split at this <;> omega
    go_wp2_with fail
    refine (HE.out hn).mono ?_
    rintro e w1 ⟨rfl, hb1⟩
    go_wp2_with fail
    go_loopw [4] (fun i wr => ∃ j : Nat, j ≤ m ∧ i = .int .i64 j ∧ Below w.heap.size w wr) (fun i _ => m - (intOf i).toNat)
    case atStart => exact ⟨0, Nat.zero_le _, rfl, hb1⟩
    case round =>
      obtain ⟨j, hj, rfl, hB⟩ := hrel
      by_cases hjm : j < m
      · have j0 : (0 : Int) ≤ (j : Int) := by omega
        have j1 : (j : Int) < (m : Int) := by omega
        have j2 : j < E.length := by rw [← HM.out]; exact hjm
        have hs := HA.out j hjm
        obtain ⟨x, hx⟩ : ∃ x, x = nth E j := ⟨_, rfl⟩
        rw [← hx] at hs
        have ex : nth E j = x := hx.symm
        clear hx
        unfold num at hs
        by_cases a1 : 65 ≤ x.toNat <;> by_cases a2 : x.toNat ≤ 90 <;> by_cases a3 : 97 ≤ x.toNat <;> by_cases a4 : x.toNat ≤ 122 <;> by_cases a5 : 48 ≤ x.toNat <;> by_cases a6 : x.toNat ≤ 57 <;> first | (exfalso; omega) | skip
        all_goals by_cases a7 : x = 45#8
        all_goals by_cases a8 : x = 95#8
        all_goals (first | (subst a7; simp at a1 a2 a3 a4 a5 a6; done) | (subst a8; simp at a1 a2 a3 a4 a5 a6; done) | (subst a8; simp at a7; done) | skip)
        all_goals (try have b7 : (x == 45#8) = false := beq_eq_false_iff_ne.2 a7)
        all_goals (try have b8 : (x == 95#8) = false := beq_eq_false_iff_ne.2 a8)
        all_goals (first | (simp only [a1, a2, a3, a4, a5, a6, a7, a8, and_self, and_true, and_false, false_and, true_and, if_true, if_false, Option.isSome_none, Bool.false_eq_true] at hs; done) | skip)
        all_goals clear hs
        all_goals go_wp2
        all_goals exact ⟨⟨j + 1, by omega, by go_num, hB⟩, by simp [intOf]; omega⟩
      · obtain rfl : j = m := by omega
        have hl := HL.out
        by_cases h3 : n % 3 = 0
        · rw [if_pos h3] at hl
          have z1 : (n : Int) % 3 = 0 := by omega
          have z2 : (j : Int) = (n : Int) / 3 * 4 := by omega
          go_wp2_with fail
          refine (sixAwake_any _).mono ?_
          rintro e w3 ⟨rfl, hb3⟩
          go_wp2
          go_ret
          exact ⟨rfl, hB.trans (hb3.mono hB.size)⟩
        · rw [if_neg h3] at hl
          have z1 : (0 : Int) < (n : Int) % 3 := by omega
          have z2 : (j : Int) = (n : Int) / 3 * 4 + ((n : Int) % 3 + 1) := by omega
          go_wp2_with fail
          refine (sixAwake_any _).mono ?_
          rintro e w3 ⟨rfl, hb3⟩
          go_wp2
          go_ret
          exact ⟨rfl, hB.trans (hb3.mono hB.size)⟩
  · have n1 : (300 : Int) < (n : Int) := by omega
    go_wp2
    go_ret
    exact ⟨rfl, Below.refl _ _⟩
end Go.Proofs.Ythogbbigglmapaa
