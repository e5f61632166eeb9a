/- sixty: what is encoded is decoded: the walks -/
import Derived.Test.YthogbbigglmapaaSixP
import Derived.Test.YthogbbigglmapaaSix4
namespace Go.Proofs.Ythogbbigglmapaa
open Go.RowKit
set_option linter.unusedSimpArgs false in
set_option maxRecDepth 100000 in
theorem SixtyBack_walk (a : Option Addr) (n c : Nat) (l : List (BitVec 8)) (w : World) (h : Rd8 w a n c l) :
    Calls Try.prog 5 #[.slice a n c] w fun e w' => e = .returned (.bool true) ∧ Below w.heap.size w w' := by
  have L := Lib.hid h
  have N := Lib.hid h.1
  clear h
  go_enter Try.func5, Try.ntmps5
  by_cases hn : n ≤ 300
  · have n1 : ¬ (300 : Int) < (n : Int) := by omega
    go_wp2_with fail
    refine (sixEncode_any l a n c w L.out (by omega)).mono ?_
    rintro e w1 ⟨rfl, hb1⟩
    go_wp2_with fail
    refine (sixDecode_any (enc l) w1 (by rw [enc_length]; have := N.out; split <;> omega)).mono ?_
    rintro e w2 ⟨he, hb2⟩
    rw [dec_enc] at he
    obtain ⟨v, rfl, ho⟩ := he
    obtain ⟨a2, c2, rfl, hr2, _⟩ := ho.rd
    have B2 := Lib.hid (hb1.trans (hb2.mono hb1.size))
    have s1 := run_str (P := Try.prog) w2 22 9 5 _ _ _ l Try.underlying22 Try.underlying9 Try.underlying5 hr2
    have s2 := run_str (P := Try.prog) w2 22 9 5 _ _ _ l Try.underlying22 Try.underlying9 Try.underlying5 (L.out.below B2.out)
    clear ho hr2 hb1 hb2
    go_wp2_with fail
    refine (sixAwake_any _).mono ?_
    rintro e w3 ⟨rfl, hb3⟩
    go_wp2
    go_ret
    exact ⟨rfl, B2.out.trans (hb3.mono B2.out.size)⟩
  · have n1 : (300 : Int) < (n : Int) := by omega
    go_wp2
    go_ret
    exact ⟨rfl, Below.refl _ _⟩
set_option linter.unusedSimpArgs false in
set_option maxRecDepth 100000 in
theorem SixtyOnly_walk (l : List (BitVec 8)) (w : World) (_h : l.length ≤ maxLen) :
    Calls Try.prog 6 #[.string (str l)] w fun e w' => e = .returned (.bool true) ∧ Below w.heap.size w w' := by
  have hsl : (str l).size = l.length := str_size l
  go_enter Try.func6, Try.ntmps6
  by_cases hn : l.length ≤ 400
  · have n1 : ¬ (400 : Int) < (l.length : Int) := by omega
    go_wp2_with fail
    refine (sixDecode_any l w (by omega)).mono ?_
    rintro e w1 ⟨he, hb1⟩
    cases hd : dec l with
    | none =>
      rw [hd] at he
      simp only [DecPost] at he
      subst he
      go_wp2_with fail
      refine (sixAwake_any _).mono ?_
      rintro e w3 ⟨rfl, hb3⟩
      go_wp2
      go_ret
      exact ⟨rfl, hb1.trans (hb3.mono hb1.size)⟩
    | some b =>
      rw [hd] at he
      obtain ⟨v, rfl, ho⟩ := he
      have hbl : b.length ≤ 1000000000 := by
        have e1 := enc_dec l b hd
        have e2 := enc_length b
        rw [e1] at e2
        split at e2 <;> omega
      obtain ⟨a2, c2, rfl, hr2, _⟩ := ho.rd
      have hen := enc_dec l b hd
      clear ho
      go_wp2_with fail
      refine (sixEncode_any b a2 _ c2 w1 hr2 hbl).mono ?_
      rintro e w2 ⟨rfl, hb2⟩
      rw [hen]
      clear hr2
      go_wp2_with fail
      refine (sixAwake_any _).mono ?_
      rintro e w3 ⟨rfl, hb3⟩
      go_wp2
      go_ret
      exact ⟨rfl, (hb1.trans (hb2.mono hb1.size)).trans (hb3.mono (Nat.le_trans hb1.size hb2.size))⟩
  · have n1 : (400 : Int) < (l.length : Int) := by omega
    go_wp2
    go_ret
    exact ⟨rfl, Below.refl _ _⟩
end Go.Proofs.Ythogbbigglmapaa
