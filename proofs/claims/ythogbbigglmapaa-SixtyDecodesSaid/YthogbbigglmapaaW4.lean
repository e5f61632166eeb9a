/- sixty: the bytes of any text: the walk -/
import Derived.Test.YthogbbigglmapaaSix10
import Derived.Test.YthogbbigglmapaaSix4
namespace Go.Proofs.Ythogbbigglmapaa
open Go.RowKit
set_option linter.unusedSimpArgs false in
set_option maxRecDepth 100000 in
theorem SixtyDecodes_walk (l : List (BitVec 8)) (w : World) (_h : l.length ≤ maxLen) :
    Calls Try.prog 4 #[.string (str l)] w fun e w' => e = .returned (.bool true) ∧ Below w.heap.size w w' := by
  have hsl : (str l).size = l.length := str_size l
  go_enter Try.func4, Try.ntmps4
  by_cases hn : l.length ≤ 400
  · have n1 : ¬ (400 : Int) < (l.length : Int) := by omega
    go_wp2_with fail
    refine (sixDecode_any l w (by omega)).mono ?_
    rintro e w1 ⟨he, hb1⟩
    cases hd : dec l with
    | none =>
      rw [hd] at he
      simp only [DecPost] at he
      subst he
      go_wp2_with fail
      refine (refDecode_any l w1 (by omega)).mono ?_
      rintro e w2 ⟨he, hb2⟩
      rw [refDec_dec, hd] at he
      simp only [RefDecPost] at he
      subst he
      go_wp2_with fail
      refine (sixAwake_any _).mono ?_
      rintro e w3 ⟨rfl, hb3⟩
      go_wp2
      go_ret
      exact ⟨rfl, (hb1.trans (hb2.mono hb1.size)).trans (hb3.mono (Nat.le_trans hb1.size hb2.size))⟩
    | some b =>
      rw [hd] at he
      obtain ⟨v, rfl, ho⟩ := he
      obtain ⟨a1, c1, rfl, hr1, _⟩ := ho.rd
      generalize hbl : b.length = m at hr1 ⊢
      have HB := Lib.hid hbl
      clear ho hbl
      go_wp2_with fail
      refine (refDecode_any l w1 (by omega)).mono ?_
      rintro e w2 ⟨he, hb2⟩
      rw [refDec_dec, hd] at he
      obtain ⟨v2, rfl, ho2⟩ := he
      obtain ⟨a2, c2, rfl, hr2, _⟩ := ho2.rd
      rw [HB.out] at hr2 ⊢
      have s1 := run_str (P := Try.prog) w2 22 9 5 _ _ _ b Try.underlying22 Try.underlying9 Try.underlying5 (hr1.below hb2)
      have s2 := run_str (P := Try.prog) w2 22 9 5 _ _ _ b Try.underlying22 Try.underlying9 Try.underlying5 hr2
      have B2 := Lib.hid (hb1.trans (hb2.mono hb1.size))
      clear hr1 hr2 ho2 hb1 hb2 hd
      go_wp2_with fail
      refine (sixAwake_any _).mono ?_
      rintro e w3 ⟨rfl, hb3⟩
      go_wp2
      go_ret
      exact ⟨rfl, B2.out.trans (hb3.mono B2.out.size)⟩
  · have n1 : (400 : Int) < (l.length : Int) := by omega
    go_wp2
    go_ret
    exact ⟨rfl, Below.refl _ _⟩
end Go.Proofs.Ythogbbigglmapaa
