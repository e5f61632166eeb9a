/- sixty: the chapter's examples -/
import Derived.Test.YthogbbigglmapaaSix3
namespace Go.Proofs.Ythogbbigglmapaa
open Go.RowKit
theorem freeze_new (w : World) (C : Array Value) (e : TypeId) (n : Nat) : (w.alloc (.cells C e)).freeze ⟨w.heap.size, n, none⟩ 1 = w.alloc (.cells C e (n, n + 1)) := by
  have hm : ∀ (a : Array Obj) (x : Obj) (f : Obj → Obj), (a.push x).modify a.size f = a.push (f x) := by
    intro a x f
    apply Array.ext
    · simp
    · intro i h1 h2
      simp only [Array.getElem_modify, Array.getElem_push]
      by_cases h : a.size = i
      · subst h
        simp
      · have hi : i < a.size := by simp at h1; omega
        simp [h, hi]
  unfold World.freeze
  rw [if_neg (by decide)]
  show ({ w.alloc (.cells C e) with heap := (w.heap.push (.cells C e)).modify w.heap.size _ } : World) = _
  rw [hm]
  rfl
theorem convert_same {P : Program} (w : World) (src e : TypeId) (C : Array Value) (n c : Nat) (hs : P.underlying src = some (.slice e)) (he : P.underlying e = some (.int .u8)) :
    (convert src src (.slice (some ⟨w.heap.size, 0, none⟩) n c)).run P (w.alloc (.cells C e)) = .ok (.slice (some ⟨w.heap.size, 0, none⟩) n c) (w.alloc (.cells C e (C.size, C.size + 1))) := by
  have hsh : (w.alloc (.cells C e)).shape? w.heap.size = some (e, C.size) := by
    unfold World.shape?
    rw [heap_alloc_new]
  simp [convert, run_underlying hs, run_underlying he, markStringish, hsh]
  exact freeze_new w C e _
set_option linter.unusedSimpArgs false in
set_option maxRecDepth 100000 in
theorem sixAwake_any (w : World) : Calls Try.prog 22 #[] w fun e w' => e = .returned (.bool true) ∧ Below w.heap.size w w' := by
  have h1 := fun w => sixDecode_any [65#8, 66#8] w (by simp)
  have h2 := fun w => sixDecode_any [95#8, 95#8, 56#8] w (by simp)
  rw [show str [65#8, 66#8] = ({ data := #[65, 66] } : ByteArray) by decide, show dec [65#8, 66#8] = none by decide] at h1
  rw [show str [95#8, 95#8, 56#8] = ({ data := #[95, 95, 56] } : ByteArray) by decide, show dec [95#8, 95#8, 56#8] = some [255#8, 255#8] by decide] at h2
  go_enter Try.func22, Try.ntmps22
  go_wp2_with fail
  refine (h1 _).mono ?_
  rintro e w1 ⟨he, hb1⟩
  simp only [DecPost] at he
  subst he
  go_wp2_with fail
  refine (h2 _).mono ?_
  rintro e w2 ⟨he, hb2⟩
  simp only [DecPost] at he
  obtain ⟨v2, rfl, ho2⟩ := he
  have B2 := Lib.hid (hb1.trans (hb2.mono hb1.size))
  clear hb1 hb2 h1 h2
  have hcv := convert_same (P := Try.prog) w2 22 5 #[.int .u8 97, .int .u8 98, .int .u8 99] 3 3 Try.underlying22 Try.underlying5
  obtain ⟨W2, hW2⟩ : ∃ W2, W2 = w2.alloc (.cells #[.int .u8 97, .int .u8 98, .int .u8 99] 5 (3, 4)) := ⟨_, rfl⟩
  rw [show (#[Value.int .u8 97, .int .u8 98, .int .u8 99] : Array Value).size = 3 from rfl, ← hW2] at hcv
  have hrd : Rd8 W2 (some ⟨w2.heap.size, 0, none⟩) 3 3 [97#8, 98#8, 99#8] := by
    rw [hW2]
    exact Rd8.of_row (by unfold rowAt; rw [heap_alloc_new]; rfl) rfl (by simp) (by decide)
  have hB2 : Below w2.heap.size w2 W2 := by rw [hW2]; exact (Below.refl _ _).alloc (Nat.le_refl _) _
  have h3 := sixEncode_any [97#8, 98#8, 99#8] (some ⟨w2.heap.size, 0, none⟩) 3 3 W2 hrd (by omega)
  rw [show enc [97#8, 98#8, 99#8] = [89#8, 87#8, 74#8, 106#8] by decide, show str [89#8, 87#8, 74#8, 106#8] = ({ data := #[89, 87, 74, 106] } : ByteArray) by decide] at h3
  clear hW2
  go_wp2_with fail
  refine h3.mono ?_
  rintro e w3 ⟨rfl, hb3⟩
  have ho3 := (ho2.below hB2).below hb3
  obtain ⟨a3, c3, rfl, hr3, _⟩ := ho3.rd
  have s1 := run_str (P := Try.prog) w3 22 9 5 a3 2 c3 _ Try.underlying22 Try.underlying9 Try.underlying5 hr3
  rw [show str [255#8, 255#8] = ({ data := #[255, 255] } : ByteArray) by decide] at s1
  have B3 := Lib.hid ((B2.out.trans (hB2.mono B2.out.size)).trans (hb3.mono (Nat.le_trans B2.out.size hB2.size)))
  clear ho3 hr3 ho2 hB2 hb3 hrd hcv h3
  go_wp2
  go_ret
  exact ⟨rfl, B3.out⟩
end Go.Proofs.Ythogbbigglmapaa
