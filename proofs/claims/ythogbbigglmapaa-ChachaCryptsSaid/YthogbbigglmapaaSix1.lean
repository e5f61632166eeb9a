/- sixty: signs and numbers; bytes of strings -/
import Derived.Test.YthogbbigglmapaaApp
import Derived.Test.YthogbbigglmapaaOct3
namespace Go.Proofs.Ythogbbigglmapaa
open Go.RowKit
def signs : List (BitVec 8) := [65#8, 66#8, 67#8, 68#8, 69#8, 70#8, 71#8, 72#8, 73#8, 74#8, 75#8, 76#8, 77#8, 78#8, 79#8, 80#8, 81#8, 82#8, 83#8, 84#8, 85#8, 86#8, 87#8, 88#8, 89#8, 90#8, 97#8, 98#8, 99#8, 100#8, 101#8, 102#8, 103#8, 104#8, 105#8, 106#8, 107#8, 108#8, 109#8, 110#8, 111#8, 112#8, 113#8, 114#8, 115#8, 116#8, 117#8, 118#8, 119#8, 120#8, 121#8, 122#8, 48#8, 49#8, 50#8, 51#8, 52#8, 53#8, 54#8, 55#8, 56#8, 57#8, 45#8, 95#8]
theorem signs_str : ({ data := #[65, 66, 67, 68, 69, 70, 71, 72, 73, 74, 75, 76, 77, 78, 79, 80, 81, 82, 83, 84, 85, 86, 87, 88, 89, 90, 97, 98, 99, 100, 101, 102, 103, 104, 105, 106, 107, 108, 109, 110, 111, 112, 113, 114, 115, 116, 117, 118, 119, 120, 121, 122, 48, 49, 50, 51, 52, 53, 54, 55, 56, 57, 45, 95] } : ByteArray) = str signs := by decide
/-- the sign of a number -/
def sgn (x : BitVec 32) : BitVec 8 := nth signs x.toNat
def num (c : BitVec 8) : Option (BitVec 8) :=
  if 65 ≤ c.toNat ∧ c.toNat ≤ 90 then some (c - 65#8)
  else if 97 ≤ c.toNat ∧ c.toNat ≤ 122 then some (c - 97#8 + 26#8)
  else if 48 ≤ c.toNat ∧ c.toNat ≤ 57 then some (c - 48#8 + 52#8)
  else if c = 45#8 then some 62#8
  else if c = 95#8 then some 63#8
  else none
section
variable {P : Program}
theorem str_get (l : List (BitVec 8)) (i : Nat) (h : i < l.length) : (str l)[i]? = some (UInt8.ofBitVec (nth l i)) := by
  have h2 : i < (str l).size := by rw [str_size]; exact h
  rw [getElem?_pos (str l) i h2]
  congr 1
  show (str l).data[i] = _
  have := str_data l
  rw [← Array.getElem_toList]
  simp [this, nth, List.getD_eq_getElem?_getD, h]
theorem index_str {T : TypeId} (hT : P.underlying T = some .string) (l : List (BitVec 8)) (k : IntKind) (i : Nat) (h : i < l.length) (w : World) : (Instr.index T (.string (str l)) (.int k i)).run P w = .ok (v8 (nth l i)) w := by
  have h0 : (0 : Int) ≤ (i : Int) := by omega
  simp only [Instr.index, asIntOf, Sem.run_bind, Sem.run_pure, Result.andThen_ok, run_underlying hT, h0, if_true, Int.toNat_natCast, str_get l i h]
  rfl
/-- a slice literal of one byte -/
theorem run_build1 (w : World) (t e : TypeId) (x : BitVec 8) (hu : P.underlying t = some (.slice e)) (hi : (P.info? e).map (fun i => (i.zero, i.size, i.bytes)) = some (some (.int .u8 0), 1, 1)) :
    (Instr.buildSlice t 1 #[(0, v8 x)]).run P w = .ok (.slice (some ⟨w.heap.size, 0, none⟩) 1 1) (w.alloc (.cells (A8 [x]) e)) := by
  obtain ⟨i, hi, hz, hs, _⟩ := info_parts hi
  have hc : (v8 x).cells = #[v8 x] := rfl
  simp [Instr.buildSlice, run_underlying hu, sizeOf, typeInfo, hi, hs, newRow, Instr.fill, zeroValue, hz, hc, A8]
  congr 2
  rw [show Array.range 1 = #[0] from rfl]
  simp
/-- a literal of one byte, as a step -/
theorem z_build1 {ops : Array Oper} {K : Act → World → Prop} {ks : List Nat} {l : List Oper} {a : Act} {w : World} {d : Option Tmp} {y : Operand} {t ty e : TypeId} {pos : String} {after : Array Edge} {x : BitVec 8} (hy : a.eval y = v8 x) (ht : P.underlying t = some (.slice e)) (hi : (P.info? e).map (fun i => (i.zero, i.size, i.bytes)) = some (some (.int .u8 0), 1, 1))
    (h : ∀ w1 b, Rd8 w1 (some ⟨b, 0, none⟩) 1 1 [x] → Below w.heap.size w w1 → wpZ P ops K ks l (a.put d (.slice (some ⟨b, 0, none⟩) 1 1)) w1) :
    wpZ P ops K (2 :: ks) (⟨d, .buildSlice t 1 #[(0, y)], ty, pos, after, none⟩ :: l) a w := by
  unfold wpZ opT
  simp only [Region.wanted, if_true]
  have hr : (execOp a.eval ⟨d, .buildSlice t 1 #[(0, y)], ty, pos, after, none⟩).run P w = .ok (.value (.slice (some ⟨w.heap.size, 0, none⟩) 1 1)) (w.alloc (.cells (A8 [x]) e)) := by
    simp only [execOp, List.map_toArray, List.map_cons, List.map_nil, hy, Sem.run_bind, run_build1 w t e x ht hi, Result.andThen_ok, Sem.run_pure]
  unfold Oper.wp
  rw [hr]
  have hb := (Blk.new w e (A8 [x])).rd8 1 (by simp) (by simp [maxLen])
  exact h _ _ hb ((Below.refl _ _).alloc (Nat.le_refl _) _)
end
@[go_sem ↓ high] theorem index_strT (l : List (BitVec 8)) (i : Nat) (h : i < l.length) (w : World) : (Instr.index 9 (.string (str l)) (.int .i64 i)).run Try.prog w = .ok (v8 (nth l i)) w := index_str Try.underlying9 l .i64 i h w
@[go_sem high] theorem index_sign (x : BitVec 32) (h : x.toNat < 64) (w : World) : (Instr.index 9 (.string { data := #[65, 66, 67, 68, 69, 70, 71, 72, 73, 74, 75, 76, 77, 78, 79, 80, 81, 82, 83, 84, 85, 86, 87, 88, 89, 90, 97, 98, 99, 100, 101, 102, 103, 104, 105, 106, 107, 108, 109, 110, 111, 112, 113, 114, 115, 116, 117, 118, 119, 120, 121, 122, 48, 49, 50, 51, 52, 53, 54, 55, 56, 57, 45, 95] }) (v32 x)).run Try.prog w = .ok (v8 (sgn x)) w := by
  rw [signs_str]
  exact index_str Try.underlying9 signs .u32 x.toNat h w
set_option linter.unusedSimpArgs false in
theorem number_any (c : BitVec 8) (w : World) :
    Calls Try.prog 45 #[v8 c] w fun e w' => e = .returned (.tuple #[v8 ((num c).getD 0#8), .bool (num c).isSome]) ∧ w = w' := by
  obtain ⟨r, hr⟩ : ∃ r, num c = r := ⟨_, rfl⟩
  rw [hr]
  unfold num at hr
  by_cases a1 : 65 ≤ c.toNat <;> by_cases a2 : c.toNat ≤ 90 <;> by_cases a3 : 97 ≤ c.toNat <;> by_cases a4 : c.toNat ≤ 122 <;> by_cases a5 : 48 ≤ c.toNat <;> by_cases a6 : c.toNat ≤ 57 <;> first | (exfalso; omega) | skip
  all_goals by_cases a7 : c = 45#8
  all_goals by_cases a8 : c = 95#8
  all_goals (first | (subst a7; simp at a1 a2 a3 a4 a5 a6; done) | (subst a8; simp at a1 a2 a3 a4 a5 a6; done) | (subst a8; simp at a7; done) | skip)
  all_goals (simp only [a1, a2, a3, a4, a5, a6, a7, a8, and_self, and_true, and_false, false_and, true_and, if_true, if_false] at hr; subst hr)
  all_goals (try have b7 : (c == 45#8) = false := beq_eq_false_iff_ne.2 a7)
  all_goals (try have b8 : (c == 95#8) = false := beq_eq_false_iff_ne.2 a8)
  all_goals (go_enter Try.func45, Try.ntmps45; go_wp2; go_ret2; exact ⟨rfl, rfl⟩)
end Go.Proofs.Ythogbbigglmapaa
