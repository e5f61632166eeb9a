/- appending to what a statement makes; storing into own bytes -/
import Derived.Test.YthogbbigglmapaaJump
namespace Go.Proofs.Ythogbbigglmapaa
open Go.RowKit
section
variable {P : Program} {ops : Array Oper} {K : Act → World → Prop} {ks : List Nat} {l : List Oper} {a : Act} {w : World}
theorem run_build0 (w : World) (t e : TypeId) (hu : P.underlying t = some (.slice e)) (hi : (P.info? e).map (fun i => (i.zero, i.size, i.bytes)) = some (some (.int .u8 0), 1, 1)) :
    (Instr.buildSlice t 0 #[]).run P w = .ok (.slice (some ⟨w.heap.size, 0, none⟩) 0 0) (w.alloc (.cells #[] e)) := by
  obtain ⟨i, hi, _, _, _⟩ := info_parts hi
  simp [Instr.buildSlice, run_underlying hu, sizeOf, typeInfo, hi, newRow, Instr.fill]
  congr 2
  apply Array.eq_empty_of_size_eq_zero
  simp
/-- an empty literal -/
theorem z_build0 {d : Option Tmp} {t ty e : TypeId} {pos : String} {after : Array Edge} {B : Nat} (hB : B ≤ w.heap.size) (ht : P.underlying t = some (.slice e)) (hi : (P.info? e).map (fun i => (i.zero, i.size, i.bytes)) = some (some (.int .u8 0), 1, 1))
    (h : ∀ w1 v1, Own8 w1 B e v1 [] → Below w.heap.size w w1 → wpZ P ops K ks l (a.put d v1) w1) :
    wpZ P ops K (2 :: ks) (⟨d, .buildSlice t 0 #[], ty, pos, after, none⟩ :: l) a w := by
  unfold wpZ opT
  simp only [Region.wanted, if_true]
  have hr : (execOp a.eval ⟨d, .buildSlice t 0 #[], ty, pos, after, none⟩).run P w = .ok (.value (.slice (some ⟨w.heap.size, 0, none⟩) 0 0)) (w.alloc (.cells #[] e)) := by
    simp [execOp, run_build0 w t e ht hi]
  unfold Oper.wp
  rw [hr]
  refine h _ _ ?_ ((Below.refl _ _).alloc (Nat.le_refl _) _)
  exact World.ownsRow_made w #[] 0 hB (by unfold maxLen; omega) (by simp)
end
theorem Rd8.pre {w : World} {a : Option Addr} {n c : Nat} {l : List (BitVec 8)} (h : Rd8 w a n c l) {j : Nat} (hj : j ≤ n) : Rd8 w a j c (l.take j) :=
  ⟨by rw [List.length_take, h.1]; omega, by have := h.2.1; omega, h.2.2.1, fun hn => by
    obtain ⟨b, o, ha, hb, hc⟩ := h.2.2.2 (by omega)
    exact ⟨b, o, ha, hb, fun i hi => by rw [hc i (by omega), nth_take _ _ _ hi]⟩⟩
theorem Own8.rdAt {w : World} {B n c : Nat} {e : TypeId} {a : Option Addr} {l : List (BitVec 8)} (h : Own8 w B e (.slice a n c) l) : Rd8 w a n c l := by
  obtain ⟨a', c', he, hr, _⟩ := h.rd
  cases he
  exact hr
theorem Own8.form {w : World} {B : Nat} {e : TypeId} {v : Value} {l : List (BitVec 8)} (h : Own8 w B e v l) (hn : 0 < l.length) :
    ∃ g cap, v = .slice (some ⟨g, 0, none⟩) l.length cap ∧ B ≤ g ∧ g < w.heap.size := by
  rcases h.2 with ⟨_, h0⟩ | ⟨g, cap, cur, hv, hb, hg, _⟩
  · omega
  · exact ⟨g, cap, hv, hb, (Array.getElem?_eq_some_iff.1 hg).1⟩
theorem Own8.cell {w : World} {B g cap : Nat} {e : TypeId} {l : List (BitVec 8)} (h : Own8 w B e (.slice (some ⟨g, 0, none⟩) l.length cap) l) (j : Nat) (hj : j < l.length) : w.cell? ⟨g, j, none⟩ = some (v8 (nth l j)) := by
  rw [World.ownsRow.cellAt h j (by omega), List.getElem?_map, nth_eq hj]; rfl
theorem Own8.frozen {w : World} {B g cap : Nat} {e : TypeId} {l : List (BitVec 8)} (h : Own8 w B e (.slice (some ⟨g, 0, none⟩) l.length cap) l) (j : Nat) : w.frozen? ⟨g, j, none⟩ = false := World.ownsRow.frozenAt h j
theorem Own8.stored {w : World} {B g cap : Nat} {e : TypeId} {l : List (BitVec 8)} (h : Own8 w B e (.slice (some ⟨g, 0, none⟩) l.length cap) l) (j : Nat) (x : BitVec 8) :
    Own8 (w.setCell ⟨g, j, none⟩ (v8 x)) B e (.slice (some ⟨g, 0, none⟩) l.length cap) (l.set j x) ∧ w.grownBy (w.setCell ⟨g, j, none⟩ (v8 x)) (some g) := by
  obtain ⟨h1, h2⟩ := World.ownsRow.stored h j (v8 x)
  refine ⟨?_, h2⟩
  unfold Own8
  rw [List.length_set, List.map_set]
  exact h1
end Go.Proofs.Ythogbbigglmapaa
