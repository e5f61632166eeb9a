/- A region that draws its order and only reads, or makes new memory: walked once, in the order of its text; every value is the same in all worlds that keep what was there. -/
import Derived.Deep.Quiet
import Derived.Test.YtepijmidafndaaaDoorText2
namespace Go.Proofs.YtepijmidafndaaaDoor
open Go.RowKit
def wpQ (P : Program) (ops : Array Oper) (C : World → Prop) (K : Act → Prop) (l : List Oper) (a : Act) : Prop := wpQuiet P ops C K l a
section
variable {P : Program} {ops : Array Oper}
theorem wp_region_still {id : Nat} {Q : Exit → Act → World → Prop} {a : Act} {w : World} {l : List Oper} (hm : P.follows .mixedOrders = true) (hB : Region.lexB .any l.toArray = true)
    (h : ∀ C : World → Prop, C w.drew → (∀ w1, C w1 → Below w.drew.heap.size w.drew w1) → (∀ w1 w2, C w1 → Below w1.heap.size w1 w2 → C w2) → ∀ K : Act → World → Prop, (∀ a w, Q .normal a w → K a w) → wpQ P l.toArray C (fun a => ∀ w, C w → K a w) l a) :
    (Code.region id l.toArray true).wp P Q a w := by
  refine wp_region_quiet (ops := l.toArray) (C := fun w1 => Below w.drew.heap.size w.drew w1) hm hB ?_ ?_
  · exact Below.refl _ w.drew
  · exact h _ (Below.refl _ _) (fun _ h => h) (fun w1 w2 h1 h2 => h1.trans (h2.mono h1.size)) _ (fun _ _ h => h)
variable {C : World → Prop} {K : Act → Prop} {l : List Oper} {o : Oper} {a a' : Act} {v : Value}
theorem q_obl (hg : Region.wanted o (yielded ops a.tmps) = true) (hr : ∀ w, C w → (execOp a.eval o).run P w = .ok (.value v) w) (ha : a.put o.dst v = a') (h : wpQ P ops C K l a') : wpQ P ops C K (o :: l) a := by
  subst ha
  unfold wpQ wpQuiet
  rw [if_pos hg]
  refine ⟨v, fun w hw => ?_, h⟩
  unfold Oper.quietAt
  rw [hr w hw]
  exact ⟨rfl, rfl⟩
theorem q_skip (hw : Region.wanted o (yielded ops a.tmps) = false) (ha : a.put o.dst undef = a') (h : wpQ P ops C K l a') : wpQ P ops C K (o :: l) a := by
  subst ha
  unfold wpQ wpQuiet
  rw [if_neg (by rw [hw]; simp)]
  exact h
theorem q_call (hg : Region.wanted o (yielded ops a.tmps) = true) (hr : ∀ w, C w → EntersW P ((execOp a.eval o).run P w) w fun e w' => e = .returned v ∧ C w') (ha : a.put o.dst v = a') (h : wpQ P ops C K l a') : wpQ P ops C K (o :: l) a := by
  subst ha
  unfold wpQ wpQuiet
  rw [if_pos hg]
  refine ⟨v, fun w hw => ?_, h⟩
  obtain ⟨f, args, hr, hc⟩ := hr w hw
  unfold Oper.quietAt
  rw [hr]
  exact ⟨rfl, hc⟩
/-- a call that makes new memory at most -/
def EntersB (P : Program) (r : Result Next) (w : World) (v : Value) : Prop := ∃ f args, r = .ok (.enter f args) w ∧ Calls P f args w fun e w' => e = .returned v ∧ Below w.heap.size w w'
theorem entersB_of {P : Program} {f : FuncId} {args : Array Value} {w : World} {v : Value} (h : Calls P f args w fun e w' => e = .returned v ∧ Below w.heap.size w w') : EntersB P (.ok (.enter f args) w) w v := ⟨f, args, rfl, h⟩
theorem q_callB (hn : ∀ w1 w2, C w1 → Below w1.heap.size w1 w2 → C w2) (hg : Region.wanted o (yielded ops a.tmps) = true) (hr : ∀ w, C w → EntersB P ((execOp a.eval o).run P w) w v) (ha : a.put o.dst v = a') (h : wpQ P ops C K l a') : wpQ P ops C K (o :: l) a :=
  q_call hg (fun w hw => by
    obtain ⟨f, args, hr, hc⟩ := hr w hw
    exact ⟨f, args, hr, hc.mono fun e w' h => ⟨h.1, hn _ _ hw h.2⟩⟩) ha h
theorem q_nil (h : K a) : wpQ P ops C K [] a := by unfold wpQ wpQuiet; exact h
end
attribute [irreducible] wpQ
end Go.Proofs.YtepijmidafndaaaDoor
