/- More steps of a region in the order of its text: guarded operations. -/
import Derived.Test.YtepijmidafndaaaDoorText
namespace Go.Proofs.YtepijmidafndaaaDoor
section
variable {P : Program} {ops : Array Oper}
theorem wp_region_text2 {id : Nat} {Q : Exit → Act → World → Prop} {a : Act} {w : World} {l : List Oper} (ks : List Nat) (hm : P.follows .mixedOrders = true) (hok : textOk l.toArray ks = true)
    (h : ∀ (K : Act → World → Prop), (∀ a w, Q .normal a w → K a w) → wpZ P l.toArray K ks l a w.drew) : (Code.region id l.toArray true).wp P Q a w :=
  wp_region_text ks hm hok (h _ fun _ _ h => h)
variable {K : Act → World → Prop} {k : Nat} {ks : List Nat} {l : List Oper} {o : Oper} {a a' : Act} {w : World} {v : Value}
theorem z_callwG (hg : Region.wanted o (yielded ops a.tmps) = true) (hr : EntersW P ((execOp a.eval o).run P w) w fun e w' => ∃ v, e = .returned v ∧ wpZ P ops K ks l (a.put o.dst v) w') : wpZ P ops K (2 :: ks) (o :: l) a w := by
  obtain ⟨f, args, hr, hc⟩ := hr
  unfold wpZ opT
  simp only [hg, if_true]
  unfold Oper.wp
  rw [hr]
  refine Calls.mono hc fun e w' he => ?_
  obtain ⟨v, rfl, h⟩ := he
  exact h
end
end Go.Proofs.YtepijmidafndaaaDoor
