/- a region that keeps its order, with guards -/
import Derived.Test.YtepijmidafndaaaDoorText3
namespace Go.Proofs.YtepijmidafndaaaDoor
section
variable {P : Program}
theorem wp_region_plain2 {id : Nat} {Q : Exit → Act → World → Prop} {a : Act} {w : World} {l : List Oper} (ks : List Nat) (hl : ks.length = l.length)
    (h : ∀ (K : Act → World → Prop), (∀ a w, Q .normal a w → K a w) → wpZ P l.toArray K ks l a w) : (Code.region id l.toArray false).wp P Q a w :=
  wp_region_lit (wpList_of_wpZ (K := Q .normal) (fun _ _ h => h) ks l a w hl (h _ fun _ _ h => h))
end
end Go.Proofs.YtepijmidafndaaaDoor
