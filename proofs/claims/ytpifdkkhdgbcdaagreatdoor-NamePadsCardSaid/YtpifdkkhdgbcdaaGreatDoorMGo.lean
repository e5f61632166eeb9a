/- The check of a long region, reckoned number by number. -/
import Derived.Test.YtpifdkkhdgbcdaaGreatDoorMGt
namespace Go.Proofs.YtpifdkkhdgbcdaaGreatDoor
set_option linter.unusedSimpArgs false
set_option maxRecDepth 100000
set_option maxHeartbeats 1600000
def force {α : Type} (n : Nat) (k : Nat → α) : α := Nat.rec (k 0) (fun m _ => k (m + 1)) n
theorem force_eq {α : Type} (n : Nat) (k : Nat → α) : force n k = k n := by cases n <;> rfl
def maskOfF (acc : List Nat) (o : Oper) : Nat := o.after.toList.foldl (fun s e => force s fun s => if Region.binds .any e then s ||| 2 ^ e.on ||| acc.getD e.on 0 else s) 0
theorem maskOfF_eq (acc : List Nat) (o : Oper) : maskOfF acc o = maskOf acc o := by
 unfold maskOfF maskOf
 congr 1
 funext s e
 rw [force_eq]
def maskK {α : Type} : List Oper → List Nat → (List Nat → α) → α
 | [], acc, k => k acc
 | o :: r, acc, k => force (maskOfF acc o) fun m => maskK r (acc ++ [m]) k
theorem maskK_eq {α : Type} (k : List Nat → α) : ∀ (l : List Oper) (acc : List Nat), maskK l acc k = k (maskGo l acc)
 | [], _ => rfl
 | o :: r, acc => by
  unfold maskK maskGo
  rw [force_eq, maskK_eq k r, maskOfF_eq]
def textOkF (ops : Array Oper) (ks : List Nat) : Bool :=
 Region.noSelect ops && decide (ks.length = ops.size) &&
 (List.range ops.size).all (fun i => match ops[i]? with | some o => o.after.toList.all fun e => !Region.binds .any e || decide (e.on < i) | none => true) &&
 maskK ops.toList [] fun ms => (List.range ops.size).all fun i => force (ms.getD i 0) fun m => (List.range i).all fun x => m.testBit x || pairOk ops (fun j => ks.getD j 2) x i
theorem textOkF_eq (ops : Array Oper) (ks : List Nat) : textOkF ops ks = textOk ops ks := by
 unfold textOkF textOk
 rw [maskK_eq]
 simp only [force_eq]
 rfl
section
variable {P : Program}
theorem wp_region_text3' {id : Nat} {Q : Exit → Act → World → Prop} {a : Act} {w : World} {l : List Oper} (ks : List Nat) (hm : P.follows .mixedOrders = true) (hok : textOkF l.toArray ks = true)
  (h : ∀ (ops' : Array Oper) (K : Act → World → Prop), (∀ a w, Q .normal a w → K a w) → wpZ P ops' K ks l a w.drew) : (Code.region id l.toArray true).wp P Q a w :=
 wp_region_text' ks hm (by rw [← textOkF_eq]; exact hok) h
end
section
variable {P : Program}
end
end Go.Proofs.YtpifdkkhdgbcdaaGreatDoor
