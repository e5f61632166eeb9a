/- loops that are jumps back to one label; own rows under later writes -/
import Derived.Test.YthogbbigglmapaaMem2
import Derived.ScopeJumps
import Derived.Test.YthogbbigglmapaaText2
import Derived.Test.YthogbbigglmapaaStr
import Derived.Deep.Cut
namespace Go.Proofs.Ythogbbigglmapaa
open Go.RowKit
theorem Own8.base {w : World} {B B' : Nat} {e : TypeId} {v : Value} {l : List (BitVec 8)} (h : Own8 w B e v l) (hb : B' ≤ B) : Own8 w B' e v l :=
  ⟨h.1, h.2.imp id fun ⟨g, cap, cur, h1, h2, h3⟩ => ⟨g, cap, cur, h1, Nat.le_trans hb h2, h3⟩⟩
theorem Own8.grown {w w' : World} {B g : Nat} {e : TypeId} {v : Value} {l : List (BitVec 8)} (h : Own8 w B e v l) (hg : w.grownBy w' (some g)) (hb : g < B) : Own8 w' B e v l :=
  World.ownsRow.kept h hg (by
    cases hv : v.ownBlock with
    | none => exact .inl rfl
    | some k =>
      refine .inr fun e => ?_
      have := (World.ownsRow.lt h k hv).1
      cases e
      omega)
theorem Own8.apart {w : World} {B g : Nat} {e : TypeId} {v : Value} {l : List (BitVec 8)} (h : Own8 w B e v l) (hb : g < B) : some g ≠ v.ownBlock := by
  intro e
  have := (World.ownsRow.lt h g e.symm).1
  omega
theorem wp_scope_enter {P : Program} {a : Act} {w : World} {Q : Exit → Act → World → Prop} {c rest : Code} (l : Nat) (J : Act → World → Prop) (μ : Act → World → Nat) (hf : findLabel c l = some (Code.skip.seq rest))
    (first : (∀ a w, J a w → rest.wp P (Exit.jump l J Q) a w) → c.wp P (Exit.jump l J Q) a w)
    (pass : ∀ a w, J a w → rest.wp P (Exit.jump l (fun a' w' => J a' w' ∧ μ a' w' < μ a w) Q) a w) : (Code.scope c).wp P Q a w :=
  wp_scope_jumps l J μ hf (first fun a w hJ => Code.wp_mono (fun e a' w' h => by cases e <;> first | exact h | exact ⟨h.1, h.2.1⟩) (pass a w hJ)) (fun a w hJ => wp_seq (wp_skip (pass a w hJ)))
theorem ex_frame {F : (Nat → Value) → Array Value} (t : Array Value) (h : t = F (fun i => t.getD i undef)) : ∃ u, ({ tmps := t, defers := [] } : Act) = { tmps := F u, defers := [] } := ⟨_, by rw [← h]⟩
section
variable {P : Program} {ops : Array Oper} {K : Act → World → Prop} {ks : List Nat} {l : List Oper} {a : Act} {w : World}
/-- append onto bytes of the call's own -/
theorem z_append8 {d : Option Tmp} {x y : Operand} {t ty e : TypeId} {pos : String} {after : Array Edge} {B : Nat} {v : Value} {m s : List (BitVec 8)} {sp : Option Addr} {n c : Nat} (hown : Own8 w B e v m) (hl : Rd8 w sp n c s)
    (hx : a.eval x = v) (hy : a.eval y = .slice sp n c) (ht : P.underlying t = some (.slice e)) (hi : (P.info? e).map (fun i => (i.zero, i.size, i.bytes)) = some (some (.int .u8 0), 1, 1)) (hb : m.length + n ≤ 140737488355328) (hB : B ≤ w.heap.size)
    (h : ∀ w1 v1, Own8 w1 B e v1 (m ++ s) → w.grownBy w1 v.ownBlock → Below B w w1 → wpZ P ops K ks l (a.put d v1) w1) :
    wpZ P ops K (2 :: ks) (⟨d, .call { callee := .builtin .append, args := #[x, y], argTypes := #[t, t] }, ty, pos, after, none⟩ :: l) a w := by
  unfold wpZ opT
  simp only [Region.wanted, if_true]
  obtain ⟨v1, w1, hc, h1, h2, h3⟩ := run_append8 (P := P) w B t ty e ht hi v m hown sp n c s hl hb hB
  have hr : (execOp a.eval ⟨d, .call { callee := .builtin .append, args := #[x, y], argTypes := #[t, t] }, ty, pos, after, none⟩).run P w = .ok (.value v1) w1 := by
    rw [BigFrame.execOp_builtin]
    simp only [BigFrame.builtin_append, List.map_toArray, List.map_cons, List.map_nil, hx, hy, Sem.run_bind, hc, Result.andThen_ok, Sem.run_pure]
  unfold Oper.wp
  rw [hr]
  exact h _ _ h1 h2 h3
end
end Go.Proofs.Ythogbbigglmapaa
