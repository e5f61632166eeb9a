/- steps of a region that are known by their run -/
import Derived.Test.YthogbbigglmapaaApp
import Derived.Test.YthogbbigglmapaaText4
namespace Go.Proofs.Ythogbbigglmapaa
open Go.RowKit
section
variable {P : Program} {ops : Array Oper} {K : Act → World → Prop} {ks : List Nat} {l : List Oper} {o : Oper} {a : Act} {w w1 : World} {v : Value}
theorem z_run (hg : o.guard = none) (hr : (execOp a.eval o).run P w = .ok (.value v) w1) (h : wpZ P ops K ks l (a.put o.dst v) w1) : wpZ P ops K (2 :: ks) (o :: l) a w := by
  unfold wpZ opT
  simp only [Region.wanted, hg, if_true]
  unfold Oper.wp
  rw [hr]
  exact h
/-- append onto a slice that has no room -/
theorem z_append8g {d : Option Tmp} {x y : Operand} {t ty e : TypeId} {pos : String} {after : Array Edge} {m s : List (BitVec 8)} {sp sq : Option Addr} {n c n' c' : Nat} (hm : Rd8 w sp n c m) (hl : Rd8 w sq n' c' s)
    (hx : a.eval x = .slice sp n c) (hy : a.eval y = .slice sq n' c') (ht : P.underlying t = some (.slice e)) (hi : (P.info? e).map (fun i => (i.zero, i.size, i.bytes)) = some (some (.int .u8 0), 1, 1)) (hn : 0 < n) (hn' : 0 < n') (hc : c < n + n') (hb : n + n' ≤ 140737488355328)
    (h : ∀ w1 v1, Own8 w1 w.heap.size e v1 (m ++ s) → Below w.heap.size w w1 → wpZ P ops K ks l (a.put d v1) w1) :
    wpZ P ops K (2 :: ks) (⟨d, .call { callee := .builtin .append, args := #[x, y], argTypes := #[t, t] }, ty, pos, after, none⟩ :: l) a w := by
  unfold wpZ opT
  simp only [Region.wanted, if_true]
  obtain ⟨v1, w1, hc, h1, h2⟩ := run_append8g (P := P) w t ty e ht hi sp n c m hm hn sq n' c' s hl hn' hc hb
  have hr : (execOp a.eval ⟨d, .call { callee := .builtin .append, args := #[x, y], argTypes := #[t, t] }, ty, pos, after, none⟩).run P w = .ok (.value v1) w1 := by
    rw [BigFrame.execOp_builtin]
    simp only [BigFrame.builtin_append, List.map_toArray, List.map_cons, List.map_nil, hx, hy, Sem.run_bind, hc, Result.andThen_ok, Sem.run_pure]
  unfold Oper.wp
  rw [hr]
  exact h _ _ h1 h2
end
end Go.Proofs.Ythogbbigglmapaa
