/- hctr: what the laws say, plain; steps behind the makers of a region -/
import Derived.Test.YtfdkmjegcghieaaDoorHc2
namespace Go.Proofs.YtfdkmjegcghieaaDoor
open Go.RowKit
theorem blk_take (l : List (BitVec 8)) (h : 16 ≤ l.length) : blk l = l.take 16 := by
  have ht : (l.take 16).length = 16 := by rw [List.length_take]; omega
  rw [← blk_id _ ht]
  unfold blk
  rw [List.take_take, Nat.min_self]
theorem xor16_cancel (a o h : List (BitVec 8)) : xor16 (xor16 a h) (xor16 o h) = xor16 a o := by
  apply ext_nth (by simp)
  intro i hi
  have hi' : i < 16 := by simpa using hi
  rw [xor16, nth_r16 _ _ hi', xor16, nth_r16 _ _ hi', xor16, nth_r16 _ _ hi', xor16, nth_r16 _ _ hi', BitVec.xor_assoc, BitVec.xor_comm (nth o i), ← BitVec.xor_assoc (nth h i), BitVec.xor_self, BitVec.zero_xor]
section
variable {P : Program} {ops : Array Oper} {C : World → Prop} {K : Act → World → Prop} {ks : List Nat} {l : List Oper} {a : Act} {w : World} {o : Oper} {v : Value} {g : Option (Nat × Bool)}
/-- an operation behind the makers, known by its run -/
theorem c_run {w' : World} (hg : Region.wanted o (yielded ops a.tmps) = true) (hr : (execOp a.eval o).run P w = .ok (.value v) w') (hc : C w') (h : wpCH P ops C K ks l (a.put o.dst v) w') : wpCH P ops C K (3 :: ks) (o :: l) a w := by
  unfold wpCH opH
  simp only [hg, if_true]
  unfold Oper.wp
  rw [hr]
  exact ⟨hc, h⟩
/-- a call behind the makers -/
theorem c_call (hg : Region.wanted o (yielded ops a.tmps) = true) (hr : EntersW P ((execOp a.eval o).run P w) w fun e w' => ∃ v, e = .returned v ∧ C w' ∧ wpCH P ops C K ks l (a.put o.dst v) w') : wpCH P ops C K (3 :: ks) (o :: l) a w := by
  obtain ⟨f, args, hr, hc⟩ := hr
  unfold wpCH opH
  simp only [hg, if_true]
  unfold Oper.wp
  rw [hr]
  refine Calls.mono hc fun e w' he => ?_
  obtain ⟨v, rfl, hb, hk⟩ := he
  exact ⟨hb, hk⟩
theorem c_append8 {d : Option Tmp} {x y : Operand} {t ty e : TypeId} {pos : String} {after : Array Edge} {B : Nat} {v : Value} {m s : List (BitVec 8)} {sp : Option Addr} {n c : Nat} (hown : Own8 w B e v m) (hl : Rd8 w sp n c s)
    (hw : Region.wanted ⟨d, .call { callee := .builtin .append, args := #[x, y], argTypes := #[t, t] }, ty, pos, after, g⟩ (yielded ops a.tmps) = true)
    (hx : a.eval x = v) (hy : a.eval y = .slice sp n c) (ht : P.underlying t = some (.slice e)) (hi : (P.info? e).map (fun i => (i.zero, i.size, i.bytes)) = some (some (.int .u8 0), 1, 1)) (hb : m.length + n ≤ 140737488355328) (hB : B ≤ w.heap.size)
    (h : ∀ w1 v1, Own8 w1 B e v1 (m ++ s) → w.grownBy w1 v.ownBlock → Below B w w1 → C w1 ∧ wpCH P ops C K ks l (a.put d v1) w1) :
    wpCH P ops C K (3 :: ks) (⟨d, .call { callee := .builtin .append, args := #[x, y], argTypes := #[t, t] }, ty, pos, after, g⟩ :: l) a w := by
  obtain ⟨v1, w1, hc, h1, h2, h3⟩ := run_append8 (P := P) w B t ty e ht hi v m hown sp n c s hl hb hB
  have hr : (execOp a.eval ⟨d, .call { callee := .builtin .append, args := #[x, y], argTypes := #[t, t] }, ty, pos, after, g⟩).run P w = .ok (.value v1) w1 := by
    rw [BigFrame.execOp_builtin]
    simp only [BigFrame.builtin_append, List.map_toArray, List.map_cons, List.map_nil, hx, hy, Sem.run_bind, hc, Result.andThen_ok, Sem.run_pure]
  obtain ⟨g1, g2⟩ := h w1 v1 h1 h2 h3
  exact c_run hw hr g1 g2
theorem permHO_one {dep : Nat → List Nat} {R : Act → World → Prop} {p : Nat × Nat × Oper} (h : opH P ops C p.2.1 p.2.2 R a w) : permHO P ops C dep R 1 [p] a w := by
  intro q hq _
  obtain rfl : q = p := by simpa using hq
  have e : ([q] : List (Nat × Nat × Oper)).filter (fun x => x.1 != q.1) = [] := filter_last [] q (by simp)
  rw [e]
  exact opH_mono (fun a w h => h) h
theorem h_build0 {d : Option Tmp} {t ty e : TypeId} {pos : String} {after : Array Edge} {B : Nat} (hB : B ≤ w.heap.size) (ht : P.underlying t = some (.slice e)) (hi : (P.info? e).map (fun i => (i.zero, i.size, i.bytes)) = some (some (.int .u8 0), 1, 1))
    (hw : Region.wanted ⟨d, .buildSlice t 0 #[], ty, pos, after, g⟩ (yielded ops a.tmps) = true)
    (h : ∀ w1 v1, Own8 w1 B e v1 [] → Below w.heap.size w w1 → wpH P ops C K ks l (a.put d v1) w1) :
    wpH P ops C K (2 :: ks) (⟨d, .buildSlice t 0 #[], ty, pos, after, g⟩ :: l) a w := by
  have hr : (execOp a.eval ⟨d, .buildSlice t 0 #[], ty, pos, after, g⟩).run P w = .ok (.value (.slice (some ⟨w.heap.size, 0, none⟩) 0 0)) (w.alloc (.cells #[] e)) := by
    simp [execOp, run_build0 w t e ht hi]
  refine h_made hw hr ((Below.refl _ _).alloc (Nat.le_refl _) _) (h _ _ ?_ ((Below.refl _ _).alloc (Nat.le_refl _) _))
  exact World.ownsRow_made w #[] 0 hB (by unfold maxLen; omega) (by simp)
end
end Go.Proofs.YtfdkmjegcghieaaDoor
