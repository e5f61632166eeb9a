/- append to a row of the call's own: which block it lies in behind it -/
import Derived.Test.YthogbbigglmapaaJump
namespace Go.Proofs.Ythogbbigglmapaa
open Go.RowKit
section
variable {P : Program}
theorem run_append8p (w : World) (B : Nat) (t ty e : TypeId) (ht : P.underlying t = some (.slice e)) (hi : (P.info? e).map (fun i => (i.zero, i.size, i.bytes)) = some (some (.int .u8 0), 1, 1))
    (v : Value) (l : List (BitVec 8)) (hown : Own8 w B e v l) (a : Option Addr) (m c : Nat) (s : List (BitVec 8)) (hr : Rd8 w a m c s) (hb : l.length + m ≤ 140737488355328) (hbase : B ≤ w.heap.size) :
    ∃ v' w', (Builtin.append_ #[t, t] ty #[v, .slice a m c]).run P w = .ok v' w' ∧ Own8 w' B e v' (l ++ s) ∧ w.grownBy w' v.ownBlock ∧ Below B w w' ∧ (∀ k, v'.ownBlock = some k → v.ownBlock = some k ∨ w.heap.size ≤ k) := by
  rcases id hown.2 with ⟨rfl, hn⟩ | ⟨g, cap, cur, rfl, hbg, hg, hnc, hcm, hcs, htake⟩
  · have hl0 : l = [] := List.eq_nil_of_length_eq_zero hn
    subst hl0
    obtain ⟨v', w', h1, h2, h3, h4⟩ := run_append8 w w.heap.size t ty e ht hi (.slice none 0 0) [] (Own8.nil_ _ _ _) a m c s hr hb (Nat.le_refl _)
    exact ⟨v', w', h1, h2.base hbase, h3, h4.mono hbase, fun k hk => .inr (World.ownsRow.lt h2 k hk).1⟩
  · obtain ⟨v', w', h1, h2, h3, h4⟩ := run_append8 w B t ty e ht hi _ l hown a m c s hr hb hbase
    refine ⟨v', w', h1, h2, h3, h4, fun k hk => ?_⟩
    obtain ⟨i, hi, hz, hs, hby⟩ := info_parts hi
    by_cases hm : m = 0
    · subst hm
      have hs0 : s = [] := List.eq_nil_of_length_eq_zero hr.1
      subst hs0
      have hq : (Builtin.append_ #[t, t] ty #[.slice (some ⟨g, 0, none⟩) l.length cap, .slice a 0 c]).run P w = .ok (.slice (some ⟨g, 0, none⟩) l.length cap) w := by
        cases a <;> simp [Builtin.append_, run_underlying ht, sizeOf, typeInfo, hi, Builtin.lenOf, Builtin.firstCells, loadCells, loadCellsFrom, hnc, storeCells]
      rw [hq] at h1
      cases h1
      exact .inl hk
    · obtain ⟨ad, rfl, hc⟩ := hr.cells (by omega)
      by_cases hroom : l.length + m ≤ cap
      · have hq := run_append_room (P := P) w t ty e i ht hi g l.length cap cur hg ad m c (s.map v8) (by simp [hr.1, hs]) hc (fun u hu => by obtain ⟨x, _, rfl⟩ := List.mem_map.1 hu; rfl) hroom (by rw [hs, List.length_map, hr.1, hcs]; omega)
        rw [hq] at h1
        cases h1
        exact .inl hk
      · have hq := run_append_grow (P := P) w t ty e i (.int .u8 0) ht hi hz ⟨g, 0, none⟩ l.length cap (l.map v8) (by simp [hs]) (hown.cells (g := g) rfl) ad m c (s.map v8) (by simp [hr.1, hs]) hc (by omega) (by omega) (by rw [hby]; exact growslice_fits (by omega) (by omega))
        rw [hq] at h1
        cases h1
        simp only [Value.ownBlock, Option.some.injEq] at hk
        exact .inr (by omega)
end
section
variable {P : Program} {ops : Array Oper} {K : Act → World → Prop} {ks : List Nat} {l : List Oper} {a : Act} {w : World}
theorem z_append8p {d : Option Tmp} {x y : Operand} {t ty e : TypeId} {pos : String} {after : Array Edge} {B : Nat} {v : Value} {m s : List (BitVec 8)} {sp : Option Addr} {n c : Nat} (hown : Own8 w B e v m) (hl : Rd8 w sp n c s)
    (hx : a.eval x = v) (hy : a.eval y = .slice sp n c) (ht : P.underlying t = some (.slice e)) (hi : (P.info? e).map (fun i => (i.zero, i.size, i.bytes)) = some (some (.int .u8 0), 1, 1)) (hb : m.length + n ≤ 140737488355328) (hB : B ≤ w.heap.size)
    (h : ∀ w1 v1, Own8 w1 B e v1 (m ++ s) → w.grownBy w1 v.ownBlock → Below B w w1 → (∀ k, v1.ownBlock = some k → v.ownBlock = some k ∨ w.heap.size ≤ k) → wpZ P ops K ks l (a.put d v1) w1) :
    wpZ P ops K (2 :: ks) (⟨d, .call { callee := .builtin .append, args := #[x, y], argTypes := #[t, t] }, ty, pos, after, none⟩ :: l) a w := by
  unfold wpZ opT
  simp only [Region.wanted, if_true]
  obtain ⟨v1, w1, hc, h1, h2, h3, h4⟩ := run_append8p (P := P) w B t ty e ht hi v m hown sp n c s hl hb hB
  have hr : (execOp a.eval ⟨d, .call { callee := .builtin .append, args := #[x, y], argTypes := #[t, t] }, ty, pos, after, none⟩).run P w = .ok (.value v1) w1 := by
    rw [BigFrame.execOp_builtin]
    simp only [BigFrame.builtin_append, List.map_toArray, List.map_cons, List.map_nil, hx, hy, Sem.run_bind, hc, Result.andThen_ok, Sem.run_pure]
  unfold Oper.wp
  rw [hr]
  exact h _ _ h1 h2 h3 h4
theorem Own8.kept {w w' : World} {B : Nat} {e : TypeId} {v : Value} {m : List (BitVec 8)} {row : Option Nat} (h : Own8 w B e v m) (hg : w.grownBy w' row) (hne : v.ownBlock = none ∨ v.ownBlock ≠ row) : Own8 w' B e v m := World.ownsRow.kept h hg hne
end
end Go.Proofs.Ythogbbigglmapaa
