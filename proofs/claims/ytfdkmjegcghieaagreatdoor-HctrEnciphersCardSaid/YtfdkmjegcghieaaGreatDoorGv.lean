/- val: a state's block: a pointer, then bytes -/
import Derived.Test.YtfdkmjegcghieaaGreatDoorGw
import Derived.Test.YtfdkmjegcghieaaGreatDoorIg
namespace Go.Proofs.YtfdkmjegcghieaaGreatDoor
open Go.RowKit
variable {P : Program}
/-- a pointer (any value), then bytes -/
def PB (u : Value) (s : List (BitVec 8)) : Array Value := (u :: s.map v8).toArray
@[simp] theorem PB_size (u : Value) (s : List (BitVec 8)) : (PB u s).size = s.length + 1 := by simp [PB]
theorem PB_zero (u : Value) (s : List (BitVec 8)) : (PB u s)[0]? = some u := by simp [PB]
theorem PB_get (u : Value) (s : List (BitVec 8)) (i : Nat) (h : i < s.length) : (PB u s)[i + 1]? = some (v8 (nth s i)) := by
  simp [PB, nth, List.getD_eq_getElem?_getD, h]
theorem PB_part (u : Value) (s : List (BitVec 8)) : (PB u s).extract 1 (1 + s.length) = A8 s := by
  simp [PB, A8, List.extract_eq_take_drop]
  exact List.take_of_length_le (by simp)
theorem run_storeAt_PB (w : World) (e t : TypeId) (g : Nat) (u : Value) (m l : List (BitVec 8)) (hb : Blk w g t (PB u m)) (h2 : (sizeOf e).run P w = .ok l.length w) (h3 : l.length = m.length) :
    (putAt e (.pointer (some ⟨g, 1, none⟩)) (.agg (A8 l))).run P w = .ok () (w.setRow g (PB u l)) := by
  have hg : w.heap[g]? = some (.cells (PB u m) t (0, 0)) := hb
  have hst := run_storeCells_at (P := P) g 1 t (A8 l).toList 0 (PB u m) w hg (by rw [Array.length_toList, A8_size, PB_size]; omega) (fun v hv => by
    have := Array.all_eq_true'.1 (A8_ones l) v (by simpa using hv)
    exact this)
  have e1 : ((PB u m).toList.take (1 + 0) ++ (A8 l).toList ++ (PB u m).toList.drop (1 + 0 + (A8 l).toList.length)).toArray = PB u l := by
    simp [A8, PB, h3]
    omega
  rw [e1] at hst
  have h2' : (sizeOf e).run P w = .ok (A8 l).size w := by rw [A8_size]; exact h2
  simp only [putAt, Instr.storeAt, Instr.sureAddr, storeVar, Sem.run_bind, Sem.run_pure, Result.andThen_ok, h2', Value.cells, ne_eq, not_true_eq_false, if_false, hst]
variable {ops : Array Oper} {ks : List Nat} {l : List Oper} {a : Act}
theorem z_storePB {K : Act → World → Prop} {w : World} {e : TypeId} {p x : Operand} {ty : TypeId} {pos : String} {after : Array Edge} {g : Nat} {t : TypeId} {u : Value} {m c : List (BitVec 8)} (hb : Blk w g t (PB u m)) (hp : a.eval p = .pointer (some ⟨g, 1, none⟩)) (hv : a.eval x = .agg (A8 c)) (hn : c.length = m.length)
    (hsz : (sizeOf e).run P w = .ok c.length w) (h : ∀ w1, Blk w1 g t (PB u c) → w.grownBy w1 (some g) → w1.heap.size = w.heap.size → wpZ P ops K ks l a w1) : wpZ P ops K (2 :: ks) (⟨none, .store e p x, ty, pos, after, none⟩ :: l) a w := by
  have hr : (execOp a.eval ⟨none, .store e p x, ty, pos, after, none⟩).run P w = .ok .skip (w.setRow g (PB u c)) := by
    rw [execOp_store', hp, hv, run_storeAt_PB w e t g u m c hb hsz hn]
    simp
  refine z_eff rfl (fun K' hK' => ?_)
  unfold Oper.wp
  rw [hr]
  exact hK' _ _ (h _ (hb.put _) (grown_setRow w g _) (by simp))
theorem Blk.rdPB {w : World} {g : Nat} {t : TypeId} {u : Value} {s : List (BitVec 8)} (h : Blk w g t (PB u s)) (hm : s.length ≤ maxLen) : Rd8 w (some ⟨g, 1, none⟩) s.length s.length s :=
  ⟨rfl, Nat.le_refl _, hm, fun _ => ⟨g, 1, rfl, h.lt, fun i hi => by rw [h.cell, Nat.add_comm 1 i, PB_get _ _ _ hi]⟩⟩
end Go.Proofs.YtfdkmjegcghieaaGreatDoor
/- val: New -/
namespace Go.Proofs.YtfdkmjegcghieaaGreatDoor
open Go.RowKit
set_option linter.unusedSimpArgs false in
set_option maxRecDepth 100000 in
theorem vnew_any (l : List (BitVec 8)) (hl : l.length = 16) (w : World) :
    Calls Tryz.prog 145 #[.agg (A8 l)] w fun e w' => ∃ p q, e = .returned (.pointer (some ⟨p, 0, none⟩)) ∧ Blk w' p 220 (PB (.pointer (some ⟨q, 0, none⟩)) (zeros 8 16)) ∧ Blk w' q 237 (A64 (flat (tabW (oneW l)) 16)) ∧ w.heap.size ≤ q ∧ q < p ∧ Below w.heap.size w w' := by
  obtain ⟨W, hW⟩ : ∃ W, w.alloc (.cells (A8 l) 37) = W := ⟨_, rfl⟩
  obtain ⟨b0, hb, hz⟩ := new1 _ _ _ _ hW
  have r1 := b0.row
  have tk : l.take 16 = l := List.take_of_length_le (by omega)
  have B0 := Lib.hid hb
  have HZ := Lib.hid hz
  clear b0 hb hz
  go_enter Tryz.func145, Tryz.ntmps145
  go_wp2_with fail
  refine (rmake_any l hl W).mono ?_
  rintro e w1 ⟨q, rfl, hT, hq, d1⟩
  have D := B0.out.trans (d1.mono B0.out.size)
  obtain ⟨p, hp⟩ : ∃ p, p = w1.heap.size := ⟨_, rfl⟩
  have hk : Blk (w1.alloc (.cells (PB (.pointer (some ⟨q, 0, none⟩)) (zeros 8 16)) 220)) p 220 (PB (.pointer (some ⟨q, 0, none⟩)) (zeros 8 16)) := by rw [hp]; exact Blk.new _ _ _
  have K := Lib.hid hk
  have T := Lib.hid (hT.alloc (.cells (PB (.pointer (some ⟨q, 0, none⟩)) (zeros 8 16)) 220))
  have DD := Lib.hid (D.alloc D.size (.cells (PB (.pointer (some ⟨q, 0, none⟩)) (zeros 8 16)) 220))
  have HQ : q < p := by rw [hp]; exact hT.lt
  have HQ2 : w.heap.size ≤ q := by have := HZ.out; omega
  have hps : w1.heap.size = p := hp.symm
  clear D hk hT hp d1 hq
  go_wp2_with fail
  go_ret
  exact ⟨p, q, rfl, K.out, T.out, HQ2, HQ, DD.out⟩
end Go.Proofs.YtfdkmjegcghieaaGreatDoor
/- val: Value -/
namespace Go.Proofs.YtfdkmjegcghieaaGreatDoor
open Go.RowKit
set_option linter.unusedSimpArgs false in
set_option maxRecDepth 100000 in
theorem vvalue_any (p : Nat) (u : Value) (s : List (BitVec 8)) (hs : s.length = 16) (w : World) (hk : Blk w p 220 (PB u s)) :
    Calls Tryz.prog 147 #[.pointer (some ⟨p, 0, none⟩)] w fun e w' => e = .returned (.agg (A8 s)) ∧ Below w.heap.size w w' := by
  obtain ⟨W, hW⟩ : ∃ W, w.alloc (.cells (A8 (zeros 8 16)) 37) = W := ⟨_, rfl⟩
  obtain ⟨b0, hb, hz⟩ := new1 _ _ _ _ hW
  have k := hk.belowAll hb
  have r0 := k.row
  have r1 := b0.row
  have r2 := b0.whole
  have ex : (PB u s).extract 1 17 = A8 s := by have := PB_part u s; rwa [hs] at this
  have K3 := Lib.hid (b0.put (A8 s)).row
  have B3 := Lib.hid (below_setRow hb (Nat.le_refl _) (A8 s))
  clear b0 hb hz k hk
  go_enter Tryz.func147, Tryz.ntmps147
  go_wp2
  refine bodyPost_row (A8 s) rfl rfl rfl (Tryz.isAgg37 _) (Tryz.sizeOf37 _) (by rw [A8_size]; exact hs) K3.out ⟨rfl, B3.out⟩
end Go.Proofs.YtfdkmjegcghieaaGreatDoor
