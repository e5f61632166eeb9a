/- Regions that make variables beside what they read: the form that walks use. -/
import Derived.Test.YtepijmidafndaaaDoorStill
namespace Go.Proofs.YtepijmidafndaaaDoor
open Go.RowKit
section
variable {P : Program} {ops : Array Oper} {C : World → Prop}
def idxq : Nat → List Nat → List Nat
  | _, [] => []
  | n, k :: ks => if k = 9 then idxq (n + 1) ks else n :: idxq (n + 1) ks
def idx9 : Nat → List Nat → List Nat
  | _, [] => []
  | n, k :: ks => if k = 9 then n :: idx9 (n + 1) ks else idx9 (n + 1) ks
theorem idxq_ge : ∀ (ks : List Nat) (n i : Nat), i ∈ idxq n ks → n ≤ i ∧ i < n + ks.length
  | [], _, _, h => by cases h
  | k :: ks, n, i, h => by
    unfold idxq at h
    have ih := idxq_ge ks (n + 1) i
    simp only [List.length_cons]
    split at h
    · have := ih h; omega
    · rcases List.mem_cons.1 h with h | h
      · omega
      · have := ih h; omega
theorem idx9_ge : ∀ (ks : List Nat) (n i : Nat), i ∈ idx9 n ks → n ≤ i ∧ i < n + ks.length
  | [], _, _, h => by cases h
  | k :: ks, n, i, h => by
    unfold idx9 at h
    have ih := idx9_ge ks (n + 1) i
    simp only [List.length_cons]
    split at h
    · rcases List.mem_cons.1 h with h | h
      · omega
      · have := ih h; omega
    · have := ih h; omega
theorem idxq_sorted : ∀ (ks : List Nat) (n : Nat), (idxq n ks).Pairwise (· < ·)
  | [], _ => List.Pairwise.nil
  | k :: ks, n => by
    unfold idxq
    split
    · exact idxq_sorted ks (n + 1)
    · exact List.pairwise_cons.2 ⟨fun i hi => by have := idxq_ge ks (n + 1) i hi; omega, idxq_sorted ks (n + 1)⟩
theorem idx_nodup : ∀ (ks : List Nat) (n : Nat), (idxq n ks ++ idx9 n ks).Nodup
  | [], _ => List.nodup_nil
  | k :: ks, n => by
    have ih := idx_nodup ks (n + 1)
    have hq : n ∉ idxq (n + 1) ks := fun h => by have := idxq_ge ks (n + 1) n h; omega
    have h9 : n ∉ idx9 (n + 1) ks := fun h => by have := idx9_ge ks (n + 1) n h; omega
    unfold idxq idx9
    split
    · rw [List.nodup_append] at ih ⊢
      refine ⟨ih.1, List.nodup_cons.2 ⟨h9, ih.2.1⟩, fun a ha b hb => ?_⟩
      rcases List.mem_cons.1 hb with rfl | hb
      · intro e; subst e; exact hq ha
      · exact ih.2.2 a ha b hb
    · rw [List.cons_append]
      exact List.nodup_cons.2 ⟨fun h => by rcases List.mem_append.1 h with h | h; exact hq h; exact h9 h, ih⟩
theorem idx_all : ∀ (ks : List Nat) (n i : Nat), n ≤ i → i < n + ks.length → i ∈ idxq n ks ++ idx9 n ks
  | [], n, i, h1, h2 => by simp at h2; omega
  | k :: ks, n, i, h1, h2 => by
    simp only [List.length_cons] at h2
    unfold idxq idx9
    by_cases e : n = i
    · subst e; split <;> simp
    · have ih := idx_all ks (n + 1) i (by omega) (by omega)
      rcases List.mem_append.1 ih with h | h
      · split <;> simp [h]
      · split <;> simp [h]
theorem idx_apart (ks : List Nat) (n i : Nat) (h : i ∈ idxq n ks) : i ∉ idx9 n ks := fun h9 => (List.nodup_append.1 (idx_nodup ks n)).2.2 i h i h9 rfl
/-- the operations one by one: 9: it makes a variable (passed over here); else it only reads -/
def wpY (P : Program) (ops : Array Oper) (C : World → Prop) (J : List Oper → Act → Prop) : List Nat → List Oper → Act → Prop
  | [], l, a => J l a
  | k :: ks, o :: l, a => if k = 9 then wpY P ops C J ks l a else opB P ops C k o (wpY P ops C J ks l) a
  | _, [], a => J [] a
theorem wpB_of_wpY {kd : Nat → Nat} {J : List Oper → Act → Prop} : ∀ (ks : List Nat) (l : List Oper) (n : Nat) (a : Act), ks.length ≤ l.length → (∀ j, l[j]? = ops[n + j]?) → (∀ j, j < ks.length → kd (n + j) = ks.getD j 2) → wpY P ops C J ks l a → wpB P ops C kd (fun a => J (l.drop ks.length) a) (idxq n ks) a
  | [], l, n, a, _, _, _, h => by simpa [wpB, idxq, wpY] using h
  | k :: ks, [], n, a, hl, _, _, _ => by simp at hl
  | k :: ks, o :: l, n, a, hl, ho, hkd, h => by
    have h0 := ho 0
    simp at h0
    have hn : ∀ j, l[j]? = ops[n + 1 + j]? := fun j => by have := ho (j + 1); simp at this; rw [this]; congr 1; omega
    have ih := fun a => wpB_of_wpY (kd := kd) (J := J) ks l (n + 1) a (by simpa using hl) hn (fun j hj => by have := hkd (j + 1) (by simpa using hj); rw [Nat.add_assoc, Nat.add_comm 1 j, this]; simp)
    have k0 : kd n = k := by have := hkd 0 (by simp); simpa using this
    unfold wpY at h
    unfold idxq
    split at h
    · rename_i hk; rw [if_pos hk]; simpa using ih a h
    · rename_i hk
      rw [if_neg hk]
      simp only [wpB, ← h0]
      rw [k0]
      exact opB_mono (fun a h => by simpa using ih a h) h
/-- A REGION THAT DRAWS ITS ORDER AND MAKES VARIABLES, WALKED IN THE ORDER OF ITS TEXT: 'k1': its first operations (9: makes a variable; else: only reads, or calls what makes new memory at most); 'k2': the rest, as in 'wp_region_text'. -/
theorem wp_region_made {id : Nat} {Q : Exit → Act → World → Prop} {a : Act} {w : World} {l : List Oper} (k1 k2 : List Nat) (al : List (Nat × Obj)) (hm : P.follows .mixedOrders = true) (hok : stillOk l.toArray k1.length (idx9 0 k1) (k1 ++ k2) = true) (hal0 : al.map (·.1) = idx9 0 k1) (hlen : k1.length + k2.length = l.length)
    (hal : ∀ p ∈ al, ∀ o, l[p.1]? = some o → Makes P o p.2)
    (h : ∀ C : World → Prop, C w.drew → (∀ w1, C w1 → Below w.drew.heap.size w.drew w1) → (∀ w1 w2, C w1 → Below w1.heap.size w1 w2 → C w2) → ∀ K : Act → World → Prop, (∀ a w, Q .normal a w → K a w) →
      wpY P l.toArray C (fun l' => fin C w.heap.size (wpZ P l.toArray K k2 l') (al.map fun p => ((l[p.1]?).bind (·.dst), p.2)) (fun _ => True)) k1 l a) :
    (Code.region id l.toArray true).wp P Q a w := by
  refine wp_region_any hm ?_
  have hh := h (fun w1 => Below w.drew.heap.size w.drew w1) (Below.refl _ w.drew) (fun _ h => h) (fun w1 w2 h1 h2 => h1.trans (h2.mono h1.size)) (Q .normal) (fun _ _ h => h)
  have h1 := wpB_of_wpY (kd := fun j => (k1 ++ k2).getD j 2) k1 l 0 a (by omega) (fun j => by simp) (fun j hj => by rw [Nat.zero_add, List.getD_eq_getElem?_getD, List.getD_eq_getElem?_getD, List.getElem?_append_left hj]) hh
  let ob : Nat → Obj := fun i => match al.find? (fun p => p.1 == i) with | some p => p.2 | none => .cells #[] 0
  have hnd : (idx9 0 k1).Nodup := (List.nodup_append.1 (idx_nodup k1 0)).2.1
  have hob : ∀ p ∈ al, ob p.1 = p.2 := by
    intro p hp
    have key : ∀ (al : List (Nat × Obj)), (al.map (·.1)).Nodup → p ∈ al → (match al.find? (fun q => q.1 == p.1) with | some q => q.2 | none => Obj.cells #[] 0) = p.2 := by
      intro al
      induction al with
      | nil => intro _ hp; cases hp
      | cons q al ih =>
        intro hnd hp
        rw [List.map_cons, List.nodup_cons] at hnd
        rcases List.mem_cons.1 hp with rfl | hp
        · simp
        · by_cases e : q.1 = p.1
          · exact absurd (List.mem_map.2 ⟨p, hp, e.symm⟩) hnd.1
          · rw [List.find?_cons_of_neg (by simpa using e)]
            exact ih hnd.2 hp
    exact key al (by rw [hal0]; exact hnd) hp
  have hmap : (al.map fun p => ((l[p.1]?).bind (·.dst), p.2)) = (idx9 0 k1).map fun i => ((l.toArray[i]?).bind (·.dst), ob i) := by
    rw [← hal0, List.map_map]
    refine List.map_congr_left fun p hp => ?_
    simp only [Function.comp, List.getElem?_toArray]
    rw [hob p hp]
  rw [hmap] at h1
  have hsz : l.toArray.size = (idxq 0 k1).length + (idx9 0 k1).length + (l.toArray.size - k1.length) := by
    have : ∀ (ks : List Nat) (n : Nat), (idxq n ks).length + (idx9 n ks).length = ks.length := by
      intro ks
      induction ks with
      | nil => intro n; rfl
      | cons k ks ih =>
        intro n
        have := ih (n + 1)
        unfold idxq idx9
        split <;> simp <;> omega
    rw [this]
    simp; omega
  have hmain := still_main (P := P) (ops := l.toArray) (C := fun w1 => Below w.drew.heap.size w.drew w1) (m := k1.length) (N := w.heap.size) (al := idx9 0 k1) (ks := k1 ++ k2) (K := Q .normal) (Q := Q) ob hok (fun i hi o ho => by
      rw [← hal0] at hi
      obtain ⟨p, hp, rfl⟩ := List.mem_map.1 hi
      rw [hob p hp]
      exact hal p hp o (by simpa using ho)) (fun w1 w2 h1 h2 => h1.trans (h2.mono h1.size)) (fun w1 h1 => h1.size) (fun _ _ h => h)
    _ (idxq 0 k1) (idx9 0 k1) (fun _ => True) (Array.replicate l.toArray.size false) a w.drew rfl (idxq_sorted k1 0) (idx_nodup k1 0) (fun _ h => h) (fun i hi => idx_apart k1 0 i hi) (fun i hi => by
      rcases List.mem_append.1 hi with hi | hi
      · have := idxq_ge k1 0 i hi; omega
      · have := idx9_ge k1 0 i hi; omega) (by simp) (fun i hi => by
      have hf : (Array.replicate l.toArray.size false).getD i true = false := by simp at hi; simp [hi]
      rw [hf]
      refine ⟨fun _ => ?_, fun _ => rfl⟩
      by_cases hik : i < k1.length
      · exact .inl (idx_all k1 0 i (Nat.zero_le _) (by omega))
      · exact .inr (by omega)) (fun i o _ hl => by
      exfalso
      have hf : (Array.replicate l.toArray.size false).getD i false = false := by
        by_cases hi : i < l.toArray.size
        · simp at hi; simp [hi]
        · simp at hi; simp [hi]
      rw [hf] at hl; cases hl) (fun _ _ _ _ => trivial) (Below.refl _ w.drew) trivial (wpB_mono (fun a' h' => ?_) _ _ h1)
  · rw [← hsz] at hmain; exact hmain
  · have conv : ∀ (A : List (Option Tmp × Obj)) (D : World → Prop) (a : Act), fin (fun w1 => Below w.drew.heap.size w.drew w1) w.heap.size (wpZ P l.toArray (Q .normal) k2 (l.drop k1.length)) A D a →
        fin (fun w1 => Below w.drew.heap.size w.drew w1) w.heap.size (wpT P l.toArray (fun j => (k1 ++ k2).getD j 2) (Q .normal) (List.range' k1.length (l.toArray.size - k1.length))) A D a := by
      intro A
      induction A with
      | nil =>
        intro D a h w1 hc hd
        have := wpT_of_wpZ (P := P) (ops := l.toArray) (K := Q .normal) (fun j => (k1 ++ k2).getD j 2) k2 (l.drop k1.length) k1.length a w1 (by simp; omega) (fun j => by simp) (fun j hj => by rw [List.getD_eq_getElem?_getD, List.getD_eq_getElem?_getD, List.getElem?_append_right (by omega), Nat.add_sub_cancel_left]) (h w1 hc hd)
        rw [List.length_drop] at this
        simpa using this
      | cons x A ih => intro D a h g hg; exact ih _ _ (h g hg)
    exact conv _ _ _ h'
variable {J : List Oper → Act → Prop} {k : Nat} {ks : List Nat} {l : List Oper} {o : Oper} {a a' : Act} {v : Value}
theorem y_obl (hg : Region.wanted o (yielded ops a.tmps) = true) (hr : ∀ w, (execOp a.eval o).run P w = .ok (.value v) w) (ha : a.put o.dst v = a') (h : wpY P ops C J ks l a') : wpY P ops C J (0 :: ks) (o :: l) a := by
  subst ha
  unfold wpY
  rw [if_neg (by omega)]
  exact ⟨v, .inl ⟨hg, hr⟩, h⟩
theorem y_read (hg : Region.wanted o (yielded ops a.tmps) = true) (hr : ∀ w, C w → (execOp a.eval o).run P w = .ok (.value v) w) (ha : a.put o.dst v = a') (h : wpY P ops C J ks l a') : wpY P ops C J (1 :: ks) (o :: l) a := by
  subst ha
  unfold wpY
  rw [if_neg (by omega)]
  exact ⟨v, .inl ⟨hg, fun w hw => .inl (hr w hw)⟩, h⟩
theorem y_skip (hw : Region.wanted o (yielded ops a.tmps) = false) (ha : a.put o.dst undef = a') (h : wpY P ops C J ks l a') : wpY P ops C J (0 :: ks) (o :: l) a := by
  subst ha
  unfold wpY
  rw [if_neg (by omega)]
  exact ⟨undef, .inr ⟨hw, rfl⟩, h⟩
theorem y_skip1 (hw : Region.wanted o (yielded ops a.tmps) = false) (ha : a.put o.dst undef = a') (h : wpY P ops C J ks l a') : wpY P ops C J (1 :: ks) (o :: l) a := by
  subst ha
  unfold wpY
  rw [if_neg (by omega)]
  exact ⟨undef, .inr ⟨hw, rfl⟩, h⟩
theorem y_call (hg : Region.wanted o (yielded ops a.tmps) = true) (hr : ∀ w, C w → EntersB P ((execOp a.eval o).run P w) w v) (ha : a.put o.dst v = a') (h : wpY P ops C J ks l a') : wpY P ops C J (1 :: ks) (o :: l) a := by
  subst ha
  unfold wpY
  rw [if_neg (by omega)]
  exact ⟨v, .inl ⟨hg, fun w hw => .inr (hr w hw)⟩, h⟩
theorem y_made (h : wpY P ops C J ks l a) : wpY P ops C J (9 :: ks) (o :: l) a := by
  unfold wpY
  rw [if_pos rfl]
  exact h
theorem y_nil (h : J l a) : wpY P ops C J [] l a := by unfold wpY; exact h
theorem fin_one {N : Nat} {K : Act → World → Prop} {d : Option Tmp} {ob : Obj} (h : ∀ g w, N ≤ g → C w → w.heap[g]? = some ob → K (a.put d (.pointer (some ⟨g, 0, none⟩))) w) : fin C N K [(d, ob)] (fun _ => True) a := fun g hg w hc hd => h g w hg hc hd.2
/-- a whole row is stored -/
theorem z_storeRow {K : Act → World → Prop} {w : World} {e : TypeId} {p x : Operand} {ty : TypeId} {pos : String} {after : Array Edge} {g : Nat} {t : TypeId} {old cs : Array Value} (hb : Blk w g t old) (hp : a.eval p = .pointer (some ⟨g, 0, none⟩)) (hv : a.eval x = .agg cs) (hn : old.size = cs.size)
    (h1 : ones cs = true) (hsz : (sizeOf e).run P w = .ok cs.size w) (h : ∀ w1, Blk w1 g t cs → w.grownBy w1 (some g) → w1.heap.size = w.heap.size → wpZ P ops K ks l a w1) : wpZ P ops K (2 :: ks) (⟨none, .store e p x, ty, pos, after, none⟩ :: l) a w := by
  have hr : (execOp a.eval ⟨none, .store e p x, ty, pos, after, none⟩).run P w = .ok .skip (w.setRow g cs) := by
    rw [execOp_store', hp, hv, run_storeAt_row w e g cs hsz (by rw [hb.row]; exact hn) h1 hb.whole]
    simp
  refine z_eff rfl (fun K' hK' => ?_)
  unfold Oper.wp
  rw [hr]
  exact hK' _ _ (h _ (hb.put _) (grown_setRow w g _) (by simp))
end
attribute [irreducible] wpY
end Go.Proofs.YtepijmidafndaaaDoor
