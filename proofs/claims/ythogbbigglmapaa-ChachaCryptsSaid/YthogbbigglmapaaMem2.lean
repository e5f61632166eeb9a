/-
  What copy, make and append do with rows of numbers.
-/
import Derived.Test.YthogbbigglmapaaMem
import Derived.Laws.OwnMore
namespace Go.Proofs.Ythogbbigglmapaa
open Go.RowKit

/-- a list, a part of it replaced -/
def splc {n : Nat} (m : List (BitVec n)) (o : Nat) (l : List (BitVec n)) : List (BitVec n) := m.take o ++ l ++ m.drop (o + l.length)
theorem splc_length {n : Nat} (m : List (BitVec n)) (o : Nat) (l : List (BitVec n)) (h : o + l.length ≤ m.length) : (splc m o l).length = m.length := by simp [splc]; omega
theorem splc_nil {n : Nat} (m : List (BitVec n)) (o : Nat) : splc m o [] = m := by simp [splc]
theorem splc_full {n : Nat} (m l : List (BitVec n)) (h : l.length = m.length) : splc m 0 l = l := by simp [splc, h]
theorem nth_splc {n : Nat} (m : List (BitVec n)) (o : Nat) (l : List (BitVec n)) (h : o + l.length ≤ m.length) (i : Nat) : nth (splc m o l) i = if o ≤ i ∧ i < o + l.length then nth l (i - o) else nth m i := by
  have e : (m.take o).length = o := by simp; omega
  unfold splc
  rw [List.append_assoc, nth_append, e]
  by_cases h1 : i < o
  · rw [if_pos h1, nth_take _ _ _ h1, if_neg (by omega)]
  · rw [if_neg h1, nth_append]
    by_cases h2 : i - o < l.length
    · rw [if_pos h2, if_pos (by omega)]
    · rw [if_neg h2, if_neg (by omega), nth_drop]
      congr 1; omega
theorem row_self {w : World} {g : Nat} {cs : Array Value} (hw : whole w g = true) (hr : rowAt w g = cs) : w.setRow g cs = w := by
  obtain ⟨c, e, hg⟩ := whole_spec hw
  have : c = cs := by rw [← hr]; unfold rowAt; rw [hg]
  subst this
  simp only [World.setRow]
  congr 1
  apply Array.ext_getElem?
  intro i
  simp only [Array.getElem?_modify]
  by_cases h : g = i
  · subst h; simp [hg]
  · simp [h]
theorem rowAt_setRow {w : World} {g : Nat} (cs : Array Value) (hw : whole w g = true) : rowAt (w.setRow g cs) g = cs := by
  obtain ⟨c, e, hg⟩ := whole_spec hw
  unfold rowAt
  rw [setRow_heap w g c cs e _ hg]
theorem whole_setRow {w : World} {g : Nat} (cs : Array Value) (hw : whole w g = true) : whole (w.setRow g cs) g = true := by
  obtain ⟨c, e, hg⟩ := whole_spec hw
  unfold whole
  rw [setRow_heap w g c cs e _ hg]; rfl
theorem whole_setCell {w : World} {g : Nat} (a : Addr) (v : Value) (hw : whole w g = true) : whole (w.setCell a v) g = true := by
  obtain ⟨c, e, hg⟩ := whole_spec hw
  have h : (w.setCell a v).heap[g]? = some (.cells (if a.block = g then (if a.spot.isSome then c else c.setIfInBounds a.off v) else c) e (0, 0)) := by
    simp only [World.setCell, Array.getElem?_modify]
    by_cases h : a.block = g
    · simp [h, hg]
    · simp [h, hg]
  unfold whole
  rw [h]; rfl
theorem whole_lt {w : World} {g : Nat} (hw : whole w g = true) : g < w.heap.size := by
  obtain ⟨c, e, hg⟩ := whole_spec hw
  exact (Array.getElem?_eq_some_iff.1 hg).1
theorem whole_frozen {w : World} {g : Nat} (hw : whole w g = true) (i : Nat) : w.frozen? ⟨g, i, none⟩ = false := by
  obtain ⟨c, e, hg⟩ := whole_spec hw
  simp [World.frozen?, hg]
theorem rowAt_setCell {w : World} {g i : Nat} (v : Value) (hw : whole w g = true) : rowAt (w.setCell ⟨g, i, none⟩ v) g = (rowAt w g).setIfInBounds i v := by
  obtain ⟨c, e, hg⟩ := whole_spec hw
  unfold rowAt
  rw [heap_setCell_same w g i c e v hg, hg]
theorem rowAt_below {B : Nat} {w w' : World} {g : Nat} (hb : Below B w w') (h : g < B) : rowAt w' g = rowAt w g := by
  unfold rowAt; rw [hb.block g h]
theorem whole_below {B : Nat} {w w' : World} {g : Nat} (hb : Below B w w') (h : g < B) : whole w' g = whole w g := by
  unfold whole; rw [hb.block g h]
/-- a block known whole -/
def Blk (w : World) (g : Nat) (t : TypeId) (cs : Array Value) : Prop := w.heap[g]? = some (.cells cs t (0, 0))
section
variable {w w' : World} {g : Nat} {t : TypeId} {cs : Array Value}
theorem Blk.lt (h : Blk w g t cs) : g < w.heap.size := (Array.getElem?_eq_some_iff.1 h).1
theorem Blk.row (h : Blk w g t cs) : rowAt w g = cs := by unfold Blk at h; unfold rowAt; rw [h]
theorem Blk.whole (h : Blk w g t cs) : whole w g = true := by unfold Blk at h; unfold Go.Proofs.Ythogbbigglmapaa.whole; rw [h]; rfl
theorem Blk.cell (h : Blk w g t cs) (i : Nat) : w.cell? ⟨g, i, none⟩ = cs[i]? := by rw [cell_rowAt, h.row]
theorem Blk.frozen (h : Blk w g t cs) (i : Nat) : w.frozen? ⟨g, i, none⟩ = false := whole_frozen h.whole i
theorem Blk.new (w : World) (t : TypeId) (cs : Array Value) : Blk (w.alloc (.cells cs t)) w.heap.size t cs := heap_alloc_new w _
theorem Blk.drew (h : Blk w g t cs) : Blk w.drew g t cs := h
theorem Blk.alloc (h : Blk w g t cs) (o : Obj) : Blk (w.alloc o) g t cs := (World.alloc_old' w o g h.lt).trans h
theorem Blk.set_ (h : Blk w g t cs) (i : Nat) (u : Value) : Blk (w.setCell ⟨g, i, none⟩ u) g t (cs.setIfInBounds i u) := heap_setCell_same w g i cs t u h
theorem Blk.far (h : Blk w g t cs) {p : Addr} (hp : g ≠ p.block) (u : Value) : Blk (w.setCell p u) g t cs := (heap_setCell_other w p g u hp).trans h
theorem Blk.put (h : Blk w g t cs) (cs' : Array Value) : Blk (w.setRow g cs') g t cs' := setRow_heap w g cs cs' t _ h
theorem Blk.farRow (h : Blk w g t cs) {k : Nat} (hp : g ≠ k) (cs' : Array Value) : Blk (w.setRow k cs') g t cs := (setRow_other w k g cs' hp).trans h
theorem Blk.below {B : Nat} (h : Blk w g t cs) (hb : Below B w w') (hg : g < B) : Blk w' g t cs := (hb.block g hg).trans h
theorem Blk.belowAll (h : Blk w g t cs) (hb : Below w.heap.size w w') : Blk w' g t cs := h.below hb h.lt
end
theorem grown_trans {a b c : World} {r : Option Nat} (h : a.grownBy b r) (k : b.grownBy c r) : a.grownBy c r :=
  ⟨k.os.trans h.os, k.tape.trans h.tape, k.output.trans h.output, Nat.le_trans h.size k.size, fun j hj hr => (k.block j (Nat.lt_of_lt_of_le hj h.size) hr).trans (h.block j hj hr)⟩
theorem grown_refl (w : World) (r : Option Nat) : w.grownBy w r := ⟨rfl, rfl, rfl, Nat.le_refl _, fun _ _ _ => rfl⟩
theorem grown_drew {a b : World} {r : Option Nat} (h : a.grownBy b r) : a.grownBy b.drew r := ⟨h.os, h.tape, h.output, h.size, h.block⟩
theorem grown_setCell (w : World) (g i : Nat) (v : Value) : w.grownBy (w.setCell ⟨g, i, none⟩ v) (some g) :=
  ⟨rfl, rfl, rfl, by simp, fun k _ hr => heap_setCell_other w ⟨g, i, none⟩ k v (fun e => hr (by rw [e]))⟩
theorem grown_setRow (w : World) (g : Nat) (cs : Array Value) : w.grownBy (w.setRow g cs) (some g) :=
  ⟨rfl, rfl, rfl, by simp, fun k _ hr => setRow_other w g k cs (fun e => hr (by rw [e]))⟩
theorem grown_below {B g : Nat} {w w' : World} (h : w.grownBy w' (some g)) (hB : B ≤ g) (hs : B ≤ w.heap.size) : Below B w w' := (Below.refl B w).grown h hs (fun k hk => by cases hk; exact hB)
theorem below_grown {w w' : World} (h : Below w.heap.size w w') (r : Option Nat) : w.grownBy w' r := ⟨h.os, h.tape, h.output, h.size, fun k hk _ => h.block k hk⟩
theorem Blk.grown {w w' : World} {g : Nat} {t : TypeId} {cs : Array Value} {r : Option Nat} (h : Blk w g t cs) (hg : w.grownBy w' r) (hr : some g ≠ r) : Blk w' g t cs := (hg.block g h.lt hr).trans h
theorem Blk.cell8 {w : World} {g : Nat} {t : TypeId} {s : List (BitVec 8)} {m : Nat} (h : Blk w g t (A8 s)) (hs : s.length = m) (i : Nat) (hi : i < m) : w.cell? ⟨g, i, none⟩ = some (v8 (nth s i)) := by
  rw [h.cell, A8_get s i (by omega)]
theorem Blk.cell32 {w : World} {g : Nat} {t : TypeId} {s : List (BitVec 32)} {m : Nat} (h : Blk w g t (A32 s)) (hs : s.length = m) (i : Nat) (hi : i < m) : w.cell? ⟨g, i, none⟩ = some (v32 (nth s i)) := by
  rw [h.cell, A32_get s i (by omega)]
theorem Blk.cell64 {w : World} {g : Nat} {t : TypeId} {s : List (BitVec 64)} {m : Nat} (h : Blk w g t (A64 s)) (hs : s.length = m) (i : Nat) (hi : i < m) : w.cell? ⟨g, i, none⟩ = some (v64 (nth s i)) := by
  rw [h.cell, A64_get s i (by omega)]
theorem Blk.rd8 {w : World} {g : Nat} {t : TypeId} {m : List (BitVec 8)} (h : Blk w g t (A8 m)) (k : Nat) (hk : k ≤ m.length) (hm : m.length ≤ maxLen) : Rd8 w (some ⟨g, 0, none⟩) k m.length (m.take k) :=
  ⟨by simp; omega, hk, hm, fun _ => ⟨g, 0, rfl, h.lt, fun i hi => by rw [Nat.zero_add, h.cell, A8_get m i (by omega), nth_take _ _ _ hi]⟩⟩
theorem Rd8.cells {w : World} {a : Option Addr} {n c : Nat} {l : List (BitVec 8)} (h : Rd8 w a n c l) (hn : 0 < n) : ∃ ad, a = some ad ∧ ∀ j v, (l.map v8)[j]? = some v → w.cell? (ad.add j) = some v := by
  obtain ⟨b, o, rfl, _, hc⟩ := h.2.2.2 hn
  refine ⟨_, rfl, fun j v hj => ?_⟩
  have hj' : j < l.length := by have := (List.getElem?_eq_some_iff.1 hj).1; simpa using this
  rw [Addr.add_lit, hc j (by have := h.1; omega), ← hj, List.getElem?_map, nth_eq hj']
  rfl
section
variable {P : Program}
/-- copy: a slice of bytes into a block that is known -/
theorem run_copy8 (w : World) (dT sT ty elem : TypeId) (g o dLen dCap : Nat) (a : Option Addr) (sLen sCap : Nat) (m l : List (BitVec 8)) (hu : P.underlying dT = some (.slice elem)) (hs : (P.info? elem).map (·.size) = some 1)
    (hw : whole w g = true) (hr : rowAt w g = A8 m) (hl : Rd8 w a sLen sCap l) (hfit : o + min sLen dLen ≤ m.length) :
    (Builtin.copy_ #[dT, sT] ty #[.slice (some ⟨g, o, none⟩) dLen dCap, .slice a sLen sCap]).run P w = .ok (goInt (min sLen dLen)) (w.setRow g (A8 (splc m o (l.take (min sLen dLen))))) := by
  obtain ⟨cur, e, hg⟩ := whole_spec hw
  have hcur : cur = A8 m := by rw [← hr]; unfold rowAt; rw [hg]
  subst hcur
  by_cases hn : min sLen dLen = 0
  · rw [hn, List.take_zero, splc_nil, row_self hw hr]
    have hn' : Nat.min sLen dLen = 0 := hn
    have hz : min (sLen : Int) (dLen : Int) = 0 := by omega
    cases hq : P.info? elem with
    | none => simp [hq] at hs
    | some i =>
      cases a with
      | none => simp [Builtin.copy_, run_underlying hu, Builtin.lenOf, Builtin.firstCells, sizeOf, typeInfo, hq, storeCells, hn', hz]
      | some x => simp [Builtin.copy_, run_underlying hu, Builtin.lenOf, Builtin.firstCells, sizeOf, typeInfo, hq, storeCells, hn', hz, loadCells, loadCellsFrom]
  · obtain ⟨ad, rfl, hc⟩ := hl.cells (by omega)
    have hlen : (l.take (min sLen dLen)).length = min sLen dLen := by rw [List.length_take, hl.1]; omega
    have h := run_copy_row (P := P) w dT sT ty elem g o dLen dCap ad sLen sCap (A8 m) e ((l.take (min sLen dLen)).map v8) hu hs hg (by rw [List.length_map, hlen]) (fun j v hj => by
      refine hc j v ?_
      rw [List.map_take, List.getElem?_take] at hj
      split at hj
      · exact hj
      · cases hj) (by rw [List.length_map, hlen, A8_size]; exact hfit) (fun v hv => by
        obtain ⟨x, _, rfl⟩ := List.mem_map.1 hv; rfl)
    rw [h, List.length_map, hlen]
    have hg' : goInt ((min sLen dLen : Nat) : Int) = goInt (min (sLen : Int) (dLen : Int)) := by congr 1; omega
    have hrow : ((A8 m).toList.take o ++ (l.take (min sLen dLen)).map v8 ++ (A8 m).toList.drop (o + min sLen dLen)).toArray = A8 (splc m o (l.take (min sLen dLen))) := by
      apply Array.ext'
      rw [A8_toList, A8_toList]
      simp only [splc, hlen, List.map_append, List.map_take, List.map_drop]
    rw [hrow, hg']
/-- make: new noughts -/
theorem run_make8 (w : World) (t e : TypeId) (l c : Int) (ht : P.underlying t = some (.slice e)) (hi : (P.info? e).map (fun i => (i.zero, i.size, i.bytes)) = some (some (.int .u8 0), 1, 1)) (h0 : 0 ≤ l) (hlc : l ≤ c) (hb : c ≤ 281474976710656) :
    (Instr.makeSlice t (.int .i64 l) (.int .i64 c)).run P w = .ok (.slice (some ⟨w.heap.size, 0, none⟩) l.toNat c.toNat) (w.alloc (.cells (A8 (zeros 8 c.toNat)) e)) := by
  obtain ⟨i, hi, hz, hs, hby⟩ := info_parts hi
  rw [run_make w t e i (.int .u8 0) ht hi hz .i64 .i64 l c h0 hlc (by rw [hby]; omega) (by omega)]
  congr 3
  apply Array.ext'
  rw [hs, Nat.mul_one]
  show (madeCells #[Value.int .u8 0] c.toNat).toList = _
  rw [toList_madeCells_one, A8_toList, zeros, List.map_replicate]
  rfl
end

/-! ### New blocks, one behind the other -/
theorem new1 (w W : World) (c0 : Array Value) (t0 : TypeId) (h : (w.alloc (.cells c0 t0)) = W) : Blk W w.heap.size t0 c0 ∧ Below w.heap.size w W ∧ W.heap.size = w.heap.size + 1 := by
  subst h
  exact ⟨Blk.new _ _ _, (Below.refl _ _).alloc (Nat.le_refl _) _, by simp⟩
theorem new2 (w W : World) (c0 c1 : Array Value) (t0 t1 : TypeId) (h : ((w.alloc (.cells c0 t0)).alloc (.cells c1 t1)) = W) : Blk W w.heap.size t0 c0 ∧ Blk W (w.heap.size + 1) t1 c1 ∧ Below w.heap.size w W ∧ W.heap.size = w.heap.size + 2 := by
  subst h
  obtain ⟨h0, hb, hz⟩ := new1 w _ c0 t0 rfl
  have hn := Blk.new (w.alloc (.cells c0 t0)) t1 c1
  rw [hz] at hn
  exact ⟨h0.alloc _, hn, hb.alloc hb.size _, by rw [World.size_alloc, hz]⟩
theorem new3 (w W : World) (c0 c1 c2 : Array Value) (t0 t1 t2 : TypeId) (h : (((w.alloc (.cells c0 t0)).alloc (.cells c1 t1)).alloc (.cells c2 t2)) = W) : Blk W w.heap.size t0 c0 ∧ Blk W (w.heap.size + 1) t1 c1 ∧ Blk W (w.heap.size + 2) t2 c2 ∧ Below w.heap.size w W ∧ W.heap.size = w.heap.size + 3 := by
  subst h
  obtain ⟨h0, h1, hb, hz⟩ := new2 w _ c0 c1 t0 t1 rfl
  have hn := Blk.new ((w.alloc (.cells c0 t0)).alloc (.cells c1 t1)) t2 c2
  rw [hz] at hn
  exact ⟨h0.alloc _, h1.alloc _, hn, hb.alloc hb.size _, by rw [World.size_alloc, hz]⟩
theorem new4 (w W : World) (c0 c1 c2 c3 : Array Value) (t0 t1 t2 t3 : TypeId) (h : ((((w.alloc (.cells c0 t0)).alloc (.cells c1 t1)).alloc (.cells c2 t2)).alloc (.cells c3 t3)) = W) : Blk W w.heap.size t0 c0 ∧ Blk W (w.heap.size + 1) t1 c1 ∧ Blk W (w.heap.size + 2) t2 c2 ∧ Blk W (w.heap.size + 3) t3 c3 ∧ Below w.heap.size w W ∧ W.heap.size = w.heap.size + 4 := by
  subst h
  obtain ⟨h0, h1, h2, hb, hz⟩ := new3 w _ c0 c1 c2 t0 t1 t2 rfl
  have hn := Blk.new (((w.alloc (.cells c0 t0)).alloc (.cells c1 t1)).alloc (.cells c2 t2)) t3 c3
  rw [hz] at hn
  exact ⟨h0.alloc _, h1.alloc _, h2.alloc _, hn, hb.alloc hb.size _, by rw [World.size_alloc, hz]⟩
theorem new5 (w W : World) (c0 c1 c2 c3 c4 : Array Value) (t0 t1 t2 t3 t4 : TypeId) (h : (((((w.alloc (.cells c0 t0)).alloc (.cells c1 t1)).alloc (.cells c2 t2)).alloc (.cells c3 t3)).alloc (.cells c4 t4)) = W) : Blk W w.heap.size t0 c0 ∧ Blk W (w.heap.size + 1) t1 c1 ∧ Blk W (w.heap.size + 2) t2 c2 ∧ Blk W (w.heap.size + 3) t3 c3 ∧ Blk W (w.heap.size + 4) t4 c4 ∧ Below w.heap.size w W ∧ W.heap.size = w.heap.size + 5 := by
  subst h
  obtain ⟨h0, h1, h2, h3, hb, hz⟩ := new4 w _ c0 c1 c2 c3 t0 t1 t2 t3 rfl
  have hn := Blk.new ((((w.alloc (.cells c0 t0)).alloc (.cells c1 t1)).alloc (.cells c2 t2)).alloc (.cells c3 t3)) t4 c4
  rw [hz] at hn
  exact ⟨h0.alloc _, h1.alloc _, h2.alloc _, h3.alloc _, hn, hb.alloc hb.size _, by rw [World.size_alloc, hz]⟩
theorem new6 (w W : World) (c0 c1 c2 c3 c4 c5 : Array Value) (t0 t1 t2 t3 t4 t5 : TypeId) (h : ((((((w.alloc (.cells c0 t0)).alloc (.cells c1 t1)).alloc (.cells c2 t2)).alloc (.cells c3 t3)).alloc (.cells c4 t4)).alloc (.cells c5 t5)) = W) : Blk W w.heap.size t0 c0 ∧ Blk W (w.heap.size + 1) t1 c1 ∧ Blk W (w.heap.size + 2) t2 c2 ∧ Blk W (w.heap.size + 3) t3 c3 ∧ Blk W (w.heap.size + 4) t4 c4 ∧ Blk W (w.heap.size + 5) t5 c5 ∧ Below w.heap.size w W ∧ W.heap.size = w.heap.size + 6 := by
  subst h
  obtain ⟨h0, h1, h2, h3, h4, hb, hz⟩ := new5 w _ c0 c1 c2 c3 c4 t0 t1 t2 t3 t4 rfl
  have hn := Blk.new (((((w.alloc (.cells c0 t0)).alloc (.cells c1 t1)).alloc (.cells c2 t2)).alloc (.cells c3 t3)).alloc (.cells c4 t4)) t5 c5
  rw [hz] at hn
  exact ⟨h0.alloc _, h1.alloc _, h2.alloc _, h3.alloc _, h4.alloc _, hn, hb.alloc hb.size _, by rw [World.size_alloc, hz]⟩
theorem new7 (w W : World) (c0 c1 c2 c3 c4 c5 c6 : Array Value) (t0 t1 t2 t3 t4 t5 t6 : TypeId) (h : (((((((w.alloc (.cells c0 t0)).alloc (.cells c1 t1)).alloc (.cells c2 t2)).alloc (.cells c3 t3)).alloc (.cells c4 t4)).alloc (.cells c5 t5)).alloc (.cells c6 t6)) = W) : Blk W w.heap.size t0 c0 ∧ Blk W (w.heap.size + 1) t1 c1 ∧ Blk W (w.heap.size + 2) t2 c2 ∧ Blk W (w.heap.size + 3) t3 c3 ∧ Blk W (w.heap.size + 4) t4 c4 ∧ Blk W (w.heap.size + 5) t5 c5 ∧ Blk W (w.heap.size + 6) t6 c6 ∧ Below w.heap.size w W ∧ W.heap.size = w.heap.size + 7 := by
  subst h
  obtain ⟨h0, h1, h2, h3, h4, h5, hb, hz⟩ := new6 w _ c0 c1 c2 c3 c4 c5 t0 t1 t2 t3 t4 t5 rfl
  have hn := Blk.new ((((((w.alloc (.cells c0 t0)).alloc (.cells c1 t1)).alloc (.cells c2 t2)).alloc (.cells c3 t3)).alloc (.cells c4 t4)).alloc (.cells c5 t5)) t6 c6
  rw [hz] at hn
  exact ⟨h0.alloc _, h1.alloc _, h2.alloc _, h3.alloc _, h4.alloc _, h5.alloc _, hn, hb.alloc hb.size _, by rw [World.size_alloc, hz]⟩
theorem new8 (w W : World) (c0 c1 c2 c3 c4 c5 c6 c7 : Array Value) (t0 t1 t2 t3 t4 t5 t6 t7 : TypeId) (h : ((((((((w.alloc (.cells c0 t0)).alloc (.cells c1 t1)).alloc (.cells c2 t2)).alloc (.cells c3 t3)).alloc (.cells c4 t4)).alloc (.cells c5 t5)).alloc (.cells c6 t6)).alloc (.cells c7 t7)) = W) : Blk W w.heap.size t0 c0 ∧ Blk W (w.heap.size + 1) t1 c1 ∧ Blk W (w.heap.size + 2) t2 c2 ∧ Blk W (w.heap.size + 3) t3 c3 ∧ Blk W (w.heap.size + 4) t4 c4 ∧ Blk W (w.heap.size + 5) t5 c5 ∧ Blk W (w.heap.size + 6) t6 c6 ∧ Blk W (w.heap.size + 7) t7 c7 ∧ Below w.heap.size w W ∧ W.heap.size = w.heap.size + 8 := by
  subst h
  obtain ⟨h0, h1, h2, h3, h4, h5, h6, hb, hz⟩ := new7 w _ c0 c1 c2 c3 c4 c5 c6 t0 t1 t2 t3 t4 t5 t6 rfl
  have hn := Blk.new (((((((w.alloc (.cells c0 t0)).alloc (.cells c1 t1)).alloc (.cells c2 t2)).alloc (.cells c3 t3)).alloc (.cells c4 t4)).alloc (.cells c5 t5)).alloc (.cells c6 t6)) t7 c7
  rw [hz] at hn
  exact ⟨h0.alloc _, h1.alloc _, h2.alloc _, h3.alloc _, h4.alloc _, h5.alloc _, h6.alloc _, hn, hb.alloc hb.size _, by rw [World.size_alloc, hz]⟩
/-- a slice of bytes that the call has made for itself -/
def Own8 (w : World) (B : Nat) (e : TypeId) (v : Value) (l : List (BitVec 8)) : Prop := w.ownsRow B e 1 v l.length (l.map v8)
theorem Own8.nil_ (w : World) (B : Nat) (e : TypeId) : Own8 w B e (.slice none 0 0) [] := World.ownsRow_nil w B e 1
theorem Own8.made (w : World) (B : Nat) (e : TypeId) (m : List (BitVec 8)) (n : Nat) (hB : B ≤ w.heap.size) (hn : n ≤ m.length) (hm : m.length ≤ maxLen) : Own8 (w.alloc (.cells (A8 m) e)) B e (.slice (some ⟨w.heap.size, 0, none⟩) n m.length) (m.take n) := by
  refine ⟨by simp, .inr ⟨w.heap.size, m.length, A8 m, by simp [Nat.min_eq_left hn], hB, heap_alloc_new w _, by simp [Nat.min_eq_left hn, hn], hm, by simp [A8], by simp [A8, Nat.min_eq_left hn, List.map_take]⟩⟩
theorem Own8.blk {w : World} {B g : Nat} {e : TypeId} {m : List (BitVec 8)} (h : Blk w g e (A8 m)) (n : Nat) (hB : B ≤ g) (hn : n ≤ m.length) (hm : m.length ≤ maxLen) : Own8 w B e (.slice (some ⟨g, 0, none⟩) n m.length) (m.take n) := by
  refine ⟨by simp, .inr ⟨g, m.length, A8 m, by simp [Nat.min_eq_left hn], hB, h, by simp [Nat.min_eq_left hn, hn], hm, by simp [A8], by simp [A8, Nat.min_eq_left hn, List.map_take]⟩⟩
theorem Own8.rd {w : World} {B : Nat} {e : TypeId} {v : Value} {l : List (BitVec 8)} (h : Own8 w B e v l) : ∃ a c, v = .slice a l.length c ∧ Rd8 w a l.length c l ∧ (∀ ad, a = some ad → B ≤ ad.block) := by
  rcases h.2 with ⟨rfl, h0⟩ | ⟨g, cap, cur, rfl, hg, hh, hnc, hcm, hcs, hx⟩
  · refine ⟨_, _, by rw [h0], ⟨rfl, by omega, by unfold maxLen; omega, fun hn => by omega⟩, fun ad had => by cases had⟩
  · refine ⟨_, _, rfl, ⟨rfl, hnc, hcm, fun hn => ⟨g, 0, rfl, (Array.getElem?_eq_some_iff.1 hh).1, fun i hi => ?_⟩⟩, fun ad had => by cases had; exact hg⟩
    rw [Nat.zero_add, cell_rowAt]
    unfold rowAt
    rw [hh]
    have h2 := congrArg (fun l : List Value => l[i]?) hx
    simp only [Nat.mul_one, List.getElem?_take, hi, if_true, List.getElem?_map, nth_eq hi] at h2
    simpa using h2
theorem Own8.alloc {w : World} {B : Nat} {e : TypeId} {v : Value} {l : List (BitVec 8)} (h : Own8 w B e v l) (o : Obj) : Own8 (w.alloc o) B e v l := World.ownsRow.alloc h o
theorem Own8.drew {w : World} {B : Nat} {e : TypeId} {v : Value} {l : List (BitVec 8)} (h : Own8 w B e v l) : Own8 w.drew B e v l := h
theorem Own8.below {w w' : World} {B : Nat} {e : TypeId} {v : Value} {l : List (BitVec 8)} (h : Own8 w B e v l) (hb : Below w.heap.size w w') : Own8 w' B e v l := by
  refine ⟨h.1, ?_⟩
  rcases h.2 with h0 | ⟨g, cap, cur, hv, hg, hh, hr⟩
  · exact .inl h0
  · exact .inr ⟨g, cap, cur, hv, hg, by rw [hb.block g (Array.getElem?_eq_some_iff.1 hh).1]; exact hh, hr⟩
section
variable {P : Program}
/-- append: bytes behind bytes of the call's own -/
theorem run_append8 (w : World) (B : Nat) (t ty e : TypeId) (ht : P.underlying t = some (.slice e)) (hi : (P.info? e).map (fun i => (i.zero, i.size, i.bytes)) = some (some (.int .u8 0), 1, 1))
    (v : Value) (l : List (BitVec 8)) (hown : Own8 w B e v l) (a : Option Addr) (m c : Nat) (s : List (BitVec 8)) (hr : Rd8 w a m c s) (hb : l.length + m ≤ 140737488355328) (hbase : B ≤ w.heap.size) :
    ∃ v' w', (Builtin.append_ #[t, t] ty #[v, .slice a m c]).run P w = .ok v' w' ∧ Own8 w' B e v' (l ++ s) ∧ w.grownBy w' v.ownBlock ∧ Below B w w' := by
  obtain ⟨i, hi, hz, hs, hby⟩ := info_parts hi
  have hbel : ∀ w', w.grownBy w' v.ownBlock → Below B w w' := fun w' hg => (Below.refl B w).grown hg hbase (fun k hk => (World.ownsRow.lt hown k hk).1)
  by_cases hm : m = 0
  · subst hm
    have hs0 : s = [] := List.eq_nil_of_length_eq_zero hr.1
    subst hs0
    refine ⟨v, w, ?_, by rw [List.append_nil]; exact hown, World.grownBy.refl w _, Below.refl _ _⟩
    rcases hown.2 with ⟨rfl, _⟩ | ⟨g, cap, cur, rfl, _, _, hnc, _⟩
    · cases a <;> simp [Builtin.append_, run_underlying ht, sizeOf, typeInfo, hi, Builtin.lenOf, Builtin.firstCells, loadCells, loadCellsFrom]
    · cases a <;> simp [Builtin.append_, run_underlying ht, sizeOf, typeInfo, hi, Builtin.lenOf, Builtin.firstCells, loadCells, loadCellsFrom, hnc, storeCells]
  · obtain ⟨ad, rfl, hc⟩ := hr.cells (by omega)
    obtain ⟨v', w', hrun, hown', hg, _⟩ := run_append_own (P := P) w B t ty e i (.int .u8 0) 1 1 ht hi hz hs hby rfl (by omega) v l.length (l.map v8) hown ad m c (s.map v8) (by simp [hr.1]) hc
      (fun u hu => by obtain ⟨x, _, rfl⟩ := List.mem_map.1 hu; rfl) (by unfold maxLen; omega) (by omega) hbase
    refine ⟨v', w', hrun, ?_, hg, hbel _ hg⟩
    unfold Own8
    rw [List.length_append, hr.1, List.map_append]
    exact hown'
end
end Go.Proofs.Ythogbbigglmapaa
