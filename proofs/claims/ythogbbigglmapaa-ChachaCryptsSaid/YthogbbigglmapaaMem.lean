/-
  Rows of numbers in memory: arrays and slices whose cells are bit vectors, as lists; a block known whole; a slice that reads as a list. No function of the program in sight.
-/
import Derived.Test.YthogbbigglmapaaBase
import Derived.Laws.CopyOwn
import Derived.Laws.EntriesVeiled
namespace Go.Proofs.Ythogbbigglmapaa
open Go.RowKit

/-- a list's number at a place -/
def nth {n : Nat} (l : List (BitVec n)) (i : Nat) : BitVec n := l.getD i 0#n
def zeros (n m : Nat) : List (BitVec n) := List.replicate m 0#n
@[simp] theorem zeros_length (n m : Nat) : (zeros n m).length = m := by simp [zeros]
theorem nth_eq {n : Nat} {l : List (BitVec n)} {i : Nat} (h : i < l.length) : l[i]? = some (nth l i) := by simp [nth, h]
theorem nth_get {n : Nat} {l : List (BitVec n)} {i : Nat} (h : i < l.length) : l[i] = nth l i := by simp [nth, h]
theorem nth_set {n : Nat} (l : List (BitVec n)) (i j : Nat) (x : BitVec n) (h : i < l.length) : nth (l.set i x) j = if i = j then x else nth l j := by
  unfold nth
  simp only [List.getD_eq_getElem?_getD, List.getElem?_set]
  by_cases e : i = j
  · subst e; simp [h]
  · simp [e]
theorem ext_nth {n : Nat} {a b : List (BitVec n)} (hl : a.length = b.length) (h : ∀ i, i < a.length → nth a i = nth b i) : a = b := by
  apply List.ext_getElem hl
  intro i h1 h2
  rw [nth_get h1, nth_get h2, h i h1]
theorem nth_zeros (n m i : Nat) : nth (zeros n m) i = 0#n := by
  unfold nth zeros
  simp only [List.getD_eq_getElem?_getD, List.getElem?_replicate]
  split <;> rfl
theorem nth_append {n : Nat} (a b : List (BitVec n)) (i : Nat) : nth (a ++ b) i = if i < a.length then nth a i else nth b (i - a.length) := by
  unfold nth
  simp only [List.getD_eq_getElem?_getD, List.getElem?_append]
  split <;> rfl
theorem nth_take {n : Nat} (a : List (BitVec n)) (k i : Nat) (h : i < k) : nth (a.take k) i = nth a i := by
  unfold nth
  simp [h]
theorem nth_drop {n : Nat} (a : List (BitVec n)) (k i : Nat) : nth (a.drop k) i = nth a (k + i) := by
  unfold nth
  simp

/-- the cells of a row of numbers -/
def A8 (l : List (BitVec 8)) : Array Value := (l.map v8).toArray
def A32 (l : List (BitVec 32)) : Array Value := (l.map v32).toArray
def A64 (l : List (BitVec 64)) : Array Value := (l.map v64).toArray

/-- cells that may be stored one by one -/
def ones (cs : Array Value) : Bool := cs.all Value.oneCell'

/-- A load, a store, a value laid into a new variable: under names of their own, so that the walk's laws on rows are met. -/
def getAt (t : TypeId) (x : Value) : Sem Value := Instr.loadAt t x
def putAt (t : TypeId) (x y : Value) : Sem Unit := Instr.storeAt t x y
@[go_sem] theorem getAt_one {P : Program} (w : World) (t : TypeId) (x : Value) (_h : (isAgg t).run P w = .ok false w) : (getAt t x).run P w = (Instr.loadAt t x).run P w := rfl
@[go_sem] theorem putAt_int (t : TypeId) (x : Value) (k : IntKind) (n : Int) : putAt t x (.int k n) = Instr.storeAt t x (.int k n) := rfl
@[go_sem] theorem putAt_bool (t : TypeId) (x : Value) (b : Bool) : putAt t x (.bool b) = Instr.storeAt t x (.bool b) := rfl
@[go_sem] theorem putAt_string (t : TypeId) (x : Value) (b : ByteArray) : putAt t x (.string b) = Instr.storeAt t x (.string b) := rfl
@[go_sem] theorem putAt_pointer (t : TypeId) (x : Value) (b : Option Addr) : putAt t x (.pointer b) = Instr.storeAt t x (.pointer b) := rfl
@[go_sem] theorem putAt_slice (t : TypeId) (x : Value) (a : Option Addr) (n c : Nat) : putAt t x (.slice a n c) = Instr.storeAt t x (.slice a n c) := rfl
@[go_sem] theorem putAt_map (t : TypeId) (x : Value) (r : Option Nat) : putAt t x (.map r) = Instr.storeAt t x (.map r) := rfl
@[go_sem] theorem putAt_func (t : TypeId) (x : Value) (f : Fn) (a c : Array Value) : putAt t x (.func f a c) = Instr.storeAt t x (.func f a c) := rfl
@[go_sem] theorem putAt_nilFunc (t : TypeId) (x : Value) : putAt t x .nilFunc = Instr.storeAt t x .nilFunc := rfl
@[go_sem] theorem putAt_iface (t : TypeId) (x : Value) (d : TypeId) (v : Value) : putAt t x (.iface d v) = Instr.storeAt t x (.iface d v) := rfl
@[go_sem] theorem putAt_nilIface (t : TypeId) (x : Value) : putAt t x .nilIface = Instr.storeAt t x .nilIface := rfl
@[go_sem] theorem putAt_complex (t : TypeId) (x : Value) (k : FloatKind) (a b : Nat) : putAt t x (.complex k a b) = Instr.storeAt t x (.complex k a b) := rfl
@[go_sem high] theorem A8_get (l : List (BitVec 8)) (i : Nat) (h : i < l.length) : (A8 l)[i]? = some (v8 (nth l i)) := by
  simp [A8, nth_eq h]
@[go_sem high] theorem A8_set (l : List (BitVec 8)) (i : Nat) (x : BitVec 8) : (A8 l).setIfInBounds i (v8 x) = A8 (l.set i x) := by
  simp [A8, List.map_set]
@[go_sem high] theorem A8_size (l : List (BitVec 8)) : (A8 l).size = l.length := by simp [A8]
@[go_sem high] theorem A8_ones (l : List (BitVec 8)) : ones (A8 l) = true := by
  simp [ones, A8, List.all_map]
  intros; rfl
@[go_sem high] theorem A8_extract_all (l : List (BitVec 8)) (k : Nat) (h : l.length ≤ k) : (A8 l).extract 0 k = A8 l := by
  simp [A8, ← List.map_take, List.take_of_length_le h]
@[go_sem] theorem A8_extract (l : List (BitVec 8)) (j k : Nat) : (A8 l).extract j k = A8 ((l.drop j).take (k - j)) := by
  simp [A8, ← List.map_drop, ← List.map_take]
theorem A8_toList (l : List (BitVec 8)) : (A8 l).toList = l.map v8 := by simp [A8]
theorem v8_inj {a b : BitVec 8} (h : v8 a = v8 b) : a = b := by
  unfold v8 at h
  injection h with _ h
  exact BitVec.eq_of_toNat_eq (by omega)
theorem A8_inj {a b : List (BitVec 8)} (h : A8 a = A8 b) : a = b := by
  unfold A8 at h
  have h' : a.map v8 = b.map v8 := by simpa using h
  have hl : a.length = b.length := by simpa using congrArg List.length h'
  apply List.ext_getElem hl
  intro i h1 h2
  have := congrArg (fun l : List Value => l[i]?) h'
  simp [h1, h2] at this
  exact v8_inj this
@[go_sem high] theorem v8_storeAt {P : Program} (w : World) (t : TypeId) (a : Addr) (x : BitVec 8) (h : (sizeOf t).run P w = .ok 1 w) :
    (putAt t (.pointer (some a)) (v8 x)).run P w = stored P w a (v8 x) .plain := by
  simp [putAt, Instr.storeAt, Instr.sureAddr, storeVar, h, v8_cells, storeCells, Addr.add_zero', v8_store]
@[go_sem high] theorem A32_get (l : List (BitVec 32)) (i : Nat) (h : i < l.length) : (A32 l)[i]? = some (v32 (nth l i)) := by
  simp [A32, nth_eq h]
@[go_sem high] theorem A32_set (l : List (BitVec 32)) (i : Nat) (x : BitVec 32) : (A32 l).setIfInBounds i (v32 x) = A32 (l.set i x) := by
  simp [A32, List.map_set]
@[go_sem high] theorem A32_size (l : List (BitVec 32)) : (A32 l).size = l.length := by simp [A32]
@[go_sem high] theorem A32_ones (l : List (BitVec 32)) : ones (A32 l) = true := by
  simp [ones, A32, List.all_map]
  intros; rfl
@[go_sem high] theorem A32_extract_all (l : List (BitVec 32)) (k : Nat) (h : l.length ≤ k) : (A32 l).extract 0 k = A32 l := by
  simp [A32, ← List.map_take, List.take_of_length_le h]
@[go_sem] theorem A32_extract (l : List (BitVec 32)) (j k : Nat) : (A32 l).extract j k = A32 ((l.drop j).take (k - j)) := by
  simp [A32, ← List.map_drop, ← List.map_take]
theorem A32_toList (l : List (BitVec 32)) : (A32 l).toList = l.map v32 := by simp [A32]
theorem v32_inj {a b : BitVec 32} (h : v32 a = v32 b) : a = b := by
  unfold v32 at h
  injection h with _ h
  exact BitVec.eq_of_toNat_eq (by omega)
theorem A32_inj {a b : List (BitVec 32)} (h : A32 a = A32 b) : a = b := by
  unfold A32 at h
  have h' : a.map v32 = b.map v32 := by simpa using h
  have hl : a.length = b.length := by simpa using congrArg List.length h'
  apply List.ext_getElem hl
  intro i h1 h2
  have := congrArg (fun l : List Value => l[i]?) h'
  simp [h1, h2] at this
  exact v32_inj this
@[go_sem high] theorem v32_storeAt {P : Program} (w : World) (t : TypeId) (a : Addr) (x : BitVec 32) (h : (sizeOf t).run P w = .ok 1 w) :
    (putAt t (.pointer (some a)) (v32 x)).run P w = stored P w a (v32 x) .plain := by
  simp [putAt, Instr.storeAt, Instr.sureAddr, storeVar, h, v32_cells, storeCells, Addr.add_zero', v32_store]
@[go_sem high] theorem A64_get (l : List (BitVec 64)) (i : Nat) (h : i < l.length) : (A64 l)[i]? = some (v64 (nth l i)) := by
  simp [A64, nth_eq h]
@[go_sem high] theorem A64_set (l : List (BitVec 64)) (i : Nat) (x : BitVec 64) : (A64 l).setIfInBounds i (v64 x) = A64 (l.set i x) := by
  simp [A64, List.map_set]
@[go_sem high] theorem A64_size (l : List (BitVec 64)) : (A64 l).size = l.length := by simp [A64]
@[go_sem high] theorem A64_ones (l : List (BitVec 64)) : ones (A64 l) = true := by
  simp [ones, A64, List.all_map]
  intros; rfl
@[go_sem high] theorem A64_extract_all (l : List (BitVec 64)) (k : Nat) (h : l.length ≤ k) : (A64 l).extract 0 k = A64 l := by
  simp [A64, ← List.map_take, List.take_of_length_le h]
@[go_sem] theorem A64_extract (l : List (BitVec 64)) (j k : Nat) : (A64 l).extract j k = A64 ((l.drop j).take (k - j)) := by
  simp [A64, ← List.map_drop, ← List.map_take]
theorem A64_toList (l : List (BitVec 64)) : (A64 l).toList = l.map v64 := by simp [A64]
theorem v64_inj {a b : BitVec 64} (h : v64 a = v64 b) : a = b := by
  unfold v64 at h
  injection h with _ h
  exact BitVec.eq_of_toNat_eq (by omega)
theorem A64_inj {a b : List (BitVec 64)} (h : A64 a = A64 b) : a = b := by
  unfold A64 at h
  have h' : a.map v64 = b.map v64 := by simpa using h
  have hl : a.length = b.length := by simpa using congrArg List.length h'
  apply List.ext_getElem hl
  intro i h1 h2
  have := congrArg (fun l : List Value => l[i]?) h'
  simp [h1, h2] at this
  exact v64_inj this
@[go_sem high] theorem v64_storeAt {P : Program} (w : World) (t : TypeId) (a : Addr) (x : BitVec 64) (h : (sizeOf t).run P w = .ok 1 w) :
    (putAt t (.pointer (some a)) (v64 x)).run P w = stored P w a (v64 x) .plain := by
  simp [putAt, Instr.storeAt, Instr.sureAddr, storeVar, h, v64_cells, storeCells, Addr.add_zero', v64_store]

theorem World.alloc_old' (w : World) (o : Obj) (n : Nat) (hn : n < w.heap.size) : (w.alloc o).heap[n]? = w.heap[n]? := by
  show (w.heap.push o)[n]? = _
  rw [Array.getElem?_push, if_neg (Nat.ne_of_lt hn)]
/-- the cells of a block -/
def rowAt (w : World) (b : Nat) : Array Value := match w.heap[b]? with | some (.cells c _ _) => c | _ => #[]
theorem cell_rowAt (w : World) (b i : Nat) : w.cell? ⟨b, i, none⟩ = (rowAt w b)[i]? := by
  unfold World.cell? rowAt
  cases h : w.heap[b]? with
  | none => simp
  | some o => cases o <;> simp
/-- a block whose cells may all be written -/
def whole (w : World) (b : Nat) : Bool := match w.heap[b]? with | some (.cells _ _ (0, 0)) => true | _ => false
theorem whole_spec {w : World} {b : Nat} (h : whole w b = true) : ∃ c e, w.heap[b]? = some (.cells c e (0, 0)) := by
  unfold whole at h
  split at h
  · rename_i c e hh; exact ⟨_, _, hh⟩
  · cases h
@[go_sem] theorem whole_alloc_at (w : World) (c : Array Value) (t : TypeId) (n : Nat) (hn : n = w.heap.size) : whole (w.alloc (.cells c t)) n = true := by
  subst hn; unfold whole; rw [heap_alloc_new]; rfl
@[go_sem] theorem whole_alloc_past (w : World) (o : Obj) (n : Nat) (hn : n < w.heap.size) : whole (w.alloc o) n = whole w n := by
  unfold whole; rw [World.alloc_old' w o n hn]
@[go_sem] theorem whole_drew (w : World) (n : Nat) : whole w.drew n = whole w n := rfl
@[go_sem] theorem rowAt_alloc_at (w : World) (c : Array Value) (t : TypeId) (n : Nat) (hn : n = w.heap.size) : rowAt (w.alloc (.cells c t)) n = c := by
  subst hn; unfold rowAt; rw [heap_alloc_new]
@[go_sem] theorem rowAt_alloc_past (w : World) (o : Obj) (n : Nat) (hn : n < w.heap.size) : rowAt (w.alloc o) n = rowAt w n := by
  unfold rowAt; rw [World.alloc_old' w o n hn]
@[go_sem] theorem rowAt_drew (w : World) (n : Nat) : rowAt w.drew n = rowAt w n := rfl
@[go_sem] theorem rowAt_setCell_other (w : World) (a : Addr) (v : Value) (n : Nat) (hn : n ≠ a.block) : rowAt (w.setCell a v) n = rowAt w n := by
  simp [rowAt, heap_setCell_other w a n v hn]
@[go_sem] theorem setRow_alloc_at (w : World) (c cs : Array Value) (t : TypeId) (n : Nat) (hn : n = w.heap.size) : (w.alloc (.cells c t)).setRow n cs = w.alloc (.cells cs t) := by
  subst hn
  simp only [World.setRow, World.alloc]
  congr 1
  apply Array.ext_getElem?
  intro i
  simp only [Array.getElem?_modify, Array.getElem?_push]
  split
  · rename_i h; subst h; simp
  · rename_i h; rw [if_neg (fun h' => h h'.symm), if_neg (fun h' => h h'.symm)]
@[go_sem] theorem setRow_alloc_past (w : World) (o : Obj) (cs : Array Value) (n : Nat) (hn : n < w.heap.size) : (w.alloc o).setRow n cs = (w.setRow n cs).alloc o := by
  simp only [World.setRow, World.alloc]
  congr 1
  apply Array.ext_getElem?
  intro i
  simp only [Array.getElem?_modify, Array.getElem?_push, Array.size_modify]
  by_cases h : n = i
  · subst h; simp [Nat.ne_of_lt hn]
  · simp [h]
@[go_sem] theorem setRow_drew (w : World) (n : Nat) (cs : Array Value) : w.drew.setRow n cs = (w.setRow n cs).drew := rfl
@[go_sem] theorem cell_setRow_other' (w : World) (g : Nat) (cs : Array Value) (b i : Nat) (h : b ≠ g) : (w.setRow g cs).cell? ⟨b, i, none⟩ = w.cell? ⟨b, i, none⟩ := cell_setRow_other w g cs _ h
@[go_sem] theorem frozen_setRow' (w : World) (g : Nat) (cs : Array Value) (a : Addr) : (w.setRow g cs).frozen? a = w.frozen? a := by
  simp only [World.frozen?, World.setRow, Array.getElem?_modify]
  by_cases h : g = a.block
  · subst h
    simp only [if_true]
    cases hh : w.heap[a.block]? with
    | none => simp
    | some o => cases o <;> simp
  · simp [h]
@[go_sem] theorem setRow_setRow' (w : World) (g : Nat) (a b : Array Value) : (w.setRow g a).setRow g b = w.setRow g b := setRow_setRow w g a b

section
variable {P : Program} (ρ : Operand → Value) (w : World) (dst : Option Tmp) (ty : TypeId) (pos : String) (after : Array Edge) (guard : Option (Nat × Bool))
@[go_sem ↓ high] theorem execOp_alloc' (e : TypeId) : (execOp ρ ⟨dst, .alloc e, ty, pos, after, guard⟩).run P w = ((Instr.alloc e true (.tuple #[])).run P w).andThen fun v w' => .ok (.value v) w' := by simp [execOp]
@[go_sem ↓ high] theorem execOp_build0 (e : TypeId) : (execOp ρ ⟨dst, .build e #[], ty, pos, after, guard⟩).run P w = ((Instr.build e #[]).run P w).andThen fun v w' => .ok (.value v) w' := by simp [execOp]
@[go_sem ↓ high] theorem execOp_load' (e : TypeId) (x : Operand) : (execOp ρ ⟨dst, .load e x, ty, pos, after, guard⟩).run P w = ((getAt e (ρ x)).run P w).andThen fun v w' => .ok (.value v) w' := by simp [execOp, getAt]
@[go_sem ↓ high] theorem execOp_store' (e : TypeId) (x y : Operand) : (execOp ρ ⟨dst, .store e x y, ty, pos, after, guard⟩).run P w = ((putAt e (ρ x) (ρ y)).run P w).andThen fun _ w' => .ok .skip w' := by simp [execOp, putAt]
end
/-- an aggregate is read out of a block: the cells as they stand there -/
@[go_sem high] theorem run_loadAt_row {P : Program} (w : World) (t : TypeId) (b off : Nat) (h1 : (isAgg t).run P w = .ok true w) (h2 : (sizeOf t).run P w = .ok (P.cellsOf t) w) (h3 : off + P.cellsOf t ≤ (rowAt w b).size) :
    (getAt t (.pointer (some ⟨b, off, none⟩))).run P w = .ok (.agg ((rowAt w b).extract off (off + P.cellsOf t))) w := by
  generalize P.cellsOf t = n at h2 h3
  have hc := run_loadCells_list (P := P) (w := w) ⟨b, off, none⟩ ((rowAt w b).extract off (off + n)).toList (fun j v hj => by
    rw [Addr.add_lit, cell_rowAt]
    have hj' : j < off + n - off := by
      have := (List.getElem?_eq_some_iff.1 hj).1
      simp at this; omega
    rw [← hj, Array.getElem?_toList, Array.getElem?_extract]
    rw [if_pos (by omega)])
  have hl : ((rowAt w b).extract off (off + n)).toList.length = n := by simp; omega
  rw [hl, Array.toArray_toList] at hc
  simp only [getAt, Instr.loadAt, Instr.sureAddr, loadVar, Sem.run_bind, Sem.run_pure, Result.andThen_ok, h1, h2, hc, if_true]
/-- an aggregate is written into a block -/
@[go_sem high] theorem run_storeAt_row {P : Program} (w : World) (t : TypeId) (b : Nat) (cs : Array Value) (h2 : (sizeOf t).run P w = .ok cs.size w) (h3 : (rowAt w b).size = cs.size) (h4 : ones cs = true) (h6 : whole w b = true) :
    (putAt t (.pointer (some ⟨b, 0, none⟩)) (.agg cs)).run P w = .ok () (w.setRow b cs) := by
  obtain ⟨old, e, hg⟩ := whole_spec h6
  have hr : rowAt w b = old := by unfold rowAt; rw [hg]
  rw [hr] at h3
  have hst := run_storeCells_at (P := P) b 0 e cs.toList 0 old w hg (by simp; omega) (fun v hv => by
    have := Array.all_eq_true'.1 h4 v (by simpa using hv)
    exact this)
  have e1 : (old.toList.take (0 + 0) ++ cs.toList ++ old.toList.drop (0 + 0 + cs.toList.length)).toArray = cs := by
    rw [List.drop_of_length_le (by simp; omega)]; simp
  rw [e1] at hst
  simp only [putAt, Instr.storeAt, Instr.sureAddr, storeVar, Sem.run_bind, Sem.run_pure, Result.andThen_ok, h2, Value.cells, ne_eq, not_true_eq_false, if_false, hst]

/-! ### A slice that reads as a list -/
def Rd8 (w : World) (a : Option Addr) (n c : Nat) (l : List (BitVec 8)) : Prop :=
  l.length = n ∧ n ≤ c ∧ c ≤ maxLen ∧ (0 < n → ∃ b o, a = some ⟨b, o, none⟩ ∧ b < w.heap.size ∧ ∀ i, i < n → w.cell? ⟨b, o + i, none⟩ = some (v8 (nth l i)))
theorem Rd8.keep {w w' : World} {a : Option Addr} {n c : Nat} {l : List (BitVec 8)} (h : Rd8 w a n c l) (hs : w.heap.size ≤ w'.heap.size) (hk : ∀ p : Addr, p.block < w.heap.size → w'.cell? p = w.cell? p) : Rd8 w' a n c l :=
  ⟨h.1, h.2.1, h.2.2.1, fun hn => by
    obtain ⟨b, o, ha, hb, hc⟩ := h.2.2.2 hn
    exact ⟨b, o, ha, by omega, fun i hi => (hk _ hb).trans (hc i hi)⟩⟩
theorem Rd8.below {w w' : World} {a : Option Addr} {n c : Nat} {l : List (BitVec 8)} (h : Rd8 w a n c l) (hb : Below w.heap.size w w') : Rd8 w' a n c l :=
  h.keep hb.size fun _ hp => hb.cell hp
theorem Rd8.alloc {w : World} {a : Option Addr} {n c : Nat} {l : List (BitVec 8)} (h : Rd8 w a n c l) (o : Obj) : Rd8 (w.alloc o) a n c l :=
  h.below ((Below.refl _ _).alloc (Nat.le_refl _) _)
theorem Rd8.drew {w : World} {a : Option Addr} {n c : Nat} {l : List (BitVec 8)} (h : Rd8 w a n c l) : Rd8 w.drew a n c l := h
theorem Rd8.cut {w : World} {a : Option Addr} {n c : Nat} {l : List (BitVec 8)} (h : Rd8 w a n c l) {j k : Nat} (hj : j ≤ k) (hk : k ≤ n) :
    Rd8 w (if c = j then a else a.map (·.add j)) (k - j) (c - j) ((l.take k).drop j) := by
  obtain ⟨h1, h2, h3, h4⟩ := h
  refine ⟨by simp; omega, by omega, by unfold maxLen at *; omega, fun hn => ?_⟩
  obtain ⟨b, o, rfl, hb, hc⟩ := h4 (by omega)
  rw [if_neg (by omega)]
  refine ⟨b, o + j, by simp [Addr.add_lit], hb, fun i hi => ?_⟩
  rw [Nat.add_assoc, hc (j + i) (by omega), nth_drop, nth_take _ _ _ (by omega)]
theorem Rd8.of_row {w : World} {b n : Nat} {l : List (BitVec 8)} (hr : rowAt w b = A8 l) (hl : l.length = n) (hb : b < w.heap.size) (hm : n ≤ maxLen) : Rd8 w (some ⟨b, 0, none⟩) n n l :=
  ⟨hl, Nat.le_refl _, hm, fun _ => ⟨b, 0, rfl, hb, fun i hi => by rw [Nat.zero_add, cell_rowAt, hr, A8_get l i (by omega)]⟩⟩
def Rd32 (w : World) (a : Option Addr) (n c : Nat) (l : List (BitVec 32)) : Prop :=
  l.length = n ∧ n ≤ c ∧ c ≤ maxLen ∧ (0 < n → ∃ b o, a = some ⟨b, o, none⟩ ∧ b < w.heap.size ∧ ∀ i, i < n → w.cell? ⟨b, o + i, none⟩ = some (v32 (nth l i)))
theorem Rd32.keep {w w' : World} {a : Option Addr} {n c : Nat} {l : List (BitVec 32)} (h : Rd32 w a n c l) (hs : w.heap.size ≤ w'.heap.size) (hk : ∀ p : Addr, p.block < w.heap.size → w'.cell? p = w.cell? p) : Rd32 w' a n c l :=
  ⟨h.1, h.2.1, h.2.2.1, fun hn => by
    obtain ⟨b, o, ha, hb, hc⟩ := h.2.2.2 hn
    exact ⟨b, o, ha, by omega, fun i hi => (hk _ hb).trans (hc i hi)⟩⟩
theorem Rd32.below {w w' : World} {a : Option Addr} {n c : Nat} {l : List (BitVec 32)} (h : Rd32 w a n c l) (hb : Below w.heap.size w w') : Rd32 w' a n c l :=
  h.keep hb.size fun _ hp => hb.cell hp
theorem Rd32.alloc {w : World} {a : Option Addr} {n c : Nat} {l : List (BitVec 32)} (h : Rd32 w a n c l) (o : Obj) : Rd32 (w.alloc o) a n c l :=
  h.below ((Below.refl _ _).alloc (Nat.le_refl _) _)
theorem Rd32.drew {w : World} {a : Option Addr} {n c : Nat} {l : List (BitVec 32)} (h : Rd32 w a n c l) : Rd32 w.drew a n c l := h
theorem Rd32.cut {w : World} {a : Option Addr} {n c : Nat} {l : List (BitVec 32)} (h : Rd32 w a n c l) {j k : Nat} (hj : j ≤ k) (hk : k ≤ n) :
    Rd32 w (if c = j then a else a.map (·.add j)) (k - j) (c - j) ((l.take k).drop j) := by
  obtain ⟨h1, h2, h3, h4⟩ := h
  refine ⟨by simp; omega, by omega, by unfold maxLen at *; omega, fun hn => ?_⟩
  obtain ⟨b, o, rfl, hb, hc⟩ := h4 (by omega)
  rw [if_neg (by omega)]
  refine ⟨b, o + j, by simp [Addr.add_lit], hb, fun i hi => ?_⟩
  rw [Nat.add_assoc, hc (j + i) (by omega), nth_drop, nth_take _ _ _ (by omega)]
theorem Rd32.of_row {w : World} {b n : Nat} {l : List (BitVec 32)} (hr : rowAt w b = A32 l) (hl : l.length = n) (hb : b < w.heap.size) (hm : n ≤ maxLen) : Rd32 w (some ⟨b, 0, none⟩) n n l :=
  ⟨hl, Nat.le_refl _, hm, fun _ => ⟨b, 0, rfl, hb, fun i hi => by rw [Nat.zero_add, cell_rowAt, hr, A32_get l i (by omega)]⟩⟩
def Rd64 (w : World) (a : Option Addr) (n c : Nat) (l : List (BitVec 64)) : Prop :=
  l.length = n ∧ n ≤ c ∧ c ≤ maxLen ∧ (0 < n → ∃ b o, a = some ⟨b, o, none⟩ ∧ b < w.heap.size ∧ ∀ i, i < n → w.cell? ⟨b, o + i, none⟩ = some (v64 (nth l i)))
theorem Rd64.keep {w w' : World} {a : Option Addr} {n c : Nat} {l : List (BitVec 64)} (h : Rd64 w a n c l) (hs : w.heap.size ≤ w'.heap.size) (hk : ∀ p : Addr, p.block < w.heap.size → w'.cell? p = w.cell? p) : Rd64 w' a n c l :=
  ⟨h.1, h.2.1, h.2.2.1, fun hn => by
    obtain ⟨b, o, ha, hb, hc⟩ := h.2.2.2 hn
    exact ⟨b, o, ha, by omega, fun i hi => (hk _ hb).trans (hc i hi)⟩⟩
theorem Rd64.below {w w' : World} {a : Option Addr} {n c : Nat} {l : List (BitVec 64)} (h : Rd64 w a n c l) (hb : Below w.heap.size w w') : Rd64 w' a n c l :=
  h.keep hb.size fun _ hp => hb.cell hp
theorem Rd64.alloc {w : World} {a : Option Addr} {n c : Nat} {l : List (BitVec 64)} (h : Rd64 w a n c l) (o : Obj) : Rd64 (w.alloc o) a n c l :=
  h.below ((Below.refl _ _).alloc (Nat.le_refl _) _)
theorem Rd64.drew {w : World} {a : Option Addr} {n c : Nat} {l : List (BitVec 64)} (h : Rd64 w a n c l) : Rd64 w.drew a n c l := h
theorem Rd64.cut {w : World} {a : Option Addr} {n c : Nat} {l : List (BitVec 64)} (h : Rd64 w a n c l) {j k : Nat} (hj : j ≤ k) (hk : k ≤ n) :
    Rd64 w (if c = j then a else a.map (·.add j)) (k - j) (c - j) ((l.take k).drop j) := by
  obtain ⟨h1, h2, h3, h4⟩ := h
  refine ⟨by simp; omega, by omega, by unfold maxLen at *; omega, fun hn => ?_⟩
  obtain ⟨b, o, rfl, hb, hc⟩ := h4 (by omega)
  rw [if_neg (by omega)]
  refine ⟨b, o + j, by simp [Addr.add_lit], hb, fun i hi => ?_⟩
  rw [Nat.add_assoc, hc (j + i) (by omega), nth_drop, nth_take _ _ _ (by omega)]
theorem Rd64.of_row {w : World} {b n : Nat} {l : List (BitVec 64)} (hr : rowAt w b = A64 l) (hl : l.length = n) (hb : b < w.heap.size) (hm : n ≤ maxLen) : Rd64 w (some ⟨b, 0, none⟩) n n l :=
  ⟨hl, Nat.le_refl _, hm, fun _ => ⟨b, 0, rfl, hb, fun i hi => by rw [Nat.zero_add, cell_rowAt, hr, A64_get l i (by omega)]⟩⟩
/-! ### Results that lie in a cell -/
theorem run_loadVar_rowAt {P : Program} {w : World} {ty : TypeId} {b n : Nat} {cs : Array Value} (h1 : (isAgg ty).run P w = .ok true w) (h2 : (sizeOf ty).run P w = .ok n w) (hn : cs.size = n) (hr : rowAt w b = cs) :
    (loadVar ty ⟨b, 0, none⟩).run P w = .ok (.agg cs) w := by
  have hc := run_loadCells_list (P := P) (w := w) ⟨b, 0, none⟩ cs.toList (fun j v hj => by
    rw [Addr.add_lit, Nat.zero_add, cell_rowAt, hr, ← hj, Array.getElem?_toList])
  rw [Array.length_toList, hn, Array.toArray_toList] at hc
  simp [loadVar, Sem.run_bind, h1, h2, hc]
theorem bodyPost_row {P : Program} {fn : Func} {R : Ending → World → Prop} {a : Act} {w : World} {p : Tmp} {ty : TypeId} {b n : Nat} (cs : Array Value) (h : fn.results = #[.cell p ty]) (hd : a.defers = [])
    (hp : a.tmps.getD p undef = .pointer (some ⟨b, 0, none⟩)) (h1 : (isAgg ty).run P w = .ok true w) (h2 : (sizeOf ty).run P w = .ok n w) (hn : cs.size = n) (hr : rowAt w b = cs) (hR : R (.returned (.agg cs)) w) : bodyPost P fn R .ret a w := by
  have hv := run_loadVar_rowAt h1 h2 hn hr
  have hp' : a.tmps[p]?.getD undef = .pointer (some ⟨b, 0, none⟩) := by simpa using hp
  exact bodyPost_ret (v := .agg cs) (by simp [results, h, hp', asAddr, hv]) hd hR
theorem bodyPost_row_tmp {P : Program} {fn : Func} {R : Ending → World → Prop} {a : Act} {w : World} {p u : Tmp} {ty : TypeId} {b n : Nat} (cs : Array Value) (h : fn.results = #[.cell p ty, .tmp u]) (hd : a.defers = [])
    (hp : a.tmps.getD p undef = .pointer (some ⟨b, 0, none⟩)) (h1 : (isAgg ty).run P w = .ok true w) (h2 : (sizeOf ty).run P w = .ok n w) (hn : cs.size = n) (hr : rowAt w b = cs) (hR : R (.returned (.tuple #[.agg cs, a.tmps.getD u undef])) w) : bodyPost P fn R .ret a w := by
  have hv := run_loadVar_rowAt h1 h2 hn hr
  have hp' : a.tmps[p]?.getD undef = .pointer (some ⟨b, 0, none⟩) := by simpa using hp
  exact bodyPost_ret (v := .tuple #[.agg cs, a.tmps.getD u undef]) (by simp [results, h, hp', asAddr, hv]) hd hR
end Go.Proofs.Ythogbbigglmapaa
