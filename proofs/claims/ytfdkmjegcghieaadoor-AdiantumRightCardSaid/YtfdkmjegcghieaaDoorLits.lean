/- slice literals: of slices, and of rows of sixteen bytes -/
import Derived.Test.YtfdkmjegcghieaaDoorGe
import Derived.Test.YtfdkmjegcghieaaDoorGz
namespace Go.Proofs.YtfdkmjegcghieaaDoor
open Go.RowKit
section
variable {P : Program} {ops : Array Oper} {C : World → Prop} {K : Act → World → Prop} {ks : List Nat} {l : List Oper} {a : Act} {w : World}
def setsAt (cs : Array Value) (off : Nat) (x : Array Value) : Array Value := x.zipIdx.foldl (fun cs (c, j) => cs.setIfInBounds (off + j) c) cs
theorem fill_cons (place : Nat → Option (Nat × Nat)) (cells : Array Value) (i : Nat) (v : Value) (rest : List (Nat × Value)) (off size : Nat) (hp : place i = some (off, size)) (hs : v.cells.size = size) (hb : off + size ≤ cells.size) :
    Instr.fill place cells ((i, v) :: rest) = Instr.fill place (setsAt cells off v.cells) rest := by
  rw [Instr.fill, hp]
  simp only []
  rw [if_neg (by rw [hs]; simp; omega)]
  rfl
theorem sets_list (off : Nat) : ∀ (x : List Value) (k : Nat) (cs : List Value), off + k + x.length ≤ cs.length →
    ((x.zipIdx k).foldl (fun (cs : Array Value) p => cs.setIfInBounds (off + p.2) p.1) cs.toArray).toList = cs.take (off + k) ++ x ++ cs.drop (off + k + x.length)
  | [], k, cs, h => by simp
  | v :: x, k, cs, h => by
    rw [List.zipIdx_cons, List.foldl_cons]
    simp only [List.setIfInBounds_toArray]
    rw [sets_list off x (k + 1) _ (by simp at h ⊢; omega)]
    simp at h
    rw [show off + (k + 1) = (off + k) + 1 by omega, List.take_add_one, List.take_set_of_le (Nat.le_refl _), List.getElem?_set_self (by omega), List.drop_set_of_lt (by omega)]
    simp [List.append_assoc]
    congr 1; omega
theorem setsAt_list (cs : Array Value) (off : Nat) (x : Array Value) (h : off + x.size ≤ cs.size) : (setsAt cs off x).toList = cs.toList.take off ++ x.toList ++ cs.toList.drop (off + x.size) := by
  have := sets_list off x.toList 0 cs.toList (by simpa using h)
  rw [Nat.add_zero] at this
  rw [Array.length_toList] at this
  rw [← this]
  unfold setsAt
  congr 1
  rw [← Array.toList_zipIdx, Array.foldl_toList]
theorem setsAt_size (cs : Array Value) (off : Nat) (x : Array Value) (h : off + x.size ≤ cs.size) : (setsAt cs off x).size = cs.size := by
  have := congrArg List.length (setsAt_list cs off x h)
  simp at this
  omega
theorem lay2 (c x y : List Value) (n : Nat) (hc : c.length = 2 * n) (hx : x.length = n) (hy : y.length = n) :
    (c.take 0 ++ x ++ c.drop (0 + n)).take n ++ y ++ (c.take 0 ++ x ++ c.drop (0 + n)).drop (n + n) = x ++ y := by
  simp only [List.take_zero, List.nil_append, Nat.zero_add]
  have e : (x ++ c.drop n).drop (n + n) = [] := List.drop_eq_nil_of_le (by simp; omega)
  rw [List.take_left' hx, e, List.append_nil]
theorem lay3 (c x y z : List Value) (n : Nat) (hc : c.length = 3 * n) (hx : x.length = n) (hy : y.length = n) (hz : z.length = n) (b : List Value) (hb : b = (c.take 0 ++ x ++ c.drop (0 + n)).take n ++ y ++ (c.take 0 ++ x ++ c.drop (0 + n)).drop (n + n)) :
    b.take (2 * n) ++ z ++ b.drop (2 * n + n) = x ++ y ++ z := by
  simp only [List.take_zero, List.nil_append, Nat.zero_add] at hb
  rw [List.take_left' hx] at hb
  have e : b.drop (2 * n + n) = [] := List.drop_eq_nil_of_le (by rw [hb]; simp; omega)
  rw [e, hb, List.take_left' (by rw [List.length_append]; omega), List.append_nil]
theorem fill2 (cs : Array Value) (size : Nat) (x y : Value) (hx : x.cells.size = size) (hy : y.cells.size = size) (h : cs.size = 2 * size) :
    Instr.fill (fun i => some (i * size, size)) cs [(0, x), (1, y)] = some (x.cells ++ y.cells) := by
  have z1 := setsAt_size cs 0 x.cells (by omega)
  have z2 := setsAt_size (setsAt cs 0 x.cells) size y.cells (by omega)
  rw [fill_cons _ _ 0 x _ 0 size (by simp) hx (by omega), fill_cons _ _ 1 y _ size size (by simp) hy (by omega), Instr.fill]
  congr 1
  apply Array.ext'
  rw [setsAt_list _ _ _ (by omega), setsAt_list _ _ _ (by omega), hx, hy, lay2 _ _ _ _ (by simpa using h) (by simpa using hx) (by simpa using hy), Array.toList_append]
theorem fill3 (cs : Array Value) (size : Nat) (x y z : Value) (hx : x.cells.size = size) (hy : y.cells.size = size) (hz : z.cells.size = size) (h : cs.size = 3 * size) :
    Instr.fill (fun i => some (i * size, size)) cs [(0, x), (1, y), (2, z)] = some (x.cells ++ y.cells ++ z.cells) := by
  have z1 := setsAt_size cs 0 x.cells (by omega)
  have z2 := setsAt_size (setsAt cs 0 x.cells) size y.cells (by omega)
  have z3 := setsAt_size (setsAt (setsAt cs 0 x.cells) size y.cells) (2 * size) z.cells (by omega)
  rw [fill_cons _ _ 0 x _ 0 size (by simp) hx (by omega), fill_cons _ _ 1 y _ size size (by simp) hy (by omega), fill_cons _ _ 2 z _ (2 * size) size (by simp) hz (by omega), Instr.fill]
  congr 1
  apply Array.ext'
  rw [setsAt_list _ _ _ (by omega), hz, lay3 cs.toList x.cells.toList y.cells.toList z.cells.toList size (by simpa using h) (by simpa using hx) (by simpa using hy) (by simpa using hz) _ (by rw [setsAt_list _ _ _ (by omega), setsAt_list _ _ _ (by omega), hx, hy]), Array.toList_append, Array.toList_append]
theorem run_lit (w : World) (t e : TypeId) (len size : Nat) (z : Value) (parts : Array (Nat × Value)) (cells : Array Value) (hu : P.underlying t = some (.slice e)) (i : TypeInfo) (hi : P.info? e = some i) (hz : i.zero = some z) (hs : i.size = size) (h0 : 0 < len * size) (h1 : len * size ≤ 16777216)
    (hf : ∀ cs : Array Value, cs.size = len * size → Instr.fill (fun i => some (i * size, size)) cs parts.toList = some cells) :
    (Instr.buildSlice t len parts).run P w = .ok (.slice (some ⟨w.heap.size, 0, none⟩) len len) (w.alloc (.cells cells e)) := by
  have n1 : ¬ 16777216 < len * size := by omega
  have n2 : ¬ len * size = 0 := by omega
  have hf' := hf ((Array.range (len * size)).map (z.cells[· % z.cells.size]!)) (by simp)
  have ht : (typeInfo e).run P w = .ok i w := by simp [typeInfo, hi]
  have hsz : (sizeOf e).run P w = .ok size w := by simp [sizeOf, ht, hs]
  simp only [Instr.buildSlice, Sem.run_bind, run_underlying hu, hsz, Result.andThen_ok]
  simp [n1, n2, zeroValue, newRow, ht, hz]
  rw [hf']
  simp
theorem h_lit2 {d : Option Tmp} {p q : Operand} {t ty e : TypeId} {pos : String} {after : Array Edge} {x y z : Value} {size bytes : Nat} (hp : a.eval p = x) (hq : a.eval q = y) (hx : x.cells.size = size) (hy : y.cells.size = size) (h0 : 0 < size) (h1 : size ≤ 1000) (ht : P.underlying t = some (.slice e)) (hi : (P.info? e).map (fun i => (i.zero, i.size, i.bytes)) = some (some z, size, bytes))
    (h : ∀ w1 g, Blk w1 g e (x.cells ++ y.cells) → Below w.heap.size w w1 → wpH P ops C K ks l (a.put d (.slice (some ⟨g, 0, none⟩) 2 2)) w1) :
    wpH P ops C K (2 :: ks) (⟨d, .buildSlice t 2 #[(0, p), (1, q)], ty, pos, after, none⟩ :: l) a w := by
  obtain ⟨i, hi, hz, hs, _⟩ := info_parts hi
  have hr : (execOp a.eval ⟨d, .buildSlice t 2 #[(0, p), (1, q)], ty, pos, after, none⟩).run P w = .ok (.value (.slice (some ⟨w.heap.size, 0, none⟩) 2 2)) (w.alloc (.cells (x.cells ++ y.cells) e)) := by
    simp only [execOp, List.map_toArray, List.map_cons, List.map_nil, hp, hq, Sem.run_bind, run_lit w t e 2 size z #[(0, x), (1, y)] (x.cells ++ y.cells) ht i hi hz hs (by omega) (by omega) (fun cs hc => fill2 cs size x y hx hy hc), Result.andThen_ok, Sem.run_pure]
  have hbel : Below w.heap.size w (w.alloc (.cells (x.cells ++ y.cells) e)) := (Below.refl _ _).alloc (Nat.le_refl _) _
  exact h_made rfl hr hbel (h _ _ (Blk.new _ _ _) hbel)
theorem h_lit3 {d : Option Tmp} {p q r : Operand} {t ty e : TypeId} {pos : String} {after : Array Edge} {x y z z0 : Value} {size bytes : Nat} (hp : a.eval p = x) (hq : a.eval q = y) (hr : a.eval r = z) (hx : x.cells.size = size) (hy : y.cells.size = size) (hz' : z.cells.size = size) (h0 : 0 < size) (h1 : size ≤ 1000) (ht : P.underlying t = some (.slice e)) (hi : (P.info? e).map (fun i => (i.zero, i.size, i.bytes)) = some (some z0, size, bytes))
    (h : ∀ w1 g, Blk w1 g e (x.cells ++ y.cells ++ z.cells) → Below w.heap.size w w1 → wpH P ops C K ks l (a.put d (.slice (some ⟨g, 0, none⟩) 3 3)) w1) :
    wpH P ops C K (2 :: ks) (⟨d, .buildSlice t 3 #[(0, p), (1, q), (2, r)], ty, pos, after, none⟩ :: l) a w := by
  obtain ⟨i, hi, hz, hs, _⟩ := info_parts hi
  have hr : (execOp a.eval ⟨d, .buildSlice t 3 #[(0, p), (1, q), (2, r)], ty, pos, after, none⟩).run P w = .ok (.value (.slice (some ⟨w.heap.size, 0, none⟩) 3 3)) (w.alloc (.cells (x.cells ++ y.cells ++ z.cells) e)) := by
    simp only [execOp, List.map_toArray, List.map_cons, List.map_nil, hp, hq, hr, Sem.run_bind, run_lit w t e 3 size z0 #[(0, x), (1, y), (2, z)] (x.cells ++ y.cells ++ z.cells) ht i hi hz hs (by omega) (by omega) (fun cs hc => fill3 cs size x y z hx hy hz' hc), Result.andThen_ok, Sem.run_pure]
  have hbel : Below w.heap.size w (w.alloc (.cells (x.cells ++ y.cells ++ z.cells) e)) := (Below.refl _ _).alloc (Nat.le_refl _) _
  exact h_made rfl hr hbel (h _ _ (Blk.new _ _ _) hbel)
end
theorem slInfo : (Tryd.prog.info? 23).map (fun i => (i.zero, i.size, i.bytes)) = some (some (.slice none 0 0), 1, 24) := by kernel_rfl
theorem sls3 {w : World} {x y z : List (BitVec 8)} {a b c : Option Addr} {n m k n' m' k' : Nat} (hx : Rd8 w a n n' x) (hy : Rd8 w b m m' y) (hz : Rd8 w c k k' z) :
    SlsAt w ((Value.slice a n n').cells ++ (Value.slice b m m').cells ++ (Value.slice c k k').cells) [x, y, z] :=
  ⟨rfl, fun j hj => by
    have : j = 0 ∨ j = 1 ∨ j = 2 := by simp at hj; omega
    rcases this with rfl | rfl | rfl
    · exact ⟨a, n, n', rfl, hx⟩
    · exact ⟨b, m, m', rfl, hy⟩
    · exact ⟨c, k, k', rfl, hz⟩⟩
theorem sls2 {w : World} {x y : List (BitVec 8)} {a b : Option Addr} {n m n' m' : Nat} (hx : Rd8 w a n n' x) (hy : Rd8 w b m m' y) :
    SlsAt w ((Value.slice a n n').cells ++ (Value.slice b m m').cells) [x, y] :=
  ⟨rfl, fun j hj => by
    have : j = 0 ∨ j = 1 := by simp at hj; omega
    rcases this with rfl | rfl
    · exact ⟨a, n, n', rfl, hx⟩
    · exact ⟨b, m, m', rfl, hy⟩⟩
end Go.Proofs.YtfdkmjegcghieaaDoor
