/- Arrays of numbers compared. -/
import Derived.Test.YtfdkmjegcghieaaDoorGa
import Derived.Test.YtfdkmjegcghieaaDoorGs
import Derived.ChangeKeysEq
import Derived.Laws.StructEq
namespace Go.Proofs.YtfdkmjegcghieaaDoor
open Go.RowKit
theorem all_eq_nth {n : Nat} : ∀ (xs ys : List (BitVec n)), xs.length = ys.length → ((List.range xs.length).all fun i => nth xs i == nth ys i) = decide (xs = ys) := by
  intro xs ys h
  rw [Bool.eq_iff_iff]
  simp only [List.all_eq_true, List.mem_range, beq_iff_eq, decide_eq_true_eq]
  exact ⟨fun hh => ext_nth h (fun i hi => hh i hi), fun e i _ => by rw [e]⟩
section
variable {P : Program} {e : TypeId}
theorem eqItems_v8 (d : Nat) (he : P.underlying e = some (.int .u8)) (xs ys : List (BitVec 8)) (w : World) : ∀ is : List Nat, (∀ i ∈ is, i < xs.length ∧ i < ys.length) → (Op.eqItems (d + 1) e 1 (A8 xs) (A8 ys) is).run P w = .ok (is.all fun i => nth xs i == nth ys i) w
  | [], _ => by simp [Op.eqItems]
  | i :: is, h => by
    have h1 := h i (by simp)
    have hp : ∀ zs : List (BitVec 8), i < zs.length → (part e (A8 zs) (i * 1)).run P w = .ok (v8 (nth zs i)) w := fun zs hz => by
      simp [part, isAgg, run_underlying he, A8_get zs i hz]
    have pe : (Op.equalIn (d + 1) e (v8 (nth xs i)) (v8 (nth ys i))).run P w = .ok (nth xs i == nth ys i) w := by
      rw [v8, v8, run_equalIn_int w d e .u8 .u8 _ _ he]
      congr 1
      rw [Bool.eq_iff_iff, beq_iff_eq, beq_iff_eq, Int.natCast_inj, BitVec.toNat_inj]
    simp only [Op.eqItems, Sem.run_bind, hp xs h1.1, hp ys h1.2, pe, Result.andThen_ok, List.all_cons]
    cases hb : (nth xs i == nth ys i)
    · simp
    · simpa using eqItems_v8 d he xs ys w is (fun j hj => h j (by simp [hj]))
theorem eql_A8 {t : TypeId} {m : Nat} (ht : P.underlying t = some (.array m e)) (he : P.underlying e = some (.int .u8)) (hi : (P.info? e).isSome = true) (hc : P.cellsOf e = 1) (xs ys : List (BitVec 8)) (hx : xs.length = m) (hy : ys.length = m) (w : World) :
    (binOp .eql t (.agg (A8 xs)) (.agg (A8 ys))).run P w = .ok (.bool (decide (xs = ys))) w ∧ (binOp .neq t (.agg (A8 xs)) (.agg (A8 ys))).run P w = .ok (.bool (!decide (xs = ys))) w := by
  obtain ⟨i, hi⟩ := Option.isSome_iff_exists.1 hi
  have h : (Op.equalIn 10000 t (.agg (A8 xs)) (.agg (A8 ys))).run P w = .ok (decide (xs = ys)) w := by
    rw [run_equalIn_array w 9999 (A8 xs) (A8 ys) ht hi, hc, eqItems_v8 9998 he xs ys w _ (fun j hj => by simp at hj; omega), ← hx, all_eq_nth xs ys (by omega)]
  constructor
  · rw [run_eql_struct, h]; rfl
  · rw [run_neq_struct, h]; rfl
theorem eqItems_v32 (d : Nat) (he : P.underlying e = some (.int .u32)) (xs ys : List (BitVec 32)) (w : World) : ∀ is : List Nat, (∀ i ∈ is, i < xs.length ∧ i < ys.length) → (Op.eqItems (d + 1) e 1 (A32 xs) (A32 ys) is).run P w = .ok (is.all fun i => nth xs i == nth ys i) w
  | [], _ => by simp [Op.eqItems]
  | i :: is, h => by
    have h1 := h i (by simp)
    have hp : ∀ zs : List (BitVec 32), i < zs.length → (part e (A32 zs) (i * 1)).run P w = .ok (v32 (nth zs i)) w := fun zs hz => by
      simp [part, isAgg, run_underlying he, A32_get zs i hz]
    have pe : (Op.equalIn (d + 1) e (v32 (nth xs i)) (v32 (nth ys i))).run P w = .ok (nth xs i == nth ys i) w := by
      rw [v32, v32, run_equalIn_int w d e .u32 .u32 _ _ he]
      congr 1
      rw [Bool.eq_iff_iff, beq_iff_eq, beq_iff_eq, Int.natCast_inj, BitVec.toNat_inj]
    simp only [Op.eqItems, Sem.run_bind, hp xs h1.1, hp ys h1.2, pe, Result.andThen_ok, List.all_cons]
    cases hb : (nth xs i == nth ys i)
    · simp
    · simpa using eqItems_v32 d he xs ys w is (fun j hj => h j (by simp [hj]))
theorem eql_A32 {t : TypeId} {m : Nat} (ht : P.underlying t = some (.array m e)) (he : P.underlying e = some (.int .u32)) (hi : (P.info? e).isSome = true) (hc : P.cellsOf e = 1) (xs ys : List (BitVec 32)) (hx : xs.length = m) (hy : ys.length = m) (w : World) :
    (binOp .eql t (.agg (A32 xs)) (.agg (A32 ys))).run P w = .ok (.bool (decide (xs = ys))) w ∧ (binOp .neq t (.agg (A32 xs)) (.agg (A32 ys))).run P w = .ok (.bool (!decide (xs = ys))) w := by
  obtain ⟨i, hi⟩ := Option.isSome_iff_exists.1 hi
  have h : (Op.equalIn 10000 t (.agg (A32 xs)) (.agg (A32 ys))).run P w = .ok (decide (xs = ys)) w := by
    rw [run_equalIn_array w 9999 (A32 xs) (A32 ys) ht hi, hc, eqItems_v32 9998 he xs ys w _ (fun j hj => by simp at hj; omega), ← hx, all_eq_nth xs ys (by omega)]
  constructor
  · rw [run_eql_struct, h]; rfl
  · rw [run_neq_struct, h]; rfl
theorem eqItems_v64 (d : Nat) (he : P.underlying e = some (.int .u64)) (xs ys : List (BitVec 64)) (w : World) : ∀ is : List Nat, (∀ i ∈ is, i < xs.length ∧ i < ys.length) → (Op.eqItems (d + 1) e 1 (A64 xs) (A64 ys) is).run P w = .ok (is.all fun i => nth xs i == nth ys i) w
  | [], _ => by simp [Op.eqItems]
  | i :: is, h => by
    have h1 := h i (by simp)
    have hp : ∀ zs : List (BitVec 64), i < zs.length → (part e (A64 zs) (i * 1)).run P w = .ok (v64 (nth zs i)) w := fun zs hz => by
      simp [part, isAgg, run_underlying he, A64_get zs i hz]
    have pe : (Op.equalIn (d + 1) e (v64 (nth xs i)) (v64 (nth ys i))).run P w = .ok (nth xs i == nth ys i) w := by
      rw [v64, v64, run_equalIn_int w d e .u64 .u64 _ _ he]
      congr 1
      rw [Bool.eq_iff_iff, beq_iff_eq, beq_iff_eq, Int.natCast_inj, BitVec.toNat_inj]
    simp only [Op.eqItems, Sem.run_bind, hp xs h1.1, hp ys h1.2, pe, Result.andThen_ok, List.all_cons]
    cases hb : (nth xs i == nth ys i)
    · simp
    · simpa using eqItems_v64 d he xs ys w is (fun j hj => h j (by simp [hj]))
theorem eql_A64 {t : TypeId} {m : Nat} (ht : P.underlying t = some (.array m e)) (he : P.underlying e = some (.int .u64)) (hi : (P.info? e).isSome = true) (hc : P.cellsOf e = 1) (xs ys : List (BitVec 64)) (hx : xs.length = m) (hy : ys.length = m) (w : World) :
    (binOp .eql t (.agg (A64 xs)) (.agg (A64 ys))).run P w = .ok (.bool (decide (xs = ys))) w ∧ (binOp .neq t (.agg (A64 xs)) (.agg (A64 ys))).run P w = .ok (.bool (!decide (xs = ys))) w := by
  obtain ⟨i, hi⟩ := Option.isSome_iff_exists.1 hi
  have h : (Op.equalIn 10000 t (.agg (A64 xs)) (.agg (A64 ys))).run P w = .ok (decide (xs = ys)) w := by
    rw [run_equalIn_array w 9999 (A64 xs) (A64 ys) ht hi, hc, eqItems_v64 9998 he xs ys w _ (fun j hj => by simp at hj; omega), ← hx, all_eq_nth xs ys (by omega)]
  constructor
  · rw [run_eql_struct, h]; rfl
  · rw [run_neq_struct, h]; rfl
end
@[go_sem ↓ high] theorem eql40 (xs ys : List (BitVec 8)) (w : World) (hx : xs.length = 16) (hy : ys.length = 16) : (binOp .eql 40 (.agg (A8 xs)) (.agg (A8 ys))).run Tryd.prog w = .ok (.bool (decide (xs = ys))) w := (eql_A8 (by kernel_rfl) (e := 5) (by kernel_rfl) (by kernel_rfl) (by kernel_rfl) xs ys hx hy w).1
@[go_sem ↓ high] theorem neq40 (xs ys : List (BitVec 8)) (w : World) (hx : xs.length = 16) (hy : ys.length = 16) : (binOp .neq 40 (.agg (A8 xs)) (.agg (A8 ys))).run Tryd.prog w = .ok (.bool (!decide (xs = ys))) w := (eql_A8 (by kernel_rfl) (e := 5) (by kernel_rfl) (by kernel_rfl) (by kernel_rfl) xs ys hx hy w).2
@[go_sem ↓ high] theorem guard40 (op : BinOp) (x y : Operand) (xs ys : Array Value) (w : World) : (eqGuard op 40 x y (.agg xs) (.agg ys)).run Tryd.prog w = .ok () w := by cases op <;> kernel_rfl
@[go_sem ↓ high] theorem eql22 (xs ys : List (BitVec 8)) (w : World) (hx : xs.length = 32) (hy : ys.length = 32) : (binOp .eql 22 (.agg (A8 xs)) (.agg (A8 ys))).run Tryd.prog w = .ok (.bool (decide (xs = ys))) w := (eql_A8 (by kernel_rfl) (e := 5) (by kernel_rfl) (by kernel_rfl) (by kernel_rfl) xs ys hx hy w).1
@[go_sem ↓ high] theorem neq22 (xs ys : List (BitVec 8)) (w : World) (hx : xs.length = 32) (hy : ys.length = 32) : (binOp .neq 22 (.agg (A8 xs)) (.agg (A8 ys))).run Tryd.prog w = .ok (.bool (!decide (xs = ys))) w := (eql_A8 (by kernel_rfl) (e := 5) (by kernel_rfl) (by kernel_rfl) (by kernel_rfl) xs ys hx hy w).2
@[go_sem ↓ high] theorem guard22 (op : BinOp) (x y : Operand) (xs ys : Array Value) (w : World) : (eqGuard op 22 x y (.agg xs) (.agg ys)).run Tryd.prog w = .ok () w := by cases op <;> kernel_rfl
@[go_sem ↓ high] theorem eql117 (xs ys : List (BitVec 8)) (w : World) (hx : xs.length = 64) (hy : ys.length = 64) : (binOp .eql 117 (.agg (A8 xs)) (.agg (A8 ys))).run Tryd.prog w = .ok (.bool (decide (xs = ys))) w := (eql_A8 (by kernel_rfl) (e := 5) (by kernel_rfl) (by kernel_rfl) (by kernel_rfl) xs ys hx hy w).1
@[go_sem ↓ high] theorem neq117 (xs ys : List (BitVec 8)) (w : World) (hx : xs.length = 64) (hy : ys.length = 64) : (binOp .neq 117 (.agg (A8 xs)) (.agg (A8 ys))).run Tryd.prog w = .ok (.bool (!decide (xs = ys))) w := (eql_A8 (by kernel_rfl) (e := 5) (by kernel_rfl) (by kernel_rfl) (by kernel_rfl) xs ys hx hy w).2
@[go_sem ↓ high] theorem guard117 (op : BinOp) (x y : Operand) (xs ys : Array Value) (w : World) : (eqGuard op 117 x y (.agg xs) (.agg ys)).run Tryd.prog w = .ok () w := by cases op <;> kernel_rfl
@[go_sem ↓ high] theorem eql180 (xs ys : List (BitVec 32)) (w : World) (hx : xs.length = 4) (hy : ys.length = 4) : (binOp .eql 180 (.agg (A32 xs)) (.agg (A32 ys))).run Tryd.prog w = .ok (.bool (decide (xs = ys))) w := (eql_A32 (by kernel_rfl) (e := 83) (by kernel_rfl) (by kernel_rfl) (by kernel_rfl) xs ys hx hy w).1
@[go_sem ↓ high] theorem neq180 (xs ys : List (BitVec 32)) (w : World) (hx : xs.length = 4) (hy : ys.length = 4) : (binOp .neq 180 (.agg (A32 xs)) (.agg (A32 ys))).run Tryd.prog w = .ok (.bool (!decide (xs = ys))) w := (eql_A32 (by kernel_rfl) (e := 83) (by kernel_rfl) (by kernel_rfl) (by kernel_rfl) xs ys hx hy w).2
@[go_sem ↓ high] theorem guard180 (op : BinOp) (x y : Operand) (xs ys : Array Value) (w : World) : (eqGuard op 180 x y (.agg xs) (.agg ys)).run Tryd.prog w = .ok () w := by cases op <;> kernel_rfl
@[go_sem ↓ high] theorem eql158 (xs ys : List (BitVec 32)) (w : World) (hx : xs.length = 16) (hy : ys.length = 16) : (binOp .eql 158 (.agg (A32 xs)) (.agg (A32 ys))).run Tryd.prog w = .ok (.bool (decide (xs = ys))) w := (eql_A32 (by kernel_rfl) (e := 83) (by kernel_rfl) (by kernel_rfl) (by kernel_rfl) xs ys hx hy w).1
@[go_sem ↓ high] theorem neq158 (xs ys : List (BitVec 32)) (w : World) (hx : xs.length = 16) (hy : ys.length = 16) : (binOp .neq 158 (.agg (A32 xs)) (.agg (A32 ys))).run Tryd.prog w = .ok (.bool (!decide (xs = ys))) w := (eql_A32 (by kernel_rfl) (e := 83) (by kernel_rfl) (by kernel_rfl) (by kernel_rfl) xs ys hx hy w).2
@[go_sem ↓ high] theorem guard158 (op : BinOp) (x y : Operand) (xs ys : Array Value) (w : World) : (eqGuard op 158 x y (.agg xs) (.agg ys)).run Tryd.prog w = .ok () w := by cases op <;> kernel_rfl
@[go_sem ↓ high] theorem eql159 (xs ys : List (BitVec 32)) (w : World) (hx : xs.length = 16) (hy : ys.length = 16) : (binOp .eql 159 (.agg (A32 xs)) (.agg (A32 ys))).run Tryd.prog w = .ok (.bool (decide (xs = ys))) w := (eql_A32 (by kernel_rfl) (e := 83) (by kernel_rfl) (by kernel_rfl) (by kernel_rfl) xs ys hx hy w).1
@[go_sem ↓ high] theorem neq159 (xs ys : List (BitVec 32)) (w : World) (hx : xs.length = 16) (hy : ys.length = 16) : (binOp .neq 159 (.agg (A32 xs)) (.agg (A32 ys))).run Tryd.prog w = .ok (.bool (!decide (xs = ys))) w := (eql_A32 (by kernel_rfl) (e := 83) (by kernel_rfl) (by kernel_rfl) (by kernel_rfl) xs ys hx hy w).2
@[go_sem ↓ high] theorem guard159 (op : BinOp) (x y : Operand) (xs ys : Array Value) (w : World) : (eqGuard op 159 x y (.agg xs) (.agg ys)).run Tryd.prog w = .ok () w := by cases op <;> kernel_rfl
end Go.Proofs.YtfdkmjegcghieaaDoor
