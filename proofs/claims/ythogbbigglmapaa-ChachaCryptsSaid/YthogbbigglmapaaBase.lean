/-
  Words that all walks of this seat share: numbers of 8, 32 and 64 bits as bit vectors behind plain definitions, and what the operations make of them. No program in sight.
-/
import Derived.WalkKit
import Derived.Lib.Hide
import Derived.Lib.MinMax
namespace Go.Proofs.Ythogbbigglmapaa
open Go.RowKit

/-- A byte, a number of 32 bits, one of 64 bits, as the model's values. -/
def v8 (x : BitVec 8) : Value := .int .u8 (x.toNat : Int)
def v32 (x : BitVec 32) : Value := .int .u32 (x.toNat : Int)
def v64 (x : BitVec 64) : Value := .int .u64 (x.toNat : Int)

theorem wrap_bv (k : IntKind) (hk : k.signed = false) (n : Int) : k.wrap n = ((BitVec.ofInt k.bits n).toNat : Int) := by
  cases k <;> simp [IntKind.signed] at hk <;> simp [IntKind.wrap, IntKind.bits, IntKind.signed, BitVec.toNat_ofInt] <;> omega
theorem ofInt_sub' (n : Nat) (x y : Int) : BitVec.ofInt n (x - y) = BitVec.ofInt n x - BitVec.ofInt n y := by
  rw [Int.sub_eq_add_neg, BitVec.ofInt_add, BitVec.ofInt_neg, ← BitVec.sub_eq_add_neg]
theorem ofInt_toNat' (n : Nat) (x : BitVec n) : BitVec.ofInt n (x.toNat : Int) = x := by simp
/-- A shift's amount, hidden. -/
def amt {n : Nat} (b : BitVec n) : Nat := b.toNat
def uv (k : IntKind) (x : BitVec k.bits) : Value := .int k (x.toNat : Int)
section
variable {k : IntKind} (hk : k.signed = false) (t : TypeId) (x y : Int) (a b : BitVec k.bits) (hx : BitVec.ofInt k.bits x = a) (hy : BitVec.ofInt k.bits y = b)
include hk hx hy
theorem raw_add : binOp .add t (.int k x) (.int k y) = pure (uv k (a + b)) := by
  subst hx hy; simp [binOp_add, Op.intArith, wrap_bv k hk, BitVec.ofInt_add, uv]
theorem raw_sub : binOp .sub t (.int k x) (.int k y) = pure (uv k (a - b)) := by
  subst hx hy; simp [binOp_sub, Op.intArith, wrap_bv k hk, ofInt_sub', uv, -BitVec.toNat_ofInt, -BitVec.toNat_sub]
theorem raw_mul : binOp .mul t (.int k x) (.int k y) = pure (uv k (a * b)) := by
  subst hx hy; simp [binOp_mul, Op.intArith, wrap_bv k hk, BitVec.ofInt_mul, uv]
theorem raw_and : binOp .and t (.int k x) (.int k y) = pure (uv k (a &&& b)) := by
  subst hx hy; simp only [binOp_and, Op.intBits, wrap_bv k hk, uv, ofInt_toNat']
theorem raw_or : binOp .or t (.int k x) (.int k y) = pure (uv k (a ||| b)) := by
  subst hx hy; simp only [binOp_or, Op.intBits, wrap_bv k hk, uv, ofInt_toNat']
theorem raw_xor : binOp .xor t (.int k x) (.int k y) = pure (uv k (a ^^^ b)) := by
  subst hx hy; simp only [binOp_xor, Op.intBits, wrap_bv k hk, uv, ofInt_toNat']
theorem raw_andNot : binOp .andNot t (.int k x) (.int k y) = pure (uv k (a &&& ~~~b)) := by
  subst hx hy; simp only [binOp_andNot, Op.intBits, wrap_bv k hk, uv, ofInt_toNat']
end
theorem raw_shl {k : IntKind} (hk : k.signed = false) (t : TypeId) (yk : IntKind) (a : BitVec k.bits) (n : Int) (hn : 0 ≤ n) : binOp .shl t (uv k a) (.int yk n) = pure (uv k (a <<< n.toNat)) := by
  obtain ⟨m, rfl⟩ := Int.eq_ofNat_of_zero_le hn
  simp only [uv, binOp, Op.shift, if_neg (show ¬ (m : Int) < 0 by omega), wrap_bv k hk]
  congr 3
  rw [Int.toNat_natCast, show ((a.toNat : Int) * 2 ^ min m k.bits) = ((a.toNat * 2 ^ min m k.bits : Nat) : Int) by simp]
  rw [BitVec.ofInt_natCast, BitVec.toNat_ofNat, BitVec.toNat_shiftLeft, Nat.shiftLeft_eq]
  by_cases h : m ≤ k.bits
  · rw [Nat.min_eq_left h]
  · rw [Nat.min_eq_right (by omega), Nat.mul_mod_left, show m = k.bits + (m - k.bits) by omega, Nat.pow_add, ← Nat.mul_assoc, Nat.mul_right_comm, Nat.mul_mod_left]
theorem raw_shr {k : IntKind} (t : TypeId) (yk : IntKind) (a : BitVec k.bits) (n : Int) (hn : 0 ≤ n) : binOp .shr t (uv k a) (.int yk n) = pure (uv k (a >>> n.toNat)) := by
  obtain ⟨m, rfl⟩ := Int.eq_ofNat_of_zero_le hn
  simp only [uv, binOp, Op.shift, if_neg (show ¬ (m : Int) < 0 by omega)]
  congr 2
  rw [Int.toNat_natCast, BitVec.toNat_ushiftRight, Nat.shiftRight_eq_div_pow, Int.fdiv_eq_ediv_of_nonneg _ (by exact_mod_cast Nat.zero_le _)]
  have hp : (2 : Int) ^ min m k.bits = ((2 ^ min m k.bits : Nat) : Int) := by simp
  rw [hp, ← Int.natCast_ediv]
  congr 1
  by_cases h : m ≤ k.bits
  · rw [Nat.min_eq_left h]
  · have hb := a.isLt
    rw [Nat.min_eq_right (by omega), Nat.div_eq_of_lt hb, Nat.div_eq_of_lt (Nat.lt_of_lt_of_le hb (Nat.pow_le_pow_right (by omega) (by omega)))]

@[go_sem high] theorem v8_add (t : TypeId) (a b : BitVec 8) : binOp .add t (v8 a) (v8 b) = pure (v8 (a + b)) := raw_add (k := .u8) rfl t _ _ a b (ofInt_toNat' 8 a) (ofInt_toNat' 8 b)
@[go_sem high] theorem v8_add_l (t : TypeId) (a : BitVec 8) (m : Int) : binOp .add t (v8 a) (.int .u8 m) = pure (v8 (a + (BitVec.ofInt 8 m))) := raw_add (k := .u8) rfl t _ _ a _ (ofInt_toNat' 8 a) rfl
@[go_sem high] theorem v8_add_r (t : TypeId) (b : BitVec 8) (m : Int) : binOp .add t (.int .u8 m) (v8 b) = pure (v8 ((BitVec.ofInt 8 m) + b)) := raw_add (k := .u8) rfl t _ _ _ b rfl (ofInt_toNat' 8 b)
@[go_sem high] theorem v8_sub (t : TypeId) (a b : BitVec 8) : binOp .sub t (v8 a) (v8 b) = pure (v8 (a - b)) := raw_sub (k := .u8) rfl t _ _ a b (ofInt_toNat' 8 a) (ofInt_toNat' 8 b)
@[go_sem high] theorem v8_sub_l (t : TypeId) (a : BitVec 8) (m : Int) : binOp .sub t (v8 a) (.int .u8 m) = pure (v8 (a - (BitVec.ofInt 8 m))) := raw_sub (k := .u8) rfl t _ _ a _ (ofInt_toNat' 8 a) rfl
@[go_sem high] theorem v8_sub_r (t : TypeId) (b : BitVec 8) (m : Int) : binOp .sub t (.int .u8 m) (v8 b) = pure (v8 ((BitVec.ofInt 8 m) - b)) := raw_sub (k := .u8) rfl t _ _ _ b rfl (ofInt_toNat' 8 b)
@[go_sem high] theorem v8_mul (t : TypeId) (a b : BitVec 8) : binOp .mul t (v8 a) (v8 b) = pure (v8 (a * b)) := raw_mul (k := .u8) rfl t _ _ a b (ofInt_toNat' 8 a) (ofInt_toNat' 8 b)
@[go_sem high] theorem v8_mul_l (t : TypeId) (a : BitVec 8) (m : Int) : binOp .mul t (v8 a) (.int .u8 m) = pure (v8 (a * (BitVec.ofInt 8 m))) := raw_mul (k := .u8) rfl t _ _ a _ (ofInt_toNat' 8 a) rfl
@[go_sem high] theorem v8_mul_r (t : TypeId) (b : BitVec 8) (m : Int) : binOp .mul t (.int .u8 m) (v8 b) = pure (v8 ((BitVec.ofInt 8 m) * b)) := raw_mul (k := .u8) rfl t _ _ _ b rfl (ofInt_toNat' 8 b)
@[go_sem high] theorem v8_and (t : TypeId) (a b : BitVec 8) : binOp .and t (v8 a) (v8 b) = pure (v8 (a &&& b)) := raw_and (k := .u8) rfl t _ _ a b (ofInt_toNat' 8 a) (ofInt_toNat' 8 b)
@[go_sem high] theorem v8_and_l (t : TypeId) (a : BitVec 8) (m : Int) : binOp .and t (v8 a) (.int .u8 m) = pure (v8 (a &&& (BitVec.ofInt 8 m))) := raw_and (k := .u8) rfl t _ _ a _ (ofInt_toNat' 8 a) rfl
@[go_sem high] theorem v8_and_r (t : TypeId) (b : BitVec 8) (m : Int) : binOp .and t (.int .u8 m) (v8 b) = pure (v8 ((BitVec.ofInt 8 m) &&& b)) := raw_and (k := .u8) rfl t _ _ _ b rfl (ofInt_toNat' 8 b)
@[go_sem high] theorem v8_or (t : TypeId) (a b : BitVec 8) : binOp .or t (v8 a) (v8 b) = pure (v8 (a ||| b)) := raw_or (k := .u8) rfl t _ _ a b (ofInt_toNat' 8 a) (ofInt_toNat' 8 b)
@[go_sem high] theorem v8_or_l (t : TypeId) (a : BitVec 8) (m : Int) : binOp .or t (v8 a) (.int .u8 m) = pure (v8 (a ||| (BitVec.ofInt 8 m))) := raw_or (k := .u8) rfl t _ _ a _ (ofInt_toNat' 8 a) rfl
@[go_sem high] theorem v8_or_r (t : TypeId) (b : BitVec 8) (m : Int) : binOp .or t (.int .u8 m) (v8 b) = pure (v8 ((BitVec.ofInt 8 m) ||| b)) := raw_or (k := .u8) rfl t _ _ _ b rfl (ofInt_toNat' 8 b)
@[go_sem high] theorem v8_xor (t : TypeId) (a b : BitVec 8) : binOp .xor t (v8 a) (v8 b) = pure (v8 (a ^^^ b)) := raw_xor (k := .u8) rfl t _ _ a b (ofInt_toNat' 8 a) (ofInt_toNat' 8 b)
@[go_sem high] theorem v8_xor_l (t : TypeId) (a : BitVec 8) (m : Int) : binOp .xor t (v8 a) (.int .u8 m) = pure (v8 (a ^^^ (BitVec.ofInt 8 m))) := raw_xor (k := .u8) rfl t _ _ a _ (ofInt_toNat' 8 a) rfl
@[go_sem high] theorem v8_xor_r (t : TypeId) (b : BitVec 8) (m : Int) : binOp .xor t (.int .u8 m) (v8 b) = pure (v8 ((BitVec.ofInt 8 m) ^^^ b)) := raw_xor (k := .u8) rfl t _ _ _ b rfl (ofInt_toNat' 8 b)
@[go_sem high] theorem v8_andNot (t : TypeId) (a b : BitVec 8) : binOp .andNot t (v8 a) (v8 b) = pure (v8 (a &&& ~~~b)) := raw_andNot (k := .u8) rfl t _ _ a b (ofInt_toNat' 8 a) (ofInt_toNat' 8 b)
@[go_sem high] theorem v8_andNot_l (t : TypeId) (a : BitVec 8) (m : Int) : binOp .andNot t (v8 a) (.int .u8 m) = pure (v8 (a &&& ~~~(BitVec.ofInt 8 m))) := raw_andNot (k := .u8) rfl t _ _ a _ (ofInt_toNat' 8 a) rfl
@[go_sem high] theorem v8_andNot_r (t : TypeId) (b : BitVec 8) (m : Int) : binOp .andNot t (.int .u8 m) (v8 b) = pure (v8 ((BitVec.ofInt 8 m) &&& ~~~b)) := raw_andNot (k := .u8) rfl t _ _ _ b rfl (ofInt_toNat' 8 b)
@[go_sem high] theorem v8_shl (t : TypeId) (yk : IntKind) (a : BitVec 8) (m : Int) (hm : 0 ≤ m) : binOp .shl t (v8 a) (.int yk m) = pure (v8 (a <<< m.toNat)) := raw_shl (k := .u8) rfl t yk a m hm
@[go_sem high] theorem v8_shr (t : TypeId) (yk : IntKind) (a : BitVec 8) (m : Int) (hm : 0 ≤ m) : binOp .shr t (v8 a) (.int yk m) = pure (v8 (a >>> m.toNat)) := raw_shr (k := .u8) t yk a m hm
@[go_sem high] theorem v8_eql (t : TypeId) (a b : BitVec 8) : binOp .eql t (v8 a) (v8 b) = pure (.bool (a == b)) := by rw [v8, v8, binOp_eql]; congr 2; rw [Bool.eq_iff_iff, beq_iff_eq, beq_iff_eq, Int.natCast_inj, BitVec.toNat_inj]
@[go_sem high] theorem v8_neq (t : TypeId) (a b : BitVec 8) : binOp .neq t (v8 a) (v8 b) = pure (.bool (a != b)) := by rw [v8, v8, binOp_neq]; congr 2; rw [Bool.eq_iff_iff, bne_iff_ne, bne_iff_ne, Ne, Ne, Int.natCast_inj, BitVec.toNat_inj]
theorem v8_lit (m : Nat) (h : m < 2 ^ 8) : Value.int .u8 (m : Int) = v8 (BitVec.ofNat 8 m) := by rw [v8, BitVec.toNat_ofNat, Nat.mod_eq_of_lt h]
@[go_sem high] theorem v8_eql_l (t : TypeId) (a : BitVec 8) (m : Nat) (h : m < 2 ^ 8) : binOp .eql t (v8 a) (.int .u8 (no_index (OfNat.ofNat m))) = pure (.bool (a == BitVec.ofNat 8 m)) := by rw [← v8_eql t a, ← v8_lit m h]; rfl
@[go_sem high] theorem v8_neq_l (t : TypeId) (a : BitVec 8) (m : Nat) (h : m < 2 ^ 8) : binOp .neq t (v8 a) (.int .u8 (no_index (OfNat.ofNat m))) = pure (.bool (a != BitVec.ofNat 8 m)) := by rw [← v8_neq t a, ← v8_lit m h]; rfl
@[go_sem high] theorem v8_lss (t : TypeId) (a b : BitVec 8) : binOp .lss t (v8 a) (v8 b) = pure (.bool (decide (a.toNat < b.toNat))) := by rw [v8, v8, binOp_lss]; congr 2; simp
@[go_sem high] theorem v8_lss_l (t : TypeId) (a : BitVec 8) (m : Nat) : binOp .lss t (v8 a) (.int .u8 (no_index (OfNat.ofNat m))) = pure (.bool (decide (a.toNat < m))) := by rw [show Value.int .u8 (OfNat.ofNat m) = Value.int .u8 (m : Int) from rfl, v8, binOp_lss]; congr 2; simp
@[go_sem high] theorem v8_leq (t : TypeId) (a b : BitVec 8) : binOp .leq t (v8 a) (v8 b) = pure (.bool (decide (a.toNat ≤ b.toNat))) := by rw [v8, v8, binOp_leq]; congr 2; simp
@[go_sem high] theorem v8_leq_l (t : TypeId) (a : BitVec 8) (m : Nat) : binOp .leq t (v8 a) (.int .u8 (no_index (OfNat.ofNat m))) = pure (.bool (decide (a.toNat ≤ m))) := by rw [show Value.int .u8 (OfNat.ofNat m) = Value.int .u8 (m : Int) from rfl, v8, binOp_leq]; congr 2; simp
@[go_sem high] theorem v8_gtr (t : TypeId) (a b : BitVec 8) : binOp .gtr t (v8 a) (v8 b) = pure (.bool (decide (b.toNat < a.toNat))) := by rw [v8, v8, binOp_gtr]; congr 2; simp
@[go_sem high] theorem v8_gtr_l (t : TypeId) (a : BitVec 8) (m : Nat) : binOp .gtr t (v8 a) (.int .u8 (no_index (OfNat.ofNat m))) = pure (.bool (decide (m < a.toNat))) := by rw [show Value.int .u8 (OfNat.ofNat m) = Value.int .u8 (m : Int) from rfl, v8, binOp_gtr]; congr 2; simp
@[go_sem high] theorem v8_geq (t : TypeId) (a b : BitVec 8) : binOp .geq t (v8 a) (v8 b) = pure (.bool (decide (b.toNat ≤ a.toNat))) := by rw [v8, v8, binOp_geq]; congr 2; simp
@[go_sem high] theorem v8_geq_l (t : TypeId) (a : BitVec 8) (m : Nat) : binOp .geq t (v8 a) (.int .u8 (no_index (OfNat.ofNat m))) = pure (.bool (decide (m ≤ a.toNat))) := by rw [show Value.int .u8 (OfNat.ofNat m) = Value.int .u8 (m : Int) from rfl, v8, binOp_geq]; congr 2; simp
@[go_sem high] theorem v8_not (a : BitVec 8) : Op.unary .xor (v8 a) = pure (v8 (~~~a)) := by have e : BitVec.ofInt 8 IntKind.u8.max = BitVec.allOnes 8 := (by decide); have h := v8_xor_r 0 a IntKind.u8.max; rw [e, BitVec.allOnes_xor] at h; exact h
@[go_sem high] theorem v8_neg (a : BitVec 8) : Op.unary .neg (v8 a) = pure (v8 (-a)) := by have e : BitVec.ofInt 8 0 = 0#8 := (by decide); have h := v8_sub_r 0 a 0; rw [e, BitVec.zero_sub] at h; exact h
@[go_sem high] theorem v8_guard (op : BinOp) (t : TypeId) (x y : Operand) (a : BitVec 8) (v : Value) : eqGuard op t x y (v8 a) v = pure () := by unfold eqGuard v8; split <;> rfl
@[go_sem high] theorem v8_cells (a : BitVec 8) : (v8 a).cells = #[v8 a] := rfl
@[go_sem high] theorem v8_one' (a : BitVec 8) : (v8 a).oneCell' = true := rfl
@[go_sem high] theorem v8_cv_int (a : BitVec 8) {P : Program} (w : World) (s d : TypeId) (hs : P.underlying s = some (.int .u8)) (hd : P.underlying d = some (.int .i64)) : (convert s d (v8 a)).run P w = .ok (.int .i64 (a.toNat : Int)) w := by have h := a.isLt; simp [convert, run_underlying hs, run_underlying hd, v8, Conv.intToInt]; exact IntWalk.i64_in _ (by omega)
@[go_sem high] theorem v8_of_int {P : Program} (w : World) (s d : TypeId) (m : Int) (hs : P.underlying s = some (.int .i64)) (hd : P.underlying d = some (.int .u8)) : (convert s d (.int .i64 m)).run P w = .ok (v8 (BitVec.ofInt 8 m)) w := by simp [convert, run_underlying hs, run_underlying hd, v8, Conv.intToInt, wrap_bv .u8 rfl, -BitVec.toNat_ofInt]; rfl
@[go_sem high] theorem v8_store {P : Program} (w : World) (a : Addr) (m : Mode) (n : BitVec 8) : (store a (v8 n) m).run P w = stored P w a (v8 n) m := run_store P w a _ m rfl
@[go_sem high] theorem v8_shl_v8 (t : TypeId) (a : BitVec 8) (b : BitVec 8) : binOp .shl t (v8 a) (v8 b) = pure (v8 (a <<< amt b)) := raw_shl (k := .u8) rfl t .u8 a (b.toNat : Int) (Int.natCast_nonneg _)
@[go_sem high] theorem v8_shr_v8 (t : TypeId) (a : BitVec 8) (b : BitVec 8) : binOp .shr t (v8 a) (v8 b) = pure (v8 (a >>> amt b)) := raw_shr (k := .u8) t .u8 a (b.toNat : Int) (Int.natCast_nonneg _)
@[go_sem high] theorem v8_cv_v8 (a : BitVec 8) {P : Program} (w : World) (s d : TypeId) (hs : P.underlying s = some (.int .u8)) (hd : P.underlying d = some (.int .u8)) : (convert s d (v8 a)).run P w = .ok (v8 (a.setWidth 8)) w := by simp [convert, run_underlying hs, run_underlying hd, v8, v8, Conv.intToInt, wrap_bv .u8 rfl, IntKind.bits]
@[go_sem high] theorem v8_shl_v32 (t : TypeId) (a : BitVec 8) (b : BitVec 32) : binOp .shl t (v8 a) (v32 b) = pure (v8 (a <<< amt b)) := raw_shl (k := .u8) rfl t .u32 a (b.toNat : Int) (Int.natCast_nonneg _)
@[go_sem high] theorem v8_shr_v32 (t : TypeId) (a : BitVec 8) (b : BitVec 32) : binOp .shr t (v8 a) (v32 b) = pure (v8 (a >>> amt b)) := raw_shr (k := .u8) t .u32 a (b.toNat : Int) (Int.natCast_nonneg _)
@[go_sem high] theorem v8_cv_v32 (a : BitVec 8) {P : Program} (w : World) (s d : TypeId) (hs : P.underlying s = some (.int .u8)) (hd : P.underlying d = some (.int .u32)) : (convert s d (v8 a)).run P w = .ok (v32 (a.setWidth 32)) w := by simp [convert, run_underlying hs, run_underlying hd, v8, v32, Conv.intToInt, wrap_bv .u32 rfl, IntKind.bits]
@[go_sem high] theorem v8_shl_v64 (t : TypeId) (a : BitVec 8) (b : BitVec 64) : binOp .shl t (v8 a) (v64 b) = pure (v8 (a <<< amt b)) := raw_shl (k := .u8) rfl t .u64 a (b.toNat : Int) (Int.natCast_nonneg _)
@[go_sem high] theorem v8_shr_v64 (t : TypeId) (a : BitVec 8) (b : BitVec 64) : binOp .shr t (v8 a) (v64 b) = pure (v8 (a >>> amt b)) := raw_shr (k := .u8) t .u64 a (b.toNat : Int) (Int.natCast_nonneg _)
@[go_sem high] theorem v8_cv_v64 (a : BitVec 8) {P : Program} (w : World) (s d : TypeId) (hs : P.underlying s = some (.int .u8)) (hd : P.underlying d = some (.int .u64)) : (convert s d (v8 a)).run P w = .ok (v64 (a.setWidth 64)) w := by simp [convert, run_underlying hs, run_underlying hd, v8, v64, Conv.intToInt, wrap_bv .u64 rfl, IntKind.bits]
@[go_sem high] theorem v32_add (t : TypeId) (a b : BitVec 32) : binOp .add t (v32 a) (v32 b) = pure (v32 (a + b)) := raw_add (k := .u32) rfl t _ _ a b (ofInt_toNat' 32 a) (ofInt_toNat' 32 b)
@[go_sem high] theorem v32_add_l (t : TypeId) (a : BitVec 32) (m : Int) : binOp .add t (v32 a) (.int .u32 m) = pure (v32 (a + (BitVec.ofInt 32 m))) := raw_add (k := .u32) rfl t _ _ a _ (ofInt_toNat' 32 a) rfl
@[go_sem high] theorem v32_add_r (t : TypeId) (b : BitVec 32) (m : Int) : binOp .add t (.int .u32 m) (v32 b) = pure (v32 ((BitVec.ofInt 32 m) + b)) := raw_add (k := .u32) rfl t _ _ _ b rfl (ofInt_toNat' 32 b)
@[go_sem high] theorem v32_sub (t : TypeId) (a b : BitVec 32) : binOp .sub t (v32 a) (v32 b) = pure (v32 (a - b)) := raw_sub (k := .u32) rfl t _ _ a b (ofInt_toNat' 32 a) (ofInt_toNat' 32 b)
@[go_sem high] theorem v32_sub_l (t : TypeId) (a : BitVec 32) (m : Int) : binOp .sub t (v32 a) (.int .u32 m) = pure (v32 (a - (BitVec.ofInt 32 m))) := raw_sub (k := .u32) rfl t _ _ a _ (ofInt_toNat' 32 a) rfl
@[go_sem high] theorem v32_sub_r (t : TypeId) (b : BitVec 32) (m : Int) : binOp .sub t (.int .u32 m) (v32 b) = pure (v32 ((BitVec.ofInt 32 m) - b)) := raw_sub (k := .u32) rfl t _ _ _ b rfl (ofInt_toNat' 32 b)
@[go_sem high] theorem v32_mul (t : TypeId) (a b : BitVec 32) : binOp .mul t (v32 a) (v32 b) = pure (v32 (a * b)) := raw_mul (k := .u32) rfl t _ _ a b (ofInt_toNat' 32 a) (ofInt_toNat' 32 b)
@[go_sem high] theorem v32_mul_l (t : TypeId) (a : BitVec 32) (m : Int) : binOp .mul t (v32 a) (.int .u32 m) = pure (v32 (a * (BitVec.ofInt 32 m))) := raw_mul (k := .u32) rfl t _ _ a _ (ofInt_toNat' 32 a) rfl
@[go_sem high] theorem v32_mul_r (t : TypeId) (b : BitVec 32) (m : Int) : binOp .mul t (.int .u32 m) (v32 b) = pure (v32 ((BitVec.ofInt 32 m) * b)) := raw_mul (k := .u32) rfl t _ _ _ b rfl (ofInt_toNat' 32 b)
@[go_sem high] theorem v32_and (t : TypeId) (a b : BitVec 32) : binOp .and t (v32 a) (v32 b) = pure (v32 (a &&& b)) := raw_and (k := .u32) rfl t _ _ a b (ofInt_toNat' 32 a) (ofInt_toNat' 32 b)
@[go_sem high] theorem v32_and_l (t : TypeId) (a : BitVec 32) (m : Int) : binOp .and t (v32 a) (.int .u32 m) = pure (v32 (a &&& (BitVec.ofInt 32 m))) := raw_and (k := .u32) rfl t _ _ a _ (ofInt_toNat' 32 a) rfl
@[go_sem high] theorem v32_and_r (t : TypeId) (b : BitVec 32) (m : Int) : binOp .and t (.int .u32 m) (v32 b) = pure (v32 ((BitVec.ofInt 32 m) &&& b)) := raw_and (k := .u32) rfl t _ _ _ b rfl (ofInt_toNat' 32 b)
@[go_sem high] theorem v32_or (t : TypeId) (a b : BitVec 32) : binOp .or t (v32 a) (v32 b) = pure (v32 (a ||| b)) := raw_or (k := .u32) rfl t _ _ a b (ofInt_toNat' 32 a) (ofInt_toNat' 32 b)
@[go_sem high] theorem v32_or_l (t : TypeId) (a : BitVec 32) (m : Int) : binOp .or t (v32 a) (.int .u32 m) = pure (v32 (a ||| (BitVec.ofInt 32 m))) := raw_or (k := .u32) rfl t _ _ a _ (ofInt_toNat' 32 a) rfl
@[go_sem high] theorem v32_or_r (t : TypeId) (b : BitVec 32) (m : Int) : binOp .or t (.int .u32 m) (v32 b) = pure (v32 ((BitVec.ofInt 32 m) ||| b)) := raw_or (k := .u32) rfl t _ _ _ b rfl (ofInt_toNat' 32 b)
@[go_sem high] theorem v32_xor (t : TypeId) (a b : BitVec 32) : binOp .xor t (v32 a) (v32 b) = pure (v32 (a ^^^ b)) := raw_xor (k := .u32) rfl t _ _ a b (ofInt_toNat' 32 a) (ofInt_toNat' 32 b)
@[go_sem high] theorem v32_xor_l (t : TypeId) (a : BitVec 32) (m : Int) : binOp .xor t (v32 a) (.int .u32 m) = pure (v32 (a ^^^ (BitVec.ofInt 32 m))) := raw_xor (k := .u32) rfl t _ _ a _ (ofInt_toNat' 32 a) rfl
@[go_sem high] theorem v32_xor_r (t : TypeId) (b : BitVec 32) (m : Int) : binOp .xor t (.int .u32 m) (v32 b) = pure (v32 ((BitVec.ofInt 32 m) ^^^ b)) := raw_xor (k := .u32) rfl t _ _ _ b rfl (ofInt_toNat' 32 b)
@[go_sem high] theorem v32_andNot (t : TypeId) (a b : BitVec 32) : binOp .andNot t (v32 a) (v32 b) = pure (v32 (a &&& ~~~b)) := raw_andNot (k := .u32) rfl t _ _ a b (ofInt_toNat' 32 a) (ofInt_toNat' 32 b)
@[go_sem high] theorem v32_andNot_l (t : TypeId) (a : BitVec 32) (m : Int) : binOp .andNot t (v32 a) (.int .u32 m) = pure (v32 (a &&& ~~~(BitVec.ofInt 32 m))) := raw_andNot (k := .u32) rfl t _ _ a _ (ofInt_toNat' 32 a) rfl
@[go_sem high] theorem v32_andNot_r (t : TypeId) (b : BitVec 32) (m : Int) : binOp .andNot t (.int .u32 m) (v32 b) = pure (v32 ((BitVec.ofInt 32 m) &&& ~~~b)) := raw_andNot (k := .u32) rfl t _ _ _ b rfl (ofInt_toNat' 32 b)
@[go_sem high] theorem v32_shl (t : TypeId) (yk : IntKind) (a : BitVec 32) (m : Int) (hm : 0 ≤ m) : binOp .shl t (v32 a) (.int yk m) = pure (v32 (a <<< m.toNat)) := raw_shl (k := .u32) rfl t yk a m hm
@[go_sem high] theorem v32_shr (t : TypeId) (yk : IntKind) (a : BitVec 32) (m : Int) (hm : 0 ≤ m) : binOp .shr t (v32 a) (.int yk m) = pure (v32 (a >>> m.toNat)) := raw_shr (k := .u32) t yk a m hm
@[go_sem high] theorem v32_eql (t : TypeId) (a b : BitVec 32) : binOp .eql t (v32 a) (v32 b) = pure (.bool (a == b)) := by rw [v32, v32, binOp_eql]; congr 2; rw [Bool.eq_iff_iff, beq_iff_eq, beq_iff_eq, Int.natCast_inj, BitVec.toNat_inj]
@[go_sem high] theorem v32_neq (t : TypeId) (a b : BitVec 32) : binOp .neq t (v32 a) (v32 b) = pure (.bool (a != b)) := by rw [v32, v32, binOp_neq]; congr 2; rw [Bool.eq_iff_iff, bne_iff_ne, bne_iff_ne, Ne, Ne, Int.natCast_inj, BitVec.toNat_inj]
theorem v32_lit (m : Nat) (h : m < 2 ^ 32) : Value.int .u32 (m : Int) = v32 (BitVec.ofNat 32 m) := by rw [v32, BitVec.toNat_ofNat, Nat.mod_eq_of_lt h]
@[go_sem high] theorem v32_eql_l (t : TypeId) (a : BitVec 32) (m : Nat) (h : m < 2 ^ 32) : binOp .eql t (v32 a) (.int .u32 (no_index (OfNat.ofNat m))) = pure (.bool (a == BitVec.ofNat 32 m)) := by rw [← v32_eql t a, ← v32_lit m h]; rfl
@[go_sem high] theorem v32_neq_l (t : TypeId) (a : BitVec 32) (m : Nat) (h : m < 2 ^ 32) : binOp .neq t (v32 a) (.int .u32 (no_index (OfNat.ofNat m))) = pure (.bool (a != BitVec.ofNat 32 m)) := by rw [← v32_neq t a, ← v32_lit m h]; rfl
@[go_sem high] theorem v32_lss (t : TypeId) (a b : BitVec 32) : binOp .lss t (v32 a) (v32 b) = pure (.bool (decide (a.toNat < b.toNat))) := by rw [v32, v32, binOp_lss]; congr 2; simp
@[go_sem high] theorem v32_lss_l (t : TypeId) (a : BitVec 32) (m : Nat) : binOp .lss t (v32 a) (.int .u32 (no_index (OfNat.ofNat m))) = pure (.bool (decide (a.toNat < m))) := by rw [show Value.int .u32 (OfNat.ofNat m) = Value.int .u32 (m : Int) from rfl, v32, binOp_lss]; congr 2; simp
@[go_sem high] theorem v32_leq (t : TypeId) (a b : BitVec 32) : binOp .leq t (v32 a) (v32 b) = pure (.bool (decide (a.toNat ≤ b.toNat))) := by rw [v32, v32, binOp_leq]; congr 2; simp
@[go_sem high] theorem v32_leq_l (t : TypeId) (a : BitVec 32) (m : Nat) : binOp .leq t (v32 a) (.int .u32 (no_index (OfNat.ofNat m))) = pure (.bool (decide (a.toNat ≤ m))) := by rw [show Value.int .u32 (OfNat.ofNat m) = Value.int .u32 (m : Int) from rfl, v32, binOp_leq]; congr 2; simp
@[go_sem high] theorem v32_gtr (t : TypeId) (a b : BitVec 32) : binOp .gtr t (v32 a) (v32 b) = pure (.bool (decide (b.toNat < a.toNat))) := by rw [v32, v32, binOp_gtr]; congr 2; simp
@[go_sem high] theorem v32_gtr_l (t : TypeId) (a : BitVec 32) (m : Nat) : binOp .gtr t (v32 a) (.int .u32 (no_index (OfNat.ofNat m))) = pure (.bool (decide (m < a.toNat))) := by rw [show Value.int .u32 (OfNat.ofNat m) = Value.int .u32 (m : Int) from rfl, v32, binOp_gtr]; congr 2; simp
@[go_sem high] theorem v32_geq (t : TypeId) (a b : BitVec 32) : binOp .geq t (v32 a) (v32 b) = pure (.bool (decide (b.toNat ≤ a.toNat))) := by rw [v32, v32, binOp_geq]; congr 2; simp
@[go_sem high] theorem v32_geq_l (t : TypeId) (a : BitVec 32) (m : Nat) : binOp .geq t (v32 a) (.int .u32 (no_index (OfNat.ofNat m))) = pure (.bool (decide (m ≤ a.toNat))) := by rw [show Value.int .u32 (OfNat.ofNat m) = Value.int .u32 (m : Int) from rfl, v32, binOp_geq]; congr 2; simp
@[go_sem high] theorem v32_not (a : BitVec 32) : Op.unary .xor (v32 a) = pure (v32 (~~~a)) := by have e : BitVec.ofInt 32 IntKind.u32.max = BitVec.allOnes 32 := (by decide); have h := v32_xor_r 0 a IntKind.u32.max; rw [e, BitVec.allOnes_xor] at h; exact h
@[go_sem high] theorem v32_neg (a : BitVec 32) : Op.unary .neg (v32 a) = pure (v32 (-a)) := by have e : BitVec.ofInt 32 0 = 0#32 := (by decide); have h := v32_sub_r 0 a 0; rw [e, BitVec.zero_sub] at h; exact h
@[go_sem high] theorem v32_guard (op : BinOp) (t : TypeId) (x y : Operand) (a : BitVec 32) (v : Value) : eqGuard op t x y (v32 a) v = pure () := by unfold eqGuard v32; split <;> rfl
@[go_sem high] theorem v32_cells (a : BitVec 32) : (v32 a).cells = #[v32 a] := rfl
@[go_sem high] theorem v32_one' (a : BitVec 32) : (v32 a).oneCell' = true := rfl
@[go_sem high] theorem v32_cv_int (a : BitVec 32) {P : Program} (w : World) (s d : TypeId) (hs : P.underlying s = some (.int .u32)) (hd : P.underlying d = some (.int .i64)) : (convert s d (v32 a)).run P w = .ok (.int .i64 (a.toNat : Int)) w := by have h := a.isLt; simp [convert, run_underlying hs, run_underlying hd, v32, Conv.intToInt]; exact IntWalk.i64_in _ (by omega)
@[go_sem high] theorem v32_of_int {P : Program} (w : World) (s d : TypeId) (m : Int) (hs : P.underlying s = some (.int .i64)) (hd : P.underlying d = some (.int .u32)) : (convert s d (.int .i64 m)).run P w = .ok (v32 (BitVec.ofInt 32 m)) w := by simp [convert, run_underlying hs, run_underlying hd, v32, Conv.intToInt, wrap_bv .u32 rfl, -BitVec.toNat_ofInt]; rfl
@[go_sem high] theorem v32_store {P : Program} (w : World) (a : Addr) (m : Mode) (n : BitVec 32) : (store a (v32 n) m).run P w = stored P w a (v32 n) m := run_store P w a _ m rfl
@[go_sem high] theorem v32_shl_v8 (t : TypeId) (a : BitVec 32) (b : BitVec 8) : binOp .shl t (v32 a) (v8 b) = pure (v32 (a <<< amt b)) := raw_shl (k := .u32) rfl t .u8 a (b.toNat : Int) (Int.natCast_nonneg _)
@[go_sem high] theorem v32_shr_v8 (t : TypeId) (a : BitVec 32) (b : BitVec 8) : binOp .shr t (v32 a) (v8 b) = pure (v32 (a >>> amt b)) := raw_shr (k := .u32) t .u8 a (b.toNat : Int) (Int.natCast_nonneg _)
@[go_sem high] theorem v32_cv_v8 (a : BitVec 32) {P : Program} (w : World) (s d : TypeId) (hs : P.underlying s = some (.int .u32)) (hd : P.underlying d = some (.int .u8)) : (convert s d (v32 a)).run P w = .ok (v8 (a.setWidth 8)) w := by simp [convert, run_underlying hs, run_underlying hd, v32, v8, Conv.intToInt, wrap_bv .u8 rfl, IntKind.bits]
@[go_sem high] theorem v32_shl_v32 (t : TypeId) (a : BitVec 32) (b : BitVec 32) : binOp .shl t (v32 a) (v32 b) = pure (v32 (a <<< amt b)) := raw_shl (k := .u32) rfl t .u32 a (b.toNat : Int) (Int.natCast_nonneg _)
@[go_sem high] theorem v32_shr_v32 (t : TypeId) (a : BitVec 32) (b : BitVec 32) : binOp .shr t (v32 a) (v32 b) = pure (v32 (a >>> amt b)) := raw_shr (k := .u32) t .u32 a (b.toNat : Int) (Int.natCast_nonneg _)
@[go_sem high] theorem v32_cv_v32 (a : BitVec 32) {P : Program} (w : World) (s d : TypeId) (hs : P.underlying s = some (.int .u32)) (hd : P.underlying d = some (.int .u32)) : (convert s d (v32 a)).run P w = .ok (v32 (a.setWidth 32)) w := by simp [convert, run_underlying hs, run_underlying hd, v32, v32, Conv.intToInt, wrap_bv .u32 rfl, IntKind.bits]
@[go_sem high] theorem v32_shl_v64 (t : TypeId) (a : BitVec 32) (b : BitVec 64) : binOp .shl t (v32 a) (v64 b) = pure (v32 (a <<< amt b)) := raw_shl (k := .u32) rfl t .u64 a (b.toNat : Int) (Int.natCast_nonneg _)
@[go_sem high] theorem v32_shr_v64 (t : TypeId) (a : BitVec 32) (b : BitVec 64) : binOp .shr t (v32 a) (v64 b) = pure (v32 (a >>> amt b)) := raw_shr (k := .u32) t .u64 a (b.toNat : Int) (Int.natCast_nonneg _)
@[go_sem high] theorem v32_cv_v64 (a : BitVec 32) {P : Program} (w : World) (s d : TypeId) (hs : P.underlying s = some (.int .u32)) (hd : P.underlying d = some (.int .u64)) : (convert s d (v32 a)).run P w = .ok (v64 (a.setWidth 64)) w := by simp [convert, run_underlying hs, run_underlying hd, v32, v64, Conv.intToInt, wrap_bv .u64 rfl, IntKind.bits]
@[go_sem high] theorem v64_add (t : TypeId) (a b : BitVec 64) : binOp .add t (v64 a) (v64 b) = pure (v64 (a + b)) := raw_add (k := .u64) rfl t _ _ a b (ofInt_toNat' 64 a) (ofInt_toNat' 64 b)
@[go_sem high] theorem v64_add_l (t : TypeId) (a : BitVec 64) (m : Int) : binOp .add t (v64 a) (.int .u64 m) = pure (v64 (a + (BitVec.ofInt 64 m))) := raw_add (k := .u64) rfl t _ _ a _ (ofInt_toNat' 64 a) rfl
@[go_sem high] theorem v64_add_r (t : TypeId) (b : BitVec 64) (m : Int) : binOp .add t (.int .u64 m) (v64 b) = pure (v64 ((BitVec.ofInt 64 m) + b)) := raw_add (k := .u64) rfl t _ _ _ b rfl (ofInt_toNat' 64 b)
@[go_sem high] theorem v64_sub (t : TypeId) (a b : BitVec 64) : binOp .sub t (v64 a) (v64 b) = pure (v64 (a - b)) := raw_sub (k := .u64) rfl t _ _ a b (ofInt_toNat' 64 a) (ofInt_toNat' 64 b)
@[go_sem high] theorem v64_sub_l (t : TypeId) (a : BitVec 64) (m : Int) : binOp .sub t (v64 a) (.int .u64 m) = pure (v64 (a - (BitVec.ofInt 64 m))) := raw_sub (k := .u64) rfl t _ _ a _ (ofInt_toNat' 64 a) rfl
@[go_sem high] theorem v64_sub_r (t : TypeId) (b : BitVec 64) (m : Int) : binOp .sub t (.int .u64 m) (v64 b) = pure (v64 ((BitVec.ofInt 64 m) - b)) := raw_sub (k := .u64) rfl t _ _ _ b rfl (ofInt_toNat' 64 b)
@[go_sem high] theorem v64_mul (t : TypeId) (a b : BitVec 64) : binOp .mul t (v64 a) (v64 b) = pure (v64 (a * b)) := raw_mul (k := .u64) rfl t _ _ a b (ofInt_toNat' 64 a) (ofInt_toNat' 64 b)
@[go_sem high] theorem v64_mul_l (t : TypeId) (a : BitVec 64) (m : Int) : binOp .mul t (v64 a) (.int .u64 m) = pure (v64 (a * (BitVec.ofInt 64 m))) := raw_mul (k := .u64) rfl t _ _ a _ (ofInt_toNat' 64 a) rfl
@[go_sem high] theorem v64_mul_r (t : TypeId) (b : BitVec 64) (m : Int) : binOp .mul t (.int .u64 m) (v64 b) = pure (v64 ((BitVec.ofInt 64 m) * b)) := raw_mul (k := .u64) rfl t _ _ _ b rfl (ofInt_toNat' 64 b)
@[go_sem high] theorem v64_and (t : TypeId) (a b : BitVec 64) : binOp .and t (v64 a) (v64 b) = pure (v64 (a &&& b)) := raw_and (k := .u64) rfl t _ _ a b (ofInt_toNat' 64 a) (ofInt_toNat' 64 b)
@[go_sem high] theorem v64_and_l (t : TypeId) (a : BitVec 64) (m : Int) : binOp .and t (v64 a) (.int .u64 m) = pure (v64 (a &&& (BitVec.ofInt 64 m))) := raw_and (k := .u64) rfl t _ _ a _ (ofInt_toNat' 64 a) rfl
@[go_sem high] theorem v64_and_r (t : TypeId) (b : BitVec 64) (m : Int) : binOp .and t (.int .u64 m) (v64 b) = pure (v64 ((BitVec.ofInt 64 m) &&& b)) := raw_and (k := .u64) rfl t _ _ _ b rfl (ofInt_toNat' 64 b)
@[go_sem high] theorem v64_or (t : TypeId) (a b : BitVec 64) : binOp .or t (v64 a) (v64 b) = pure (v64 (a ||| b)) := raw_or (k := .u64) rfl t _ _ a b (ofInt_toNat' 64 a) (ofInt_toNat' 64 b)
@[go_sem high] theorem v64_or_l (t : TypeId) (a : BitVec 64) (m : Int) : binOp .or t (v64 a) (.int .u64 m) = pure (v64 (a ||| (BitVec.ofInt 64 m))) := raw_or (k := .u64) rfl t _ _ a _ (ofInt_toNat' 64 a) rfl
@[go_sem high] theorem v64_or_r (t : TypeId) (b : BitVec 64) (m : Int) : binOp .or t (.int .u64 m) (v64 b) = pure (v64 ((BitVec.ofInt 64 m) ||| b)) := raw_or (k := .u64) rfl t _ _ _ b rfl (ofInt_toNat' 64 b)
@[go_sem high] theorem v64_xor (t : TypeId) (a b : BitVec 64) : binOp .xor t (v64 a) (v64 b) = pure (v64 (a ^^^ b)) := raw_xor (k := .u64) rfl t _ _ a b (ofInt_toNat' 64 a) (ofInt_toNat' 64 b)
@[go_sem high] theorem v64_xor_l (t : TypeId) (a : BitVec 64) (m : Int) : binOp .xor t (v64 a) (.int .u64 m) = pure (v64 (a ^^^ (BitVec.ofInt 64 m))) := raw_xor (k := .u64) rfl t _ _ a _ (ofInt_toNat' 64 a) rfl
@[go_sem high] theorem v64_xor_r (t : TypeId) (b : BitVec 64) (m : Int) : binOp .xor t (.int .u64 m) (v64 b) = pure (v64 ((BitVec.ofInt 64 m) ^^^ b)) := raw_xor (k := .u64) rfl t _ _ _ b rfl (ofInt_toNat' 64 b)
@[go_sem high] theorem v64_andNot (t : TypeId) (a b : BitVec 64) : binOp .andNot t (v64 a) (v64 b) = pure (v64 (a &&& ~~~b)) := raw_andNot (k := .u64) rfl t _ _ a b (ofInt_toNat' 64 a) (ofInt_toNat' 64 b)
@[go_sem high] theorem v64_andNot_l (t : TypeId) (a : BitVec 64) (m : Int) : binOp .andNot t (v64 a) (.int .u64 m) = pure (v64 (a &&& ~~~(BitVec.ofInt 64 m))) := raw_andNot (k := .u64) rfl t _ _ a _ (ofInt_toNat' 64 a) rfl
@[go_sem high] theorem v64_andNot_r (t : TypeId) (b : BitVec 64) (m : Int) : binOp .andNot t (.int .u64 m) (v64 b) = pure (v64 ((BitVec.ofInt 64 m) &&& ~~~b)) := raw_andNot (k := .u64) rfl t _ _ _ b rfl (ofInt_toNat' 64 b)
@[go_sem high] theorem v64_shl (t : TypeId) (yk : IntKind) (a : BitVec 64) (m : Int) (hm : 0 ≤ m) : binOp .shl t (v64 a) (.int yk m) = pure (v64 (a <<< m.toNat)) := raw_shl (k := .u64) rfl t yk a m hm
@[go_sem high] theorem v64_shr (t : TypeId) (yk : IntKind) (a : BitVec 64) (m : Int) (hm : 0 ≤ m) : binOp .shr t (v64 a) (.int yk m) = pure (v64 (a >>> m.toNat)) := raw_shr (k := .u64) t yk a m hm
@[go_sem high] theorem v64_eql (t : TypeId) (a b : BitVec 64) : binOp .eql t (v64 a) (v64 b) = pure (.bool (a == b)) := by rw [v64, v64, binOp_eql]; congr 2; rw [Bool.eq_iff_iff, beq_iff_eq, beq_iff_eq, Int.natCast_inj, BitVec.toNat_inj]
@[go_sem high] theorem v64_neq (t : TypeId) (a b : BitVec 64) : binOp .neq t (v64 a) (v64 b) = pure (.bool (a != b)) := by rw [v64, v64, binOp_neq]; congr 2; rw [Bool.eq_iff_iff, bne_iff_ne, bne_iff_ne, Ne, Ne, Int.natCast_inj, BitVec.toNat_inj]
theorem v64_lit (m : Nat) (h : m < 2 ^ 64) : Value.int .u64 (m : Int) = v64 (BitVec.ofNat 64 m) := by rw [v64, BitVec.toNat_ofNat, Nat.mod_eq_of_lt h]
@[go_sem high] theorem v64_eql_l (t : TypeId) (a : BitVec 64) (m : Nat) (h : m < 2 ^ 64) : binOp .eql t (v64 a) (.int .u64 (no_index (OfNat.ofNat m))) = pure (.bool (a == BitVec.ofNat 64 m)) := by rw [← v64_eql t a, ← v64_lit m h]; rfl
@[go_sem high] theorem v64_neq_l (t : TypeId) (a : BitVec 64) (m : Nat) (h : m < 2 ^ 64) : binOp .neq t (v64 a) (.int .u64 (no_index (OfNat.ofNat m))) = pure (.bool (a != BitVec.ofNat 64 m)) := by rw [← v64_neq t a, ← v64_lit m h]; rfl
@[go_sem high] theorem v64_lss (t : TypeId) (a b : BitVec 64) : binOp .lss t (v64 a) (v64 b) = pure (.bool (decide (a.toNat < b.toNat))) := by rw [v64, v64, binOp_lss]; congr 2; simp
@[go_sem high] theorem v64_lss_l (t : TypeId) (a : BitVec 64) (m : Nat) : binOp .lss t (v64 a) (.int .u64 (no_index (OfNat.ofNat m))) = pure (.bool (decide (a.toNat < m))) := by rw [show Value.int .u64 (OfNat.ofNat m) = Value.int .u64 (m : Int) from rfl, v64, binOp_lss]; congr 2; simp
@[go_sem high] theorem v64_leq (t : TypeId) (a b : BitVec 64) : binOp .leq t (v64 a) (v64 b) = pure (.bool (decide (a.toNat ≤ b.toNat))) := by rw [v64, v64, binOp_leq]; congr 2; simp
@[go_sem high] theorem v64_leq_l (t : TypeId) (a : BitVec 64) (m : Nat) : binOp .leq t (v64 a) (.int .u64 (no_index (OfNat.ofNat m))) = pure (.bool (decide (a.toNat ≤ m))) := by rw [show Value.int .u64 (OfNat.ofNat m) = Value.int .u64 (m : Int) from rfl, v64, binOp_leq]; congr 2; simp
@[go_sem high] theorem v64_gtr (t : TypeId) (a b : BitVec 64) : binOp .gtr t (v64 a) (v64 b) = pure (.bool (decide (b.toNat < a.toNat))) := by rw [v64, v64, binOp_gtr]; congr 2; simp
@[go_sem high] theorem v64_gtr_l (t : TypeId) (a : BitVec 64) (m : Nat) : binOp .gtr t (v64 a) (.int .u64 (no_index (OfNat.ofNat m))) = pure (.bool (decide (m < a.toNat))) := by rw [show Value.int .u64 (OfNat.ofNat m) = Value.int .u64 (m : Int) from rfl, v64, binOp_gtr]; congr 2; simp
@[go_sem high] theorem v64_geq (t : TypeId) (a b : BitVec 64) : binOp .geq t (v64 a) (v64 b) = pure (.bool (decide (b.toNat ≤ a.toNat))) := by rw [v64, v64, binOp_geq]; congr 2; simp
@[go_sem high] theorem v64_geq_l (t : TypeId) (a : BitVec 64) (m : Nat) : binOp .geq t (v64 a) (.int .u64 (no_index (OfNat.ofNat m))) = pure (.bool (decide (m ≤ a.toNat))) := by rw [show Value.int .u64 (OfNat.ofNat m) = Value.int .u64 (m : Int) from rfl, v64, binOp_geq]; congr 2; simp
@[go_sem high] theorem v64_not (a : BitVec 64) : Op.unary .xor (v64 a) = pure (v64 (~~~a)) := by have e : BitVec.ofInt 64 IntKind.u64.max = BitVec.allOnes 64 := (by decide); have h := v64_xor_r 0 a IntKind.u64.max; rw [e, BitVec.allOnes_xor] at h; exact h
@[go_sem high] theorem v64_neg (a : BitVec 64) : Op.unary .neg (v64 a) = pure (v64 (-a)) := by have e : BitVec.ofInt 64 0 = 0#64 := (by decide); have h := v64_sub_r 0 a 0; rw [e, BitVec.zero_sub] at h; exact h
@[go_sem high] theorem v64_guard (op : BinOp) (t : TypeId) (x y : Operand) (a : BitVec 64) (v : Value) : eqGuard op t x y (v64 a) v = pure () := by unfold eqGuard v64; split <;> rfl
@[go_sem high] theorem v64_cells (a : BitVec 64) : (v64 a).cells = #[v64 a] := rfl
@[go_sem high] theorem v64_one' (a : BitVec 64) : (v64 a).oneCell' = true := rfl
@[go_sem high] theorem v64_cv_int (a : BitVec 64) {P : Program} (w : World) (s d : TypeId) (hs : P.underlying s = some (.int .u64)) (hd : P.underlying d = some (.int .i64)) : (convert s d (v64 a)).run P w = .ok (.int .i64 (IntKind.i64.wrap (a.toNat : Int))) w := by simp [convert, run_underlying hs, run_underlying hd, v64, Conv.intToInt]
@[go_sem high] theorem v64_of_int {P : Program} (w : World) (s d : TypeId) (m : Int) (hs : P.underlying s = some (.int .i64)) (hd : P.underlying d = some (.int .u64)) : (convert s d (.int .i64 m)).run P w = .ok (v64 (BitVec.ofInt 64 m)) w := by simp [convert, run_underlying hs, run_underlying hd, v64, Conv.intToInt, wrap_bv .u64 rfl, -BitVec.toNat_ofInt]; rfl
@[go_sem high] theorem v64_store {P : Program} (w : World) (a : Addr) (m : Mode) (n : BitVec 64) : (store a (v64 n) m).run P w = stored P w a (v64 n) m := run_store P w a _ m rfl
@[go_sem high] theorem v64_shl_v8 (t : TypeId) (a : BitVec 64) (b : BitVec 8) : binOp .shl t (v64 a) (v8 b) = pure (v64 (a <<< amt b)) := raw_shl (k := .u64) rfl t .u8 a (b.toNat : Int) (Int.natCast_nonneg _)
@[go_sem high] theorem v64_shr_v8 (t : TypeId) (a : BitVec 64) (b : BitVec 8) : binOp .shr t (v64 a) (v8 b) = pure (v64 (a >>> amt b)) := raw_shr (k := .u64) t .u8 a (b.toNat : Int) (Int.natCast_nonneg _)
@[go_sem high] theorem v64_cv_v8 (a : BitVec 64) {P : Program} (w : World) (s d : TypeId) (hs : P.underlying s = some (.int .u64)) (hd : P.underlying d = some (.int .u8)) : (convert s d (v64 a)).run P w = .ok (v8 (a.setWidth 8)) w := by simp [convert, run_underlying hs, run_underlying hd, v64, v8, Conv.intToInt, wrap_bv .u8 rfl, IntKind.bits]
@[go_sem high] theorem v64_shl_v32 (t : TypeId) (a : BitVec 64) (b : BitVec 32) : binOp .shl t (v64 a) (v32 b) = pure (v64 (a <<< amt b)) := raw_shl (k := .u64) rfl t .u32 a (b.toNat : Int) (Int.natCast_nonneg _)
@[go_sem high] theorem v64_shr_v32 (t : TypeId) (a : BitVec 64) (b : BitVec 32) : binOp .shr t (v64 a) (v32 b) = pure (v64 (a >>> amt b)) := raw_shr (k := .u64) t .u32 a (b.toNat : Int) (Int.natCast_nonneg _)
@[go_sem high] theorem v64_cv_v32 (a : BitVec 64) {P : Program} (w : World) (s d : TypeId) (hs : P.underlying s = some (.int .u64)) (hd : P.underlying d = some (.int .u32)) : (convert s d (v64 a)).run P w = .ok (v32 (a.setWidth 32)) w := by simp [convert, run_underlying hs, run_underlying hd, v64, v32, Conv.intToInt, wrap_bv .u32 rfl, IntKind.bits]
@[go_sem high] theorem v64_shl_v64 (t : TypeId) (a : BitVec 64) (b : BitVec 64) : binOp .shl t (v64 a) (v64 b) = pure (v64 (a <<< amt b)) := raw_shl (k := .u64) rfl t .u64 a (b.toNat : Int) (Int.natCast_nonneg _)
@[go_sem high] theorem v64_shr_v64 (t : TypeId) (a : BitVec 64) (b : BitVec 64) : binOp .shr t (v64 a) (v64 b) = pure (v64 (a >>> amt b)) := raw_shr (k := .u64) t .u64 a (b.toNat : Int) (Int.natCast_nonneg _)
@[go_sem high] theorem v64_cv_v64 (a : BitVec 64) {P : Program} (w : World) (s d : TypeId) (hs : P.underlying s = some (.int .u64)) (hd : P.underlying d = some (.int .u64)) : (convert s d (v64 a)).run P w = .ok (v64 (a.setWidth 64)) w := by simp [convert, run_underlying hs, run_underlying hd, v64, v64, Conv.intToInt, wrap_bv .u64 rfl, IntKind.bits]

theorem results_tmp4 {fn : Func} {t u v x : Tmp} (h : fn.results = #[.tmp t, .tmp u, .tmp v, .tmp x]) (tmps : Array Value) (P : Program) (w : World) :
    (results fn tmps).run P w = .ok (.tuple #[tmps.getD t undef, tmps.getD u undef, tmps.getD v undef, tmps.getD x undef]) w := by
  simp [results, h]

end Go.Proofs.Ythogbbigglmapaa
