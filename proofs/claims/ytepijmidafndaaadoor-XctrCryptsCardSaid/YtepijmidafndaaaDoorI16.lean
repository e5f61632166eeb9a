/- numbers of 16 bits as the model's ints. No program in sight. -/
import Derived.Test.YtepijmidafndaaaDoorGa
namespace Go.Proofs.YtepijmidafndaaaDoor
open Go.RowKit
def i16 (x : BitVec 16) : Value := .int .i64 (x.toNat : Int)
theorem ofInt64_16 (a : BitVec 16) : BitVec.ofInt 64 (a.toNat : Int) = a.setWidth 64 := by
  rw [BitVec.ofInt_natCast]; apply BitVec.eq_of_toNat_eq; simp
@[go_sem high] theorem i16_xor (t : TypeId) (a b : BitVec 16) : binOp .xor t (i16 a) (i16 b) = pure (i16 (a ^^^ b)) := by
  simp only [i16, binOp_xor, Op.intBits]
  have h := (a ^^^ b).isLt
  have e : (BitVec.ofInt IntKind.i64.bits (a.toNat : Int) ^^^ BitVec.ofInt IntKind.i64.bits (b.toNat : Int)).toNat = (a ^^^ b).toNat := by
    show (BitVec.ofInt 64 (a.toNat : Int) ^^^ BitVec.ofInt 64 (b.toNat : Int)).toNat = _
    rw [ofInt64_16, ofInt64_16, ← BitVec.setWidth_xor, BitVec.toNat_setWidth]; omega
  rw [e, IntWalk.i64_in _ (by omega)]
@[go_sem high] theorem i16_shl (t : TypeId) (yk : IntKind) (a : BitVec 8) (m : Nat) (hm : m ≤ 8) : binOp .shl t (.int .i64 (a.toNat : Int)) (.int yk (m : Int)) = pure (i16 (a.setWidth 16 <<< m)) := by
  have h := a.isLt
  have e : (a.setWidth 16 <<< m).toNat = a.toNat * 2 ^ m := by
    have h1 : 2 ^ m ≤ 2 ^ 8 := Nat.pow_le_pow_right (by omega) hm
    have h2 : a.toNat * 2 ^ m ≤ 255 * 2 ^ 8 := Nat.mul_le_mul (by omega) h1
    rw [BitVec.toNat_shiftLeft, BitVec.toNat_setWidth, Nat.shiftLeft_eq, Nat.mod_eq_of_lt (show a.toNat < 2 ^ 16 by omega), Nat.mod_eq_of_lt (by omega)]
  have h1 : 2 ^ m ≤ 2 ^ 8 := Nat.pow_le_pow_right (by omega) hm
  have h2 : a.toNat * 2 ^ m ≤ 255 * 2 ^ 8 := Nat.mul_le_mul (by omega) h1
  simp only [i16, binOp, Op.shift, if_neg (show ¬ (m : Int) < 0 by omega), Int.toNat_natCast]
  rw [e, Nat.min_eq_left (show m ≤ IntKind.i64.bits by show m ≤ 64; omega), show ((a.toNat : Int) * 2 ^ m) = ((a.toNat * 2 ^ m : Nat) : Int) by simp, IntWalk.i64_in _ (by omega)]
@[go_sem high] theorem lit_shl (t : TypeId) (yk : IntKind) (m : Nat) (hm : m ≤ 6) : binOp .shl t (.int .i64 283) (.int yk (m : Int)) = pure (i16 (283#16 <<< m)) := by
  have : m = 0 ∨ m = 1 ∨ m = 2 ∨ m = 3 ∨ m = 4 ∨ m = 5 ∨ m = 6 := by omega
  rcases this with rfl | rfl | rfl | rfl | rfl | rfl | rfl <;> rfl
@[go_sem high] theorem i16_shr (t : TypeId) (yk : IntKind) (a : BitVec 16) (m : Nat) (hm : m ≤ 64) : binOp .shr t (i16 a) (.int yk (m : Int)) = pure (i16 (a >>> m)) := by
  simp only [i16, binOp, Op.shift, if_neg (show ¬ (m : Int) < 0 by omega), Int.toNat_natCast]
  rw [BitVec.toNat_ushiftRight, Nat.shiftRight_eq_div_pow, Int.fdiv_eq_ediv_of_nonneg _ (by exact_mod_cast Nat.zero_le _), Nat.min_eq_left (show m ≤ IntKind.i64.bits from hm)]
  show pure (Value.int .i64 _) = _
  congr 2
@[go_sem high] theorem i16_rem2 (t : TypeId) (a : BitVec 16) : binOp .rem t (i16 a) (.int .i64 2) = pure (i16 (a % 2#16)) := by
  simp [i16, binOp, Op.intDiv, Int.tmod_eq_emod_of_nonneg]
@[go_sem high] theorem i16_eql1 (t : TypeId) (a : BitVec 16) : binOp .eql t (i16 a) (.int .i64 1) = pure (.bool (a == 1#16)) := by
  rw [i16, binOp_eql]; congr 2; rw [Bool.eq_iff_iff, beq_iff_eq, beq_iff_eq]
  constructor
  · intro h; apply BitVec.eq_of_toNat_eq; simp at h ⊢; omega
  · intro h; subst h; rfl
@[go_sem high] theorem i16_guard (op : BinOp) (t : TypeId) (x y : Operand) (a : BitVec 16) (v : Value) : eqGuard op t x y (i16 a) v = pure () := by unfold eqGuard i16; split <;> rfl
@[go_sem high] theorem i16_cells (a : BitVec 16) : (i16 a).cells = #[i16 a] := rfl
@[go_sem high] theorem i16_one' (a : BitVec 16) : (i16 a).oneCell' = true := rfl
theorem i16_zero : Value.int .i64 0 = i16 0#16 := rfl
@[go_sem high] theorem i16_cv8 (x : BitVec 16) {P : Program} (w : World) (s d : TypeId) (hs : P.underlying s = some (.int .i64)) (hd : P.underlying d = some (.int .u8)) : (convert s d (i16 x)).run P w = .ok (v8 (x.setWidth 8)) w := by
  rw [i16, v8_of_int w s d _ hs hd, BitVec.ofInt_natCast]
  congr 2
end Go.Proofs.YtepijmidafndaaaDoor
