/- octet by definition: Put -/
import Derived.Test.YtfdkmjegcghieaaGreatDoorMIj
import Derived.Test.YtfdkmjegcghieaaGreatDoorMGb
import Derived.Test.YtfdkmjegcghieaaGreatDoorMGo
namespace Go.Proofs.YtfdkmjegcghieaaGreatDoor
open Lib (hid)
set_option linter.unusedSimpArgs false
set_option maxRecDepth 100000
set_option maxHeartbeats 1600000
open Go.RowKit
@[go_sem high] theorem v64_rem256 (t : TypeId) (a : BitVec 64) : binOp .rem t (v64 a) (.int .u64 256) = pure (v64 (a % 256#64)) := by
 simp [v64, binOp, Op.intDiv, Int.tmod_eq_emod_of_nonneg]
@[go_sem high] theorem v64_quo256 (t : TypeId) (a : BitVec 64) : binOp .quo t (v64 a) (.int .u64 256) = pure (v64 (a / 256#64)) := by
 have h := a.isLt
 have e : IntKind.u64.wrap ((a.toNat / 256 : Nat) : Int) = ((a.toNat / 256 : Nat) : Int) := by
  rw [wrap_bv .u64 rfl, BitVec.ofInt_natCast]
  show (((BitVec.ofNat 64 (a.toNat / 256)).toNat : Nat) : Int) = _
  rw [BitVec.toNat_ofNat, Nat.mod_eq_of_lt (by omega)]
 simp only [v64, binOp, Op.intDiv]
 rw [Int.tdiv_eq_ediv_of_nonneg (by omega), show ((a.toNat : Int) / 256) = ((a.toNat / 256 : Nat) : Int) by omega, e]
 simp
def putR (x : BitVec 64) (m : Nat) : List (BitVec 8) := (List.range m).map fun i => (x >>> (8 * i)).setWidth 8
theorem putR_length (x : BitVec 64) (m : Nat) : (putR x m).length = m := by simp [putR]
theorem putR_succ (x : BitVec 64) (m : Nat) : putR x m ++ [(x >>> (8 * m)).setWidth 8] = putR x (m + 1) := by simp [putR, List.range_succ]
theorem rem_byte (x : BitVec 64) : (x % 256#64).setWidth 8 = x.setWidth 8 := by
 apply BitVec.eq_of_toNat_eq
 simp
theorem quo_byte (x : BitVec 64) (j : Nat) : (x >>> (8 * j)) / 256#64 = x >>> (8 * (j + 1)) := by
 apply BitVec.eq_of_toNat_eq
 rw [BitVec.toNat_udiv, BitVec.toNat_ushiftRight, BitVec.toNat_ushiftRight, Nat.shiftRight_eq_div_pow, Nat.shiftRight_eq_div_pow, show 8 * (j + 1) = 8 * j + 8 by omega, Nat.pow_add, ← Nat.div_div_eq_div_mul]
 rfl
theorem refPut_any (x : BitVec 64) (m : Nat) (w : World) (hm : m ≤ 8) :
  Calls Tryz.prog 86 #[v64 x, .int .i64 m] w fun e w' => ∃ v, e = .returned v ∧ Own8 w' w.heap.size 5 v (putR x m) ∧ Below w.heap.size w w' := by
 go_enter Tryz.func86, Tryz.ntmps86
 go_wp2_with fail
 go_loopw [0, 5, 6] (fun y v i wr => ∃ j : Nat, j ≤ m ∧ i = .int .i64 j ∧ y = v64 (x >>> (8 * j)) ∧ Own8 wr w.heap.size 5 v (putR x j) ∧ Below w.heap.size w wr) (fun _ _ i _ => m - (intOf i).toNat)
 case atStart => exact ⟨0, Nat.zero_le _, rfl, by simp, Own8.nil_ _ _ _, Below.refl _ _⟩
 case round =>
  obtain ⟨j, hj, rfl, rfl, hO, hB⟩ := hrel
  have O1 := hid hO
  have B1 := hid hB
  clear hO hB
  by_cases hjm : j < m
  ·have j1 : (j : Int) < (m : Int) := by omega
   obtain ⟨y, hy⟩ : ∃ y, y = x >>> (8 * j) := ⟨_, rfl⟩
   rw [← hy]
   have HY := hid hy
   clear hy
   go_upto_region 5 with fail
   refine wp_region_plain [0,0,0,0,2,2,0] rfl (fun ops' K2 hK2 => ?_)
   repeat
    (first
     | (with_reducible refine z_move (a' := ?_) ?_ ?_); rotate_left
     | (with_reducible refine z_assign (a' := ?_) ?_ ?_); rotate_left
     | (with_reducible refine z_obl (v := ?_) (a' := ?_) rfl (fun _ => ?_) ?_ ?_); rotate_left 2; (focus (go_simp; (try go_bits); exact rfl))
     | (with_reducible refine z_read (v := ?_) (a' := ?_) rfl ?_ ?_ ?_); rotate_left 2; (focus (go_simp; (try go_bits); exact rfl)))
    focus (simp only [Act.put, zz1, zz2, zz3, Act.eval, zz4, zz5, zz6, zz7, zz8]; exact rfl)
   refine z_build1 (x := (y % 256#64).setWidth 8) rfl Tryz.underlying23 info8 (fun w2 b2 hr2 hb2 => ?_)
   simp only [Act.put, zz1, zz2, zz3]
   refine z_append8 (O1.out.below hb2) hr2 rfl rfl Tryz.underlying23 info8 (by rw [putR_length]; omega) (Nat.le_trans B1.out.size hb2.size) (fun w3 v3 o3 g3 b3 => ?_)
   simp only [Act.put, zz1, zz2, zz3]
   repeat
    (first
     | (with_reducible refine z_move (a' := ?_) ?_ ?_); rotate_left
     | (with_reducible refine z_assign (a' := ?_) ?_ ?_); rotate_left
     | (with_reducible refine z_obl (v := ?_) (a' := ?_) rfl (fun _ => ?_) ?_ ?_); rotate_left 2; (focus (go_simp; (try go_bits); exact rfl))
     | (with_reducible refine z_read (v := ?_) (a' := ?_) rfl ?_ ?_ ?_); rotate_left 2; (focus (go_simp; (try go_bits); exact rfl)))
    focus (simp only [Act.put, zz1, zz2, zz3, Act.eval, zz4, zz5, zz6, zz7, zz8]; exact rfl)
   refine z_nil (hK2 _ _ ?_)
   rw [rem_byte, HY.out, putR_succ] at o3
   have O3 := hid o3
   have B3 := hid ((B1.out.trans (hb2.mono B1.out.size)).trans b3)
   clear o3 g3 b3 hb2 hr2 hK2
   go_wp2
   exact ⟨⟨j + 1, by omega, by go_num, by rw [HY.out, quo_byte], O3.out, B3.out⟩, by simp [intOf]; omega⟩
  ·obtain rfl : j = m := by omega
   have j1 : ¬ (j : Int) < (j : Int) := by omega
   clear j1
   go_wp2
   go_ret
   exact ⟨_, rfl, O1.out, B1.out⟩
end Go.Proofs.YtfdkmjegcghieaaGreatDoor
