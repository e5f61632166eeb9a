/- What math/bits.RotateLeft32 makes of a number, turned by 0 to 31. -/
import Derived.Test.YthogbbigglmapaaRows
import Derived.Test.YthogbbigglmapaaBase
namespace Go.Proofs.Ythogbbigglmapaa
open Go.RowKit
theorem amt_and31 (k : Int) (h0 : 0 ≤ k) (h1 : k < 32) : amt (BitVec.ofInt 64 k &&& 31#64) = k.toNat := by
  obtain ⟨m, rfl⟩ := Int.eq_ofNat_of_zero_le h0
  have hm : m < 32 := by omega
  unfold amt
  rw [BitVec.ofInt_natCast, Int.toNat_natCast]
  have : ∀ i : Fin 32, (BitVec.ofNat 64 i.1 &&& 31#64).toNat = i.1 := by decide
  exact this ⟨m, hm⟩
theorem amt_sub32 (k : Int) (h0 : 0 ≤ k) (h1 : k < 32) : amt (32#64 - (BitVec.ofInt 64 k &&& 31#64)) = 32 - k.toNat := by
  obtain ⟨m, rfl⟩ := Int.eq_ofNat_of_zero_le h0
  have hm : m < 32 := by omega
  unfold amt
  rw [BitVec.ofInt_natCast, Int.toNat_natCast]
  have : ∀ i : Fin 32, (32#64 - (BitVec.ofNat 64 i.1 &&& 31#64)).toNat = 32 - i.1 := by decide
  exact this ⟨m, hm⟩
/-- a number of 32 bits, turned to the left -/
def rotl32 (x : BitVec 32) (k : Nat) : BitVec 32 := x <<< k ||| x >>> (32 - k)
theorem rot32_any (x : BitVec 32) (k : Int) (w : World) (h0 : 0 ≤ k) (h1 : k < 32) :
    Calls Try.prog 59 #[v32 x, .int .i64 k] w fun e w' => e = .returned (v32 (rotl32 x k.toNat)) ∧ w = w' := by
  go_enter Try.func59, Try.ntmps59
  go_wp2
  go_ret
  refine ⟨?_, rfl⟩
  show Ending.returned (v32 (x <<< amt (BitVec.ofInt 64 k &&& 31#64) ||| x >>> amt (32#64 - (BitVec.ofInt 64 k &&& 31#64)))) = _
  rw [amt_and31 k h0 h1, amt_sub32 k h0 h1]; rfl
end Go.Proofs.Ythogbbigglmapaa
