/- What chacha.step, chacha.Quarter make of numbers. -/
import Derived.Test.YthogbbigglmapaaRot
namespace Go.Proofs.Ythogbbigglmapaa
open Go.RowKit
def qstep (a b d : BitVec 32) (k : Nat) : BitVec 32 × BitVec 32 := (a + b, rotl32 (d ^^^ (a + b)) k)
theorem step_any (a b d : BitVec 32) (k : Int) (w : World) (h0 : 0 ≤ k) (h1 : k < 32) :
    Calls Try.prog 47 #[v32 a, v32 b, v32 d, .int .i64 k] w fun e w' => e = .returned (.tuple #[v32 (qstep a b d k.toNat).1, v32 (qstep a b d k.toNat).2]) ∧ w = w' := by
  go_enter Try.func47, Try.ntmps47
  go_wp2_with (go_at_call 59; refine (rot32_any _ _ _ h0 h1).mono ?_; rintro e w' ⟨rfl, rfl⟩)
  go_ret2
  exact ⟨rfl, rfl⟩
/-- four numbers behind a quarter -/
def quarter (a b c d : BitVec 32) : BitVec 32 × BitVec 32 × BitVec 32 × BitVec 32 :=
  let a1 := a + b
  let d1 := rotl32 (d ^^^ a1) 16
  let c1 := c + d1
  let b1 := rotl32 (b ^^^ c1) 12
  let a2 := a1 + b1
  let d2 := rotl32 (d1 ^^^ a2) 8
  let c2 := c1 + d2
  let b2 := rotl32 (b1 ^^^ c2) 7
  (a2, b2, c2, d2)
theorem quarter_any (a b c d : BitVec 32) (w : World) :
    Calls Try.prog 28 #[v32 a, v32 b, v32 c, v32 d] w fun e w' => e = .returned (.tuple #[v32 (quarter a b c d).1, v32 (quarter a b c d).2.1, v32 (quarter a b c d).2.2.1, v32 (quarter a b c d).2.2.2]) ∧ w = w' := by
  go_enter Try.func28, Try.ntmps28
  go_wp2_with (go_at_call 47; refine (step_any _ _ _ _ _ (by omega) (by omega)).mono ?_; rintro e w' ⟨rfl, rfl⟩)
  refine bodyPost_ret (results_tmp4 rfl _ _ _) rfl ?_
  exact ⟨rfl, rfl⟩
end Go.Proofs.Ythogbbigglmapaa
