/- octet by definition: Number -/
import Derived.Test.YtfdkmjegcghieaaGreatDoorMGc
import Derived.Test.YtfdkmjegcghieaaGreatDoorMRefPut
namespace Go.Proofs.YtfdkmjegcghieaaGreatDoor
open Lib (hid)
set_option linter.unusedSimpArgs false
set_option maxRecDepth 100000
set_option maxHeartbeats 1600000
open Go.RowKit
def numTo (l : List (BitVec 8)) (p : Nat) : Nat → BitVec 64
 | 0 => 0#64
 | j + 1 => numTo l p j * 256#64 + (nth l (p + (3 - j))).setWidth 64
theorem numTo_word (l : List (BitVec 8)) (p : Nat) : (numTo l p 4).setWidth 32 = word l p := by
 have h := le32_word l p
 have e : ∀ x : BitVec 32, x.toNat = ((nth (le32 x) 3).toNat * 256 + (nth (le32 x) 2).toNat) * 65536 + (nth (le32 x) 1).toNat * 256 + (nth (le32 x) 0).toNat := by
  intro x
  simp only [le32, nth, List.getD_eq_getElem?_getD]
  simp [Nat.shiftRight_eq_div_pow]
  have := x.isLt
  omega
 apply BitVec.eq_of_toNat_eq
 rw [e (word l p), h]
 simp only [numTo, nth, List.getD_eq_getElem?_getD]
 generalize ((l[p + (3 - 0)]?).getD 0) = d
 generalize ((l[p + (3 - 1)]?).getD 0) = c
 generalize ((l[p + (3 - 2)]?).getD 0) = b
 generalize ((l[p + (3 - 3)]?).getD 0) = a
 have ha := a.isLt
 have hb := b.isLt
 have hc := c.isLt
 have hd := d.isLt
 simp
 omega
theorem refNumber4_any (l : List (BitVec 8)) (a : Option Addr) (n c p : Nat) (w : World) (hr : Rd8 w a n c l) (hp : p ≤ 1000000000) :
  Calls Tryz.prog 164 #[.slice a n c, .int .i64 p, .int .i64 4] w fun e w' => e = .returned (v64 (numTo l p 4)) ∧ w = w' := by
 have LL := hid hr
 clear hr
 go_enter Tryz.func164, Tryz.ntmps164
 go_wp2_with fail
 go_loopw [7, 8] (fun y i wr => ∃ j : Nat, j ≤ 4 ∧ i = .int .i64 (3 - (j : Int)) ∧ y = v64 (numTo l p j) ∧ w = wr) (fun _ i _ => (intOf i + 1).toNat)
 case atStart => exact ⟨0, Nat.zero_le _, rfl, rfl, rfl⟩
 case round =>
  obtain ⟨j, hj, rfl, rfl, rfl⟩ := hrel
  obtain ⟨V, hV⟩ : ∃ V, V = numTo l p j := ⟨_, rfl⟩
  rw [← hV]
  have HV := hid hV
  clear hV
  by_cases hj4 : j < 4
  ·obtain ⟨q, hq⟩ : ∃ q, q = 3 - j := ⟨_, rfl⟩
   have f1 : (3 : Int) - (j : Int) = (q : Int) := by omega
   have f2 : (0 : Int) ≤ (q : Int) := by omega
   have HQ := hid hq
   clear hq
   rw [f1]
   obtain ⟨Q1, hQ1⟩ : ∃ z : Int, (q : Int) - 1 = z := ⟨_, rfl⟩
   have f5 : IntKind.i64.wrap Q1 = Q1 := by rw [IntKind.wrap_i64]; omega
   have HF := hid f1
   clear f1
   go_wp2_with fail
   refine (at_any l a n c p q w LL.out hp (by have := HQ.out; omega)).mono ?_
   rintro e w1 ⟨rfl, rfl⟩
   go_wp2
   have f1 := HF.out
   have e5 : Q1 = 3 - ((j + 1 : Nat) : Int) := by omega
   exact ⟨⟨j + 1, by omega, by rw [e5], by rw [numTo, ← HV.out, ← HQ.out], trivial⟩, by simp [intOf]; omega⟩
  ·obtain rfl : j = 4 := by omega
   have g1 : (3 : Int) - ((4 : Nat) : Int) = -1 := by omega
   rw [g1]
   clear g1
   go_wp2
   go_ret
   rw [HV.out]
   exact ⟨rfl, rfl⟩
end Go.Proofs.YtfdkmjegcghieaaGreatDoor
