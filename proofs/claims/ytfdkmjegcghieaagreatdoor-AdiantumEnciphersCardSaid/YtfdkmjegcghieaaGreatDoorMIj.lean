/- a slice literal of one byte -/
import Derived.Test.YtfdkmjegcghieaaGreatDoorMGb
import Derived.Test.YtfdkmjegcghieaaGreatDoorMGs
namespace Go.Proofs.YtfdkmjegcghieaaGreatDoor
open Lib (hid)
set_option linter.unusedSimpArgs false
set_option maxRecDepth 100000
set_option maxHeartbeats 1600000
open Go.RowKit
section
variable {P : Program}
theorem run_build1 (w : World) (t e : TypeId) (x : BitVec 8) (hu : P.underlying t = some (.slice e)) (hi : (P.info? e).map (fun i => (i.zero, i.size, i.bytes)) = some (some (.int .u8 0), 1, 1)) :
  (Instr.buildSlice t 1 #[(0, v8 x)]).run P w = .ok (.slice (some ⟨w.heap.size, 0, none⟩) 1 1) (w.alloc (.cells (A8 [x]) e)) := by
 obtain ⟨i, hi, hz, hs, _⟩ := info_parts hi
 have hc : (v8 x).cells = #[v8 x] := rfl
 simp [Instr.buildSlice, run_underlying hu, sizeOf, typeInfo, hi, hs, newRow, Instr.fill, zeroValue, hz, hc, A8]
 congr 2
 rw [show Array.range 1 = #[0] from rfl]
 simp
theorem z_build1 {ops : Array Oper} {K : Act → World → Prop} {ks : List Nat} {l : List Oper} {a : Act} {w : World} {d : Option Tmp} {y : Operand} {t ty e : TypeId} {pos : String} {after : Array Edge} {x : BitVec 8} (hy : a.eval y = v8 x) (ht : P.underlying t = some (.slice e)) (hi : (P.info? e).map (fun i => (i.zero, i.size, i.bytes)) = some (some (.int .u8 0), 1, 1))
  (h : ∀ w1 b, Rd8 w1 (some ⟨b, 0, none⟩) 1 1 [x] → Below w.heap.size w w1 → wpZ P ops K ks l (a.put d (.slice (some ⟨b, 0, none⟩) 1 1)) w1) :
  wpZ P ops K (2 :: ks) (⟨d, .buildSlice t 1 #[(0, y)], ty, pos, after, none⟩ :: l) a w := by
 unfold wpZ opT
 simp only [Region.wanted, if_true]
 have hr : (execOp a.eval ⟨d, .buildSlice t 1 #[(0, y)], ty, pos, after, none⟩).run P w = .ok (.value (.slice (some ⟨w.heap.size, 0, none⟩) 1 1)) (w.alloc (.cells (A8 [x]) e)) := by
  simp only [execOp, List.map_toArray, List.map_cons, List.map_nil, hy, Sem.run_bind, run_build1 w t e x ht hi, Result.andThen_ok, Sem.run_pure]
 unfold Oper.wp
 rw [hr]
 have hb := (Blk.new w e (A8 [x])).rd8 1 (by simp) (by simp [maxLen])
 exact h _ _ hb ((Below.refl _ _).alloc (Nat.le_refl _) _)
end
open Go.RowKit
theorem at_any (l : List (BitVec 8)) (a : Option Addr) (n c p q : Nat) (w : World) (hr : Rd8 w a n c l) (hp : p ≤ 1000000000) (hq : q ≤ 1000000000) :
  Calls Tryz.prog 71 #[.slice a n c, .int .i64 p, .int .i64 q] w fun e w' => e = .returned (v8 (nth l (p + q))) ∧ w = w' := by
 have hl := hr.1
 have f1 : IntKind.i64.wrap (-(q : Int)) = -(q : Int) := by rw [IntKind.wrap_i64]; omega
 have f2 : ¬ (p : Int) < -(q : Int) := by omega
 obtain ⟨s, hs⟩ : ∃ s, s = p + q := ⟨_, rfl⟩
 have f3 : (p : Int) + (q : Int) = (s : Int) := by omega
 have f4 : IntKind.i64.wrap (s : Int) = (s : Int) := by rw [IntKind.wrap_i64]; omega
 rw [← hs]
 by_cases hpn : n ≤ p
 ·have g1 : (n : Int) ≤ (p : Int) := by omega
  have hv : nth l s = 0#8 := nth_over l s (by omega)
  rw [hv]
  clear hs hl hv
  go_enter Tryz.func71, Tryz.ntmps71
  go_wp2
  go_ret
  exact ⟨rfl, rfl⟩
 ·have g1 : ¬ (n : Int) ≤ (p : Int) := by omega
  by_cases hsn : n ≤ s
  ·have g2 : (n : Int) ≤ (s : Int) := by omega
   have hv : nth l s = 0#8 := nth_over l s (by omega)
   rw [hv]
   clear hs hl hv
   go_enter Tryz.func71, Tryz.ntmps71
   go_wp2
   go_ret
   exact ⟨rfl, rfl⟩
  ·have g2 : ¬ (n : Int) ≤ (s : Int) := by omega
   have g3 : (s : Int) < (n : Int) := by omega
   have g4 : (0 : Int) ≤ (s : Int) := by omega
   obtain ⟨b, o, rfl, hb, hc⟩ := hr.2.2.2 (by omega)
   have c0 := hc s (by omega)
   clear hs hl hc
   go_enter Tryz.func71, Tryz.ntmps71
   go_wp2
   go_ret
   exact ⟨rfl, rfl⟩
def blkTo (l : List (BitVec 8)) (j : Nat) : List (BitVec 8) := (List.range 16).map fun i => if i < j then nth l i else 0
theorem blkTo_length (l : List (BitVec 8)) (j : Nat) : (blkTo l j).length = 16 := by simp [blkTo]
theorem nth_blkTo (l : List (BitVec 8)) (j i : Nat) (hi : i < 16) : nth (blkTo l j) i = if i < j then nth l i else 0 := by
 simp [nth, blkTo, List.getD_eq_getElem?_getD, hi]
theorem blkTo_zero (l : List (BitVec 8)) : blkTo l 0 = zeros 8 16 := by
 apply ext_nth
 ·simp [blkTo_length]
 ·intro i hi
  rw [blkTo_length] at hi
  rw [nth_blkTo _ _ _ hi, nth_zeros]; simp
theorem blkTo_set (l : List (BitVec 8)) (j : Nat) (hj : j < 16) : (blkTo l j).set j (nth l j) = blkTo l (j + 1) := by
 apply ext_nth
 ·simp [blkTo_length]
 ·intro i hi
  rw [List.length_set, blkTo_length] at hi
  rw [nth_set _ _ _ _ (by rw [blkTo_length]; exact hj), nth_blkTo _ _ _ hi, nth_blkTo _ _ _ hi]
  by_cases h : j = i
  ·subst h; simp
  ·by_cases h2 : i < j
   ·rw [if_neg h, if_pos h2, if_pos (by omega)]
   ·rw [if_neg h, if_neg h2, if_neg (by omega)]
theorem blkTo_full (l : List (BitVec 8)) (h : l.length ≤ 16) : blkTo l 16 = blk l := by
 apply ext_nth
 ·rw [blkTo_length, blk_length]
 ·intro i hi
  rw [blkTo_length] at hi
  rw [nth_blkTo _ _ _ hi, if_pos hi]
  unfold blk
  rw [nth_splc _ _ _ (by simp <;> omega)]
  by_cases h2 : i < l.length
  ·rw [if_pos (by simp <;> omega), nth_take _ _ _ (by omega), Nat.sub_zero]
  ·rw [if_neg (by simp <;> omega), nth_over _ _ (by omega), nth_zeros] <;> rfl
theorem refBlock16_any (l : List (BitVec 8)) (a : Option Addr) (n c : Nat) (w : World) (hr : Rd8 w a n c l) (hn : n ≤ 16) :
  Calls Tryz.prog 34 #[.slice a n c] w fun e w' => e = .returned (.agg (A8 (blk l))) ∧ Below w.heap.size w w' := by
 obtain ⟨W, hW⟩ : ∃ W, (w.alloc (.cells (A8 (zeros 8 16)) 37)).alloc (.cells (A8 (zeros 8 16)) 37) = W := ⟨_, rfl⟩
 obtain ⟨b0, z0, hb, hz⟩ := new2 _ _ _ _ _ _ hW
 have K0 := hid b0
 have Z0 := hid z0
 have B0 := hid hb
 have LL := hid hr
 clear b0 z0 hb hz hr
 go_enter Tryz.func34, Tryz.ntmps34
 go_wp2_with fail
 go_loopw [4] (fun i wr => ∃ j : Nat, j ≤ 16 ∧ i = .int .i64 j ∧ Blk wr w.heap.size 37 (A8 (zeros 8 16)) ∧ Blk wr (w.heap.size + 1) 37 (A8 (blkTo l j)) ∧ Below w.heap.size w wr) (fun i _ => 16 - (intOf i).toNat)
 case atStart => exact ⟨0, Nat.zero_le _, rfl, K0.out, by rw [blkTo_zero]; exact Z0.out, B0.out⟩
 case round =>
  obtain ⟨j, hj, rfl, hK, hZ, hB⟩ := hrel
  have K1 := hid hK
  have Z1 := hid hZ
  have B1 := hid hB
  clear hK hZ hB K0 Z0 B0 hW
  by_cases hj16 : j < 16
  ·have j0 : (0 : Int) ≤ (j : Int) := by omega
   have j1 : (j : Int) < 16 := by omega
   have c1 := Z1.out.cell8 (blkTo_length l j) j hj16
   have fo := Z1.out.frozen j
   go_wp2_with fail
   refine (at_any l a n c 0 j wr (LL.out.below B1.out) (by omega) (by omega)).mono ?_
   rintro e w1 ⟨rfl, rfl⟩
   rw [Nat.zero_add]
   have kk := Z1.out.set_ j (v8 (nth l j))
   rw [A8_set, blkTo_set l j hj16] at kk
   have Z2 := hid kk
   have K2 := hid (K1.out.far (p := ⟨w.heap.size + 1, j, none⟩) (by simp) (v8 (nth l j)))
   have B2 := hid (B1.out.setCell (p := ⟨w.heap.size + 1, j, none⟩) (by simp) (v8 (nth l j)))
   clear kk K1 Z1 B1
   go_wp2
   exact ⟨⟨j + 1, by omega, by go_num, K2.out, Z2.out, B2.out⟩, by simp [intOf]; omega⟩
  ·obtain rfl : j = 16 := by omega
   have hl := LL.out.1
   have hf := blkTo_full l (by omega)
   have zz := Z1.out
   rw [hf] at zz
   have r1 := zz.row
   have r2 := K1.out.row
   have r3 := K1.out.whole
   have hbl := blk_length l
   clear hf hl zz
   go_wp2
   refine bodyPost_row (A8 (blk l)) rfl rfl rfl (Tryz.isAgg37 _) (Tryz.sizeOf37 _) (by rw [A8_size]; exact hbl) (rowAt_setRow _ r3) ⟨rfl, below_setRow B1.out (by omega) _⟩
end Go.Proofs.YtfdkmjegcghieaaGreatDoor
