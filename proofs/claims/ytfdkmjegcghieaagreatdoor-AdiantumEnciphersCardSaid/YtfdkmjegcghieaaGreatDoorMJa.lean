/- prime by definition: less and minus -/
import Derived.Test.YtfdkmjegcghieaaGreatDoorMRd0
import Derived.Test.YtfdkmjegcghieaaGreatDoorMJl
import Derived.Test.YtfdkmjegcghieaaGreatDoorMIj
import Derived.Test.YtfdkmjegcghieaaGreatDoorMGm
namespace Go.Proofs.YtfdkmjegcghieaaGreatDoor
open Lib (hid)
set_option linter.unusedSimpArgs false
set_option maxRecDepth 100000
set_option maxHeartbeats 1600000
open Go.RowKit
@[go_sem] theorem cellsOf214 : Tryz.prog.cellsOf 214 = 17 := by kernel_rfl
theorem zero214 (w : World) : (zeroValue 214).run Tryz.prog w = .ok (.agg (A8 (zeros 8 17))) w := by kernel_rfl
@[go_sem ↓ high] theorem alloc214 (w : World) : (Instr.alloc 214 true (.tuple #[])).run Tryz.prog w = .ok (.pointer (some ⟨w.heap.size, 0, none⟩)) (w.alloc (.cells (A8 (zeros 8 17)) 214)) := alloc_of_zero zero214 w
@[go_sem ↓ high] theorem build0214 (w : World) : (Instr.build 214 #[]).run Tryz.prog w = .ok (.agg (A8 (zeros 8 17))) w := by kernel_rfl
theorem refLess_any (a b : Nat) (w : World) (ha : a < 256 ^ 17) (hb : b < 256 ^ 17) :
  Calls Tryz.prog 196 #[.agg (A8 (byN 17 a)), .agg (A8 (byN 17 b))] w fun e w' => e = .returned (.bool (decide (a < b))) ∧ Below w.heap.size w w' := by
 obtain ⟨LA, hLA⟩ : ∃ L, L = byN 17 a := ⟨_, rfl⟩
 obtain ⟨LB, hLB⟩ : ∃ L, L = byN 17 b := ⟨_, rfl⟩
 have la : LA.length = 17 := by rw [hLA, byN_length]
 have lb : LB.length = 17 := by rw [hLB, byN_length]
 rw [← hLA, ← hLB]
 obtain ⟨W, hW⟩ : ∃ W, (w.alloc (.cells (A8 LA) 214)).alloc (.cells (A8 LB) 214) = W := ⟨_, rfl⟩
 obtain ⟨b0, b1, hb1, hz⟩ := new2 _ _ _ _ _ _ hW
 have P0 := hid b0
 have Q0 := hid b1
 have B0 := hid hb1
 have HLA := hid hLA
 have HLB := hid hLB
 clear b0 b1 hb1 hz hLA hLB
 go_enter Tryz.func196, Tryz.ntmps196
 go_wp2_with fail
 clear hW
 go_loopw [5] (fun i wr => ∃ j : Nat, j ≤ 17 ∧ i = .int .i64 (16 - (j : Int)) ∧ a / 256 ^ (17 - j) = b / 256 ^ (17 - j) ∧ Blk wr w.heap.size 214 (A8 LA) ∧ Blk wr (w.heap.size + 1) 214 (A8 LB) ∧ Below w.heap.size w wr) (fun i _ => (intOf i + 1).toNat)
 case atStart => exact ⟨0, by omega, rfl, by rw [Nat.div_eq_of_lt ha, Nat.div_eq_of_lt hb], P0.out, Q0.out, B0.out⟩
 case round =>
  obtain ⟨j, hj, rfl, hd, hP, hQ, hB⟩ := hrel
  have P1 := hid hP
  have Q1 := hid hQ
  have B1 := hid hB
  have D1 := hid hd
  clear hP hQ hB hd P0 Q0 B0
  by_cases hj17 : j < 17
  ·obtain ⟨q, hq⟩ : ∃ q, q = 16 - j := ⟨_, rfl⟩
   have f1 : (16 : Int) - (j : Int) = (q : Int) := by omega
   have f2 : (0 : Int) ≤ (q : Int) := by omega
   have f3 : q < 17 := by omega
   have f4 : (q : Int) < 17 := by omega
   have hdd := D1.out
   rw [show 17 - j = q + 1 by omega] at hdd
   have c1 := P1.out.drew.cell8 la q f3
   have c2 := Q1.out.drew.cell8 lb q f3
   have n1 : nth LA q = dgt a q := by rw [HLA.out, nth_byN _ _ _ f3]
   have n2 : nth LB q = dgt b q := by rw [HLB.out, nth_byN _ _ _ f3]
   have d1 := P1.out.drew.drew.cell8 la q f3
   have d2 := Q1.out.drew.drew.cell8 lb q f3
   rw [n1] at c1 d1
   rw [n2] at c2 d2
   have cs := cmp_step a b q hdd
   have cm := cmp_same a b q hdd
   rw [f1]
   obtain ⟨Q9, hQ9⟩ : ∃ z : Int, (q : Int) - 1 = z := ⟨_, rfl⟩
   have f5 : IntKind.i64.wrap Q9 = Q9 := by rw [IntKind.wrap_i64]; omega
   have HF := hid f1
   have HQ := hid hq
   clear n1 n2 hdd f1 hq
   by_cases he : dgt a q = dgt b q
   ·have cm2 := hid (cm he)
    rw [← he] at c2
    clear cs cm he
    obtain ⟨x, hx⟩ : ∃ x, x = dgt a q := ⟨_, rfl⟩
    rw [← hx] at c1 c2
    clear hx d1 d2
    have hne : (x != x) = false := bne_self_eq_false _
    go_upto_region 4 with fail
    refine wp_region_text3' [0,0,1,0,0,1,0] (by kernel_rfl) (by kernel_rfl) (fun ops' K2 hK2 => ?_)
    repeat
     (first
      | (with_reducible refine z_move (a' := ?_) ?_ ?_); rotate_left
      | (with_reducible refine z_assign (a' := ?_) ?_ ?_); rotate_left
      | (with_reducible refine z_obl (v := ?_) (a' := ?_) rfl (fun _ => ?_) ?_ ?_); rotate_left 2; (focus (go_simp; (try go_bits); exact rfl))
      | (with_reducible refine z_read (v := ?_) (a' := ?_) rfl ?_ ?_ ?_); rotate_left 2; (focus (go_simp; (try go_bits); exact rfl)))
     focus (simp only [Act.put, zz1, zz2, zz3, Act.eval, zz4, zz5, zz6, zz7, zz8]; exact rfl)
    refine z_nil (hK2 _ _ ?_)
    clear hK2
    go_wp2
    have f1 := HF.out
    have e5 : Q9 = 16 - ((j + 1 : Nat) : Int) := by omega
    have hq := HQ.out
    exact ⟨⟨j + 1, by omega, by rw [e5], by rw [show 17 - (j + 1) = q by omega]; exact cm2.out, P1.out.drew, Q1.out.drew, B1.out.drew⟩, by simp [intOf]; omega⟩
   ·have cs2 := cs he
    clear cs cm
    obtain ⟨x, hx⟩ : ∃ x, x = dgt a q := ⟨_, rfl⟩
    obtain ⟨y, hy⟩ : ∃ y, y = dgt b q := ⟨_, rfl⟩
    rw [← hx] at c1 d1 he cs2
    rw [← hy] at c2 d2 he cs2
    have c1x := hid d1
    have c2x := hid d2
    clear d1 d2
    have CS := hid cs2
    have hne : (x != y) = true := by simpa using he
    clear he
    clear hx hy cs2
    go_upto_region 4 with fail
    refine wp_region_text3' [0,0,1,0,0,1,0] (by kernel_rfl) (by kernel_rfl) (fun ops' K2 hK2 => ?_)
    repeat
     (first
      | (with_reducible refine z_move (a' := ?_) ?_ ?_); rotate_left
      | (with_reducible refine z_assign (a' := ?_) ?_ ?_); rotate_left
      | (with_reducible refine z_obl (v := ?_) (a' := ?_) rfl (fun _ => ?_) ?_ ?_); rotate_left 2; (focus (go_simp; (try go_bits); exact rfl))
      | (with_reducible refine z_read (v := ?_) (a' := ?_) rfl ?_ ?_ ?_); rotate_left 2; (focus (go_simp; (try go_bits); exact rfl)))
     focus (simp only [Act.put, zz1, zz2, zz3, Act.eval, zz4, zz5, zz6, zz7, zz8]; exact rfl)
    refine z_nil (hK2 _ _ ?_)
    clear hK2
    clear c1 c2
    have c1 := c1x.out
    have c2 := c2x.out
    go_upto_region 5 with fail
    refine wp_region_text3' [0,0,1,0,0,1,0,0] (by kernel_rfl) (by kernel_rfl) (fun ops' K2 hK2 => ?_)
    repeat
     (first
      | (with_reducible refine z_move (a' := ?_) ?_ ?_); rotate_left
      | (with_reducible refine z_assign (a' := ?_) ?_ ?_); rotate_left
      | (with_reducible refine z_obl (v := ?_) (a' := ?_) rfl (fun _ => ?_) ?_ ?_); rotate_left 2; (focus (go_simp; (try go_bits); exact rfl))
      | (with_reducible refine z_read (v := ?_) (a' := ?_) rfl ?_ ?_ ?_); rotate_left 2; (focus (go_simp; (try go_bits); exact rfl)))
     focus (simp only [Act.put, zz1, zz2, zz3, Act.eval, zz4, zz5, zz6, zz7, zz8]; exact rfl)
    refine z_nil (hK2 _ _ ?_)
    clear hK2
    go_wp2
    go_ret
    rw [← CS.out]
    exact ⟨rfl, B1.out.drew.drew⟩
  ·obtain rfl : j = 17 := by omega
   have hab := D1.out
   have g1 : (16 : Int) - ((17 : Nat) : Int) = -1 := by omega
   rw [g1]
   clear g1
   go_wp2
   go_ret
   have : a = b := by simpa using hab
   rw [this]
   exact ⟨by simp, B1.out⟩
theorem refMinus17_any (a b : Nat) (w : World) (hab : b ≤ a) :
  Calls Tryz.prog 197 #[.agg (A8 (byN 17 a)), .agg (A8 (byN 17 b))] w fun e w' => e = .returned (.agg (A8 (byN 17 (a - b)))) ∧ Below w.heap.size w w' := by
 obtain ⟨LB, hLB⟩ : ∃ L, L = byN 17 b := ⟨_, rfl⟩
 have lb : LB.length = 17 := by rw [hLB, byN_length]
 obtain ⟨LF, hLF⟩ : ∃ L, L = byN 17 (a - b) := ⟨_, rfl⟩
 have lf : LF.length = 17 := by rw [hLF, byN_length]
 rw [← hLB, ← hLF, ← mixN_zero 17 (a - b) a]
 obtain ⟨W, hW⟩ : ∃ W, ((w.alloc (.cells (A8 (mixN 17 (a - b) a 0)) 214)).alloc (.cells (A8 LB) 214)).alloc (.cells (A8 (zeros 8 17)) 214) = W := ⟨_, rfl⟩
 obtain ⟨b0, b1, b2, hb1, hz⟩ := new3 _ _ _ _ _ _ _ _ hW
 have P0 := hid b0
 have Q0 := hid b1
 have Z0 := hid b2
 have B0 := hid hb1
 have HLB := hid hLB
 have HLF := hid hLF
 clear b0 b1 b2 hb1 hz hLB hLF
 go_enter Tryz.func197, Tryz.ntmps197
 go_wp2_with fail
 clear hW
 go_loopw [5, 6] (fun c i wr => ∃ j : Nat, j ≤ 17 ∧ i = .int .i64 j ∧ c = .int .i64 (dfC a b j : Nat) ∧ Blk wr w.heap.size 214 (A8 (mixN 17 (a - b) a j)) ∧ Blk wr (w.heap.size + 1) 214 (A8 LB) ∧ Blk wr (w.heap.size + 2) 214 (A8 (zeros 8 17)) ∧ Below w.heap.size w wr) (fun _ i _ => 17 - (intOf i).toNat)
 case atStart => exact ⟨0, by omega, rfl, by rw [dfC_zero]; rfl, P0.out, Q0.out, Z0.out, B0.out⟩
 case round =>
  obtain ⟨j, hj, rfl, rfl, hP, hQ, hZ, hB⟩ := hrel
  have P1 := hid hP
  have Q1 := hid hQ
  have Z1 := hid hZ
  have B1 := hid hB
  clear hP hQ hZ hB P0 Q0 Z0 B0
  by_cases hj17 : j < 17
  ·have j1 : (j : Int) < 17 := by omega
   have j0 : (0 : Int) ≤ (j : Int) := by omega
   have hcl := dfC_le a b j
   have hnx := dfC_next a b j
   have hby := dfC_byte a b j hab
   have hst := mixN_set 17 (a - b) a j hj17
   have c1 := P1.out.drew.cell8 (mixN_length _ _ _ _) j hj17
   have c2 := Q1.out.drew.cell8 lb j hj17
   rw [nth_mixN _ _ _ _ _ hj17, if_neg (by omega)] at c1
   rw [show nth LB j = dgt b j by rw [HLB.out, nth_byN _ _ _ hj17]] at c2
   obtain ⟨x, hx⟩ : ∃ x, x = dgt a j := ⟨_, rfl⟩
   obtain ⟨y, hy⟩ : ∃ y, y = dgt b j := ⟨_, rfl⟩
   rw [← hx] at c1 hnx hby
   rw [← hy] at c2 hnx hby
   clear hx hy
   have hxl := x.isLt
   have hyl := y.isLt
   obtain ⟨X, hX⟩ : ∃ X, x.toNat = X := ⟨_, rfl⟩
   obtain ⟨Y, hY⟩ : ∃ Y, y.toNat = Y := ⟨_, rfl⟩
   rw [hX] at hxl hnx hby
   rw [hY] at hyl hnx hby
   obtain ⟨C, hC⟩ : ∃ C, C = dfC a b j := ⟨_, rfl⟩
   rw [← hC] at hcl hnx hby ⊢
   clear hC
   obtain ⟨S1, hS1⟩ : ∃ S, S = 256 + X := ⟨_, rfl⟩
   obtain ⟨S2, hS2⟩ : ∃ S, S = S1 - Y := ⟨_, rfl⟩
   obtain ⟨S3, hS3⟩ : ∃ S, S = S2 - C := ⟨_, rfl⟩
   rw [← hS1, ← hS2, ← hS3] at hnx hby
   obtain ⟨D, hD⟩ : ∃ D, D = S3 / 256 := ⟨_, rfl⟩
   obtain ⟨M, hM⟩ : ∃ M, M = S3 % 256 := ⟨_, rfl⟩
   obtain ⟨C2, hC2⟩ : ∃ C2, C2 = dfC a b (j + 1) := ⟨_, rfl⟩
   rw [← hD, ← hC2] at hnx
   rw [← hM] at hby
   have a1 : 256 + (X : Int) = (S1 : Int) := by omega
   have a2 : IntKind.i64.wrap (S1 : Int) = (S1 : Int) := by rw [IntKind.wrap_i64]; omega
   have a3 : (S1 : Int) - (Y : Int) = (S2 : Int) := by omega
   have a4 : IntKind.i64.wrap (S2 : Int) = (S2 : Int) := by rw [IntKind.wrap_i64]; omega
   have a5 : (S2 : Int) - (C : Int) = (S3 : Int) := by omega
   have a6 : IntKind.i64.wrap (S3 : Int) = (S3 : Int) := by rw [IntKind.wrap_i64]; omega
   have a7 : (S3 : Int) / 256 = (D : Int) := by omega
   have a8 : IntKind.i64.wrap (D : Int) = (D : Int) := by rw [IntKind.wrap_i64]; omega
   have a9 : (S3 : Int) % 256 = (M : Int) := by omega
   have a10 : IntKind.i64.wrap (M : Int) = (M : Int) := by rw [IntKind.wrap_i64]; omega
   have a11 : 1 - (D : Int) = (C2 : Int) := by omega
   have a12 : IntKind.i64.wrap (C2 : Int) = (C2 : Int) := by rw [IntKind.wrap_i64]; omega
   have HC2 := hid hC2
   have HBY := hid hby
   have HST := hid hst
   clear hS1 hS2 hS3 hD hM hC2 hnx hby hst
   go_upto_region 5 with fail
   refine wp_region_text3' [0,0,1,0,0,0,0,1,0,0,0,0,0] (by kernel_rfl) (by kernel_rfl) (fun ops' K2 hK2 => ?_)
   repeat
    (first
     | (with_reducible refine z_move (a' := ?_) ?_ ?_); rotate_left
     | (with_reducible refine z_assign (a' := ?_) ?_ ?_); rotate_left
     | (with_reducible refine z_obl (v := ?_) (a' := ?_) rfl (fun _ => ?_) ?_ ?_); rotate_left 2; (focus (go_simp; (try go_bits); exact rfl))
     | (with_reducible refine z_read (v := ?_) (a' := ?_) rfl ?_ ?_ ?_); rotate_left 2; (focus (go_simp; (try go_bits); exact rfl)))
    focus (simp only [Act.put, zz1, zz2, zz3, Act.eval, zz4, zz5, zz6, zz7, zz8]; exact rfl)
   refine z_nil (hK2 _ _ ?_)
   clear hK2 c1 c2
   have P2 := P1.out.drew
   have Q2 := Q1.out.drew
   have Z2 := Z1.out.drew
   have B2 := B1.out.drew
   clear P1 Q1 Z1 B1
   generalize wr.drew = wd at *
   have c3 := P2.cell8 (mixN_length _ _ _ _) j hj17
   have fo := P2.frozen j
   obtain ⟨XX, hXX⟩ : ∃ X, X = BitVec.ofNat 8 M := ⟨_, rfl⟩
   obtain ⟨w1, hw1⟩ : ∃ z, z = wd.setCell ⟨w.heap.size, j, none⟩ (v8 XX) := ⟨_, rfl⟩
   have y1 := P2.set_ j (v8 XX)
   have g1 := grown_setCell wd (w.heap.size) j (v8 XX)
   rw [A8_set, ← hw1, hXX, ← HBY.out, HST.out] at y1
   rw [← hw1] at g1
   have P3 := hid y1
   have Q3 := hid (Q2.grown g1 (by simp))
   have Z3 := hid (Z2.grown g1 (by simp))
   have B3 := hid (B2.trans (grown_below g1 (by omega) B2.size))
   have HW1 := hid hw1
   have HX := hid hXX
   clear y1 g1 hw1 P2 Q2 Z2 B2 hXX
   go_wp2
   rw [← HX.out, show wd.setCell ⟨w.heap.size, j, none⟩ (v8 XX) = w1 from HW1.out.symm]
   exact ⟨⟨j + 1, by omega, by go_num, by rw [HC2.out], P3.out, Q3.out, Z3.out, B3.out⟩, by simp [intOf]; omega⟩
  ·obtain rfl : j = 17 := by omega
   have zz := P1.out
   rw [mixN_full, ← HLF.out] at zz
   have r1 := zz.row
   have r2 := Z1.out.row
   have r3 := Z1.out.whole
   clear zz
   go_wp2
   refine bodyPost_row (A8 LF) rfl rfl rfl (Tryz.isAgg214 _) (Tryz.sizeOf214 _) (by rw [A8_size]; exact lf) (rowAt_setRow _ r3) ⟨rfl, below_setRow B1.out (by omega) _⟩
open Go.RowKit
theorem shr_natV (t : TypeId) (p R : Nat) (hR : R < 64) : binOp .shr t (.int .i64 p) (v64 (BitVec.ofNat 64 R)) = pure (.int .i64 ((p / 2 ^ R : Nat) : Int)) := by
 have e : (BitVec.ofNat 64 R).toNat = R := by rw [BitVec.toNat_ofNat]; omega
 simp only [v64, binOp, Op.shift, e, if_neg (show ¬ (R : Int) < 0 by omega)]
 have e2 : min (R : Int).toNat IntKind.i64.bits = R := by
  rw [Int.toNat_natCast]
  exact Nat.min_eq_left (by show R ≤ 64; omega)
 rw [e2, Int.fdiv_eq_ediv_of_nonneg _ (by have : (0 : Int) < 2 ^ R := Int.pow_pos (by decide); omega), show ((2 : Int) ^ R) = ((2 ^ R : Nat) : Int) by simp, ← Int.natCast_ediv]
theorem nth_le64x (y : BitVec 64) (i : Nat) (h : i < 8) : nth (le64 y) i = (y >>> (8 * i)).setWidth 8 := by
 have : i = 0 ∨ i = 1 ∨ i = 2 ∨ i = 3 ∨ i = 4 ∨ i = 5 ∨ i = 6 ∨ i = 7 := by omega
 rcases this with rfl | rfl | rfl | rfl | rfl | rfl | rfl | rfl <;> simp [le64, nth]
def lenOfV : Value → Nat
 | .slice _ n _ => n
 | _ => 0
theorem refPadded_any (l : List (BitVec 8)) (a : Option Addr) (n c : Nat) (w : World) (hr : Rd8 w a n c l) (hn : n ≤ 1000000) :
  Calls Tryz.prog 119 #[.slice a n c, .int .i64 16] w fun e w' => ∃ v, e = .returned v ∧ Own8 w' w.heap.size 5 v (l ++ zeros 8 (roomN l.length 16)) ∧ Below w.heap.size w w' := by
 have hl := hr.1
 obtain ⟨R, hR⟩ : ∃ R, R = roomN n 16 := ⟨_, rfl⟩
 have hR15 : R ≤ 15 := by rw [hR, roomN]; omega
 have hRm : (n + R) % 16 = 0 := by rw [hR, roomN]; omega
 have hRj : ∀ j, j < R → (n + j) % 16 ≠ 0 := by intro j hj; rw [hR, roomN] at hj; omega
 rw [show roomN l.length 16 = R by rw [hl, hR]]
 have HR := hid hr
 have HJ := hid hRj
 clear hr hRj hR
 go_enter Tryz.func119, Tryz.ntmps119
 go_upto_region 1 with fail
 refine wp_region_plain [2,0,2,0] rfl (fun ops' K4 hK4 => ?_)
 refine z_build0 (B := w.heap.size) (Nat.le_refl _) Tryz.underlying23 info8 (fun w4 v4 ho4 hb4 => ?_)
 simp only [Act.put, zz1, zz2, zz3]
 repeat
  (first
   | (with_reducible refine z_move (a' := ?_) ?_ ?_); rotate_left
   | (with_reducible refine z_assign (a' := ?_) ?_ ?_); rotate_left
   | (with_reducible refine z_obl (v := ?_) (a' := ?_) rfl (fun _ => ?_) ?_ ?_); rotate_left 2; (focus (go_simp; (try go_bits); exact rfl))
   | (with_reducible refine z_read (v := ?_) (a' := ?_) rfl ?_ ?_ ?_); rotate_left 2; (focus (go_simp; (try go_bits); exact rfl)))
  focus (simp only [Act.put, zz1, zz2, zz3, Act.eval, zz4, zz5, zz6, zz7, zz8]; exact rfl)
 refine z_append8 ho4 (HR.out.below hb4) rfl rfl Tryz.underlying23 info8 (by simp; omega) hb4.size (fun w5 v5 o5 g5 b5 => ?_)
 simp only [Act.put, zz1, zz2, zz3]
 repeat
  (first
   | (with_reducible refine z_move (a' := ?_) ?_ ?_); rotate_left
   | (with_reducible refine z_assign (a' := ?_) ?_ ?_); rotate_left
   | (with_reducible refine z_obl (v := ?_) (a' := ?_) rfl (fun _ => ?_) ?_ ?_); rotate_left 2; (focus (go_simp; (try go_bits); exact rfl))
   | (with_reducible refine z_read (v := ?_) (a' := ?_) rfl ?_ ?_ ?_); rotate_left 2; (focus (go_simp; (try go_bits); exact rfl)))
  focus (simp only [Act.put, zz1, zz2, zz3, Act.eval, zz4, zz5, zz6, zz7, zz8]; exact rfl)
 refine z_nil (hK4 _ _ ?_)
 rw [List.nil_append] at o5
 have B5 := hid (hb4.trans b5)
 have O5 := hid o5
 clear hK4 ho4 hb4 g5 b5 o5 HR
 go_wp2_with fail
 go_loopw [5] (fun v wr => ∃ j : Nat, j ≤ R ∧ Own8 wr w.heap.size 5 v (l ++ zeros 8 j) ∧ Below w.heap.size w wr) (fun v _ => R + n - lenOfV v)
 case atStart => exact ⟨0, by omega, by rw [show zeros 8 0 = [] from rfl, List.append_nil]; exact O5.out, B5.out⟩
 case round =>
  obtain ⟨j, hj, hO, hB⟩ := hrel
  obtain ⟨a5, c5, rfl, hr5, _⟩ := hO.rd
  have hll : (l ++ zeros 8 j).length = n + j := by rw [List.length_append, zeros_length, hl]
  have O1 := hid hO
  have B1 := hid hB
  have HLL := hid hll
  clear hO hB hr5 O5 B5
  obtain ⟨M, hM⟩ : ∃ M, M = (l ++ zeros 8 j).length := ⟨_, rfl⟩
  rw [← hM] at O1 ⊢
  have hMn : M = n + j := by rw [hM]; exact hll
  have HM := hid hMn
  clear hM hll HLL
  by_cases hjR : j < R
  ·have m1 : (((M : Int) % 16) == 0) = false := by
    have := HJ.out j hjR
    simp; omega
   have m2 : (((M : Int) % 16) != 0) = true := by
    have := HJ.out j hjR
    simp; omega
   have m3 : IntKind.i64.wrap ((M : Int) % 16) = (M : Int) % 16 := by rw [IntKind.wrap_i64]; omega
   clear hMn
   go_upto_region 3 with fail
   refine wp_region_plain [0,2,2,0] rfl (fun ops' K2 hK2 => ?_)
   repeat
    (first
     | (with_reducible refine z_move (a' := ?_) ?_ ?_); rotate_left
     | (with_reducible refine z_assign (a' := ?_) ?_ ?_); rotate_left
     | (with_reducible refine z_obl (v := ?_) (a' := ?_) rfl (fun _ => ?_) ?_ ?_); rotate_left 2; (focus (go_simp; (try go_bits); exact rfl))
     | (with_reducible refine z_read (v := ?_) (a' := ?_) rfl ?_ ?_ ?_); rotate_left 2; (focus (go_simp; (try go_bits); exact rfl)))
    focus (simp only [Act.put, zz1, zz2, zz3, Act.eval, zz4, zz5, zz6, zz7, zz8]; exact rfl)
   refine z_build1 (x := 0#8) rfl Tryz.underlying23 info8 (fun w2 b2 hr2 hb2 => ?_)
   simp only [Act.put, zz1, zz2, zz3]
   refine z_append8 (O1.out.below hb2) hr2 rfl rfl Tryz.underlying23 info8 (by have := HM.out; simp [hl]; omega) (Nat.le_trans B1.out.size hb2.size) (fun w3 v3 o3 g3 b3 => ?_)
   simp only [Act.put, zz1, zz2, zz3]
   repeat
    (first
     | (with_reducible refine z_move (a' := ?_) ?_ ?_); rotate_left
     | (with_reducible refine z_assign (a' := ?_) ?_ ?_); rotate_left
     | (with_reducible refine z_obl (v := ?_) (a' := ?_) rfl (fun _ => ?_) ?_ ?_); rotate_left 2; (focus (go_simp; (try go_bits); exact rfl))
     | (with_reducible refine z_read (v := ?_) (a' := ?_) rfl ?_ ?_ ?_); rotate_left 2; (focus (go_simp; (try go_bits); exact rfl)))
    focus (simp only [Act.put, zz1, zz2, zz3, Act.eval, zz4, zz5, zz6, zz7, zz8]; exact rfl)
   refine z_nil (hK2 _ _ ?_)
   rw [List.append_assoc, show zeros 8 j ++ [0#8] = zeros 8 (j + 1) from by rw [zeros, zeros, ← List.replicate_succ']] at o3
   have hlen : lenOfV v3 = M + 1 := by
    obtain ⟨a6, c6, e6, _, _⟩ := o3.rd
    rw [e6]; have := HM.out; simp [lenOfV, hl]; omega
   have O3 := hid o3
   have B3 := hid ((B1.out.trans (hb2.mono B1.out.size)).trans b3)
   have HL := hid hlen
   clear o3 g3 b3 hb2 hr2 hK2 hlen
   go_wp2
   refine ⟨⟨j + 1, by omega, O3.out, B3.out⟩, ?_⟩
   have h1 := HL.out
   have h2 := HM.out
   show R + n - lenOfV v3 < R + n - M
   rw [h1]; omega
  ·obtain rfl : j = R := by omega
   have m1 : (M : Int) % 16 = 0 := by omega
   clear hMn
   go_wp2
   go_ret
   exact ⟨_, rfl, O1.out, B1.out⟩
open Go.RowKit
def prmTo (j : Nat) : List (BitVec 8) := (List.range 17).map fun i => if i = 0 then 251#8 else if i < j then 255#8 else 0#8
theorem prmTo_length (j : Nat) : (prmTo j).length = 17 := by simp [prmTo]
theorem prmTo_set (j : Nat) (h0 : 0 < j) (hj : j < 16) : (prmTo j).set j 255#8 = prmTo (j + 1) := by
 apply ext_nth
 ·simp [prmTo]
 ·intro i hi
  have hi' : i < 17 := by simpa [prmTo] using hi
  rw [nth_set _ _ _ _ (by rw [prmTo_length]; omega), prmTo, prmTo, nth_range_map _ _ hi', nth_range_map _ _ hi']
  by_cases e : j = i
  ·subst e; rw [if_pos rfl, if_neg (by omega), if_pos (by omega)]
  ·rw [if_neg e]
   by_cases hz : i = 0
   ·rw [if_pos hz, if_pos hz]
   ·rw [if_neg hz, if_neg hz]
    by_cases hij : i < j
    ·rw [if_pos hij, if_pos (by omega)]
    ·rw [if_neg hij, if_neg (by omega)]
theorem prmTo_full : (prmTo 16).set 16 3#8 = byN 17 prm := by decide +kernel
theorem prmTo_one : (zeros 8 17).set 0 251#8 = prmTo 1 := by decide +kernel
theorem refPrime_any (w : World) :
  Calls Tryz.prog 195 #[] w fun e w' => e = .returned (.agg (A8 (byN 17 prm))) ∧ Below w.heap.size w w' := by
 obtain ⟨LF, hLF⟩ : ∃ L, L = byN 17 prm := ⟨_, rfl⟩
 have lf : LF.length = 17 := by rw [hLF, byN_length]
 have hfu := prmTo_full
 rw [← hLF] at hfu ⊢
 have HFU := hid hfu
 clear hLF hfu
 obtain ⟨W, hW⟩ : ∃ W, (w.alloc (.cells (A8 (zeros 8 17)) 214)).alloc (.cells (A8 (zeros 8 17)) 214) = W := ⟨_, rfl⟩
 obtain ⟨b0, b1, hb1, hz⟩ := new2 _ _ _ _ _ _ hW
 have c1 := b1.cell8 (by simp : (zeros 8 17).length = 17) 0 (by omega)
 have fo := b1.frozen 0
 obtain ⟨W1, hW1⟩ : ∃ z, W.setCell ⟨w.heap.size + 1, 0, none⟩ (.int .u8 251) = z := ⟨_, rfl⟩
 have y1 := b1.set_ 0 (v8 251#8)
 have g1 := grown_setCell W (w.heap.size + 1) 0 (v8 251#8)
 rw [A8_set, prmTo_one, show W.setCell ⟨w.heap.size + 1, 0, none⟩ (v8 251#8) = W1 from hW1] at y1
 rw [show W.setCell ⟨w.heap.size + 1, 0, none⟩ (v8 251#8) = W1 from hW1] at g1
 have P0 := hid (b0.grown g1 (by simp))
 have Z0 := hid y1
 have B0 := hid (hb1.trans (grown_below g1 (by omega) hb1.size))
 clear b0 b1 hb1 hz y1 g1
 go_enter Tryz.func195, Tryz.ntmps195
 go_wp2_with fail
 clear hW c1 fo
 try rw [hW1]
 clear hW1
 go_loopw [2] (fun i wr => ∃ j : Nat, 0 < j ∧ j ≤ 16 ∧ i = .int .i64 j ∧ Blk wr w.heap.size 214 (A8 (zeros 8 17)) ∧ Blk wr (w.heap.size + 1) 214 (A8 (prmTo j)) ∧ Below w.heap.size w wr) (fun i _ => 17 - (intOf i).toNat)
 case atStart => exact ⟨1, by omega, by omega, rfl, P0.out, Z0.out, B0.out⟩
 case round =>
  obtain ⟨j, hj0, hj, rfl, hP, hZ, hB⟩ := hrel
  have P1 := hid hP
  have c1 := hZ.cell8 (prmTo_length j)
  have fo := hZ.frozen
  by_cases hj16 : j < 16
  ·have j1 : (j : Int) < 16 := by omega
   have j0 : (0 : Int) ≤ (j : Int) := by omega
   have j2 : (j : Int) < 17 := by omega
   have c2 := c1 j (by omega)
   have fo2 := fo j
   clear c1 fo
   obtain ⟨w1, hw1⟩ : ∃ z, wr.setCell ⟨w.heap.size + 1, j, none⟩ (.int .u8 255) = z := ⟨_, rfl⟩
   have y1 := hZ.set_ j (v8 255#8)
   have g1 := grown_setCell wr (w.heap.size + 1) j (v8 255#8)
   rw [A8_set, prmTo_set j hj0 hj16, show wr.setCell ⟨w.heap.size + 1, j, none⟩ (v8 255#8) = w1 from hw1] at y1
   rw [show wr.setCell ⟨w.heap.size + 1, j, none⟩ (v8 255#8) = w1 from hw1] at g1
   have P2 := hid (hP.grown g1 (by simp))
   have Z2 := hid y1
   have B2 := hid (hB.trans (grown_below g1 (by omega) hB.size))
   clear hP hZ hB y1 g1 P0 Z0 B0 P1
   go_wp2
   try rw [hw1]
   exact ⟨⟨j + 1, by omega, by omega, by go_num, P2.out, Z2.out, B2.out⟩, by simp [intOf]; omega⟩
  ·obtain rfl : j = 16 := by omega
   have c2 := c1 16 (by omega)
   have fo2 := fo 16
   clear c1 fo
   obtain ⟨w1, hw1⟩ : ∃ z, wr.setCell ⟨w.heap.size + 1, 16, none⟩ (.int .u8 3) = z := ⟨_, rfl⟩
   have y1 := hZ.set_ 16 (v8 3#8)
   have g1 := grown_setCell wr (w.heap.size + 1) 16 (v8 3#8)
   rw [A8_set, HFU.out, show wr.setCell ⟨w.heap.size + 1, 16, none⟩ (v8 3#8) = w1 from hw1] at y1
   rw [show wr.setCell ⟨w.heap.size + 1, 16, none⟩ (v8 3#8) = w1 from hw1] at g1
   have P2 := hP.grown g1 (by simp)
   have B2 := hid (hB.trans (grown_below g1 (by omega) hB.size))
   have r1 := y1.row
   have r2 := P2.row
   have r3 := P2.whole
   clear hP hZ hB y1 g1 P0 Z0 B0 P1 P2
   go_wp2
   refine bodyPost_row (A8 LF) rfl rfl rfl (Tryz.isAgg214 _) (Tryz.sizeOf214 _) (by rw [A8_size]; exact lf) (rowAt_setRow _ r3) ⟨rfl, below_setRow B2.out (by omega) _⟩
theorem refLow_any17 (n : Nat) (w : World) :
  Calls Tryz.prog 165 #[.agg (A8 (byN 17 n))] w fun e w' => e = .returned (.agg (A8 (byN 16 n))) ∧ Below w.heap.size w w' := by
 obtain ⟨LA, hLA⟩ : ∃ L, L = byN 17 n := ⟨_, rfl⟩
 have la : LA.length = 17 := by rw [hLA, byN_length]
 obtain ⟨LF, hLF⟩ : ∃ L, L = byN 16 n := ⟨_, rfl⟩
 have lf : LF.length = 16 := by rw [hLF, byN_length]
 have hnn : ∀ j, j < 16 → nth LF j = nth LA j := fun j hj => by rw [hLA, hLF, nth_byN _ _ _ hj, nth_byN _ _ _ (by omega)]
 rw [← hLA, ← hLF]
 clear hLA hLF
 obtain ⟨W, hW⟩ : ∃ W, ((w.alloc (.cells (A8 LA) 214)).alloc (.cells (A8 (zeros 8 16)) 37)).alloc (.cells (A8 (zeros 8 16)) 37) = W := ⟨_, rfl⟩
 obtain ⟨b0, b1, b2, hb, hz⟩ := new3 _ _ _ _ _ _ _ _ hW
 have P0 := hid b0
 have K0 := hid b1
 have Z0 := hid b2
 have B0 := hid hb
 clear b0 b1 b2 hb hz
 go_enter Tryz.func165, Tryz.ntmps165
 go_wp2_with fail
 clear hW
 go_loopw [4] (fun i wr => ∃ j : Nat, j ≤ 16 ∧ i = .int .i64 j ∧ Blk wr w.heap.size 214 (A8 LA) ∧ Blk wr (w.heap.size + 1) 37 (A8 (zeros 8 16)) ∧ Blk wr (w.heap.size + 2) 37 (A8 (fillN 16 LF j)) ∧ Below w.heap.size w wr) (fun i _ => 16 - (intOf i).toNat)
 case atStart => exact ⟨0, by omega, rfl, P0.out, K0.out, by rw [fillN_zero]; exact Z0.out, B0.out⟩
 case round =>
  obtain ⟨j, hj, rfl, hP, hK, hZ, hB⟩ := hrel
  have P1 := hid hP
  have K1 := hid hK
  have Z1 := hid hZ
  have B1 := hid hB
  clear hP hK hZ hB P0 K0 Z0 B0
  by_cases hj16 : j < 16
  ·have j1 : (j : Int) < 16 := by omega
   have j3 : (j : Int) < 17 := by omega
   have j0 : (0 : Int) ≤ (j : Int) := by omega
   have c1 := P1.out.cell8 la j (by omega)
   have c2 := Z1.out.cell8 (fillN_length _ _ _) j hj16
   have fo := Z1.out.frozen j
   rw [← hnn j hj16] at c1
   have hst := fillN_set 16 LF j hj16
   obtain ⟨X, hX⟩ : ∃ X, X = nth LF j := ⟨_, rfl⟩
   rw [← hX] at c1 hst
   clear hX
   obtain ⟨w1, hw1⟩ : ∃ z, wr.setCell ⟨w.heap.size + 2, j, none⟩ (v8 X) = z := ⟨_, rfl⟩
   have y1 := Z1.out.set_ j (v8 X)
   have g1 := grown_setCell wr (w.heap.size + 2) j (v8 X)
   rw [A8_set, hst, hw1] at y1
   rw [hw1] at g1
   have P2 := hid (P1.out.grown g1 (by simp))
   have K2 := hid (K1.out.grown g1 (by simp))
   have Z2 := hid y1
   have B2 := hid (B1.out.trans (grown_below g1 (by omega) B1.out.size))
   clear y1 g1 P1 K1 Z1 B1 hst
   go_wp2
   try rw [hw1]
   exact ⟨⟨j + 1, by omega, by go_num, P2.out, K2.out, Z2.out, B2.out⟩, by simp [intOf]; omega⟩
  ·obtain rfl : j = 16 := by omega
   have zz := Z1.out
   rw [fillN_full 16 _ lf] at zz
   have r1 := zz.row
   have r2 := K1.out.row
   have r3 := K1.out.whole
   clear zz
   go_wp2
   refine bodyPost_row (A8 LF) rfl rfl rfl (Tryz.isAgg37 _) (Tryz.sizeOf37 _) (by rw [A8_size]; exact lf) (rowAt_setRow _ r3) ⟨rfl, below_setRow B1.out (by omega) _⟩
open Go.RowKit
theorem rest_bit (V c : Nat) : (2 * V + c) % prm = if 2 * (V % prm) + c < prm then 2 * (V % prm) + c else (2 * (V % prm) + c) % prm := by
 rw [Nat.add_mod, Nat.mul_mod]
 have e : (2 * (V % prm) + c) % prm = (2 % prm * (V % prm) % prm + c % prm) % prm := by rw [Nat.add_mod, Nat.mul_mod, Nat.mod_mod]
 rw [← e]
 split
 ·exact Nat.mod_eq_of_lt (by assumption)
 ·rfl
theorem rest_less (N c : Nat) (hN : N < prm) (hc : c ≤ 1) (h : ¬ 2 * N + c < prm) : (2 * N + c) % prm = 2 * N + c - prm := by
 have hp : prm = 2 ^ 130 - 5 := rfl
 rw [Nat.mod_eq_sub_mod (by omega), Nat.mod_eq_of_lt (by omega)]
def dvV (V : Nat) (x : Nat) (t : Nat) : Nat := V * 2 ^ t + x / 2 ^ (8 - t)
theorem dvV_zero (V x : Nat) (h : x < 256) : dvV V x 0 = V := by
 rw [dvV, Nat.pow_zero, Nat.mul_one, show 8 - 0 = 8 from rfl, show (2:Nat) ^ 8 = 256 from rfl, Nat.div_eq_of_lt h, Nat.add_zero]
theorem dvV_next (V x t : Nat) (ht : t < 8) : dvV V x (t + 1) = 2 * dvV V x t + x / 2 ^ (7 - t) % 2 := by
 have e : x / 2 ^ (8 - t) = x / 2 ^ (7 - t) / 2 := by rw [show 8 - t = 7 - t + 1 by omega, Nat.pow_succ, Nat.div_div_eq_div_mul]
 rw [dvV, dvV, e, show 8 - (t + 1) = 7 - t by omega, Nat.pow_succ, Nat.mul_add, ← Nat.mul_assoc, Nat.mul_comm (V * 2 ^ t) 2]
 omega
theorem dvV_full (V x : Nat) : dvV V x 8 = x + 256 * V := by
 rw [dvV, show 8 - 8 = 0 from rfl, Nat.pow_zero, Nat.div_one, show (2:Nat) ^ 8 = 256 from rfl]; omega
theorem refDivide_any (l : List (BitVec 8)) (a : Option Addr) (n c : Nat) (w : World) (hr : Rd8 w a n c l) :
  Calls Tryz.prog 185 #[.slice a n c] w fun e w' => e = .returned (.agg (A8 (byN 17 (numL l % prm)))) ∧ Below w.heap.size w w' := by
 have hl := hr.1
 have hn : n ≤ maxLen := Nat.le_trans hr.2.1 hr.2.2.1
 unfold maxLen at hn
 have LL := hid hr
 clear hr
 have lf := byN_length 17 (numL l % prm)
 obtain ⟨LF, hLF⟩ : ∃ L, byN 17 (numL l % prm) = L := ⟨_, rfl⟩
 rw [hLF] at lf ⊢
 have HLF := hid hLF
 clear hLF
 obtain ⟨W, hW⟩ : ∃ W, w.alloc (.cells (A8 (zeros 8 17)) 214) = W := ⟨_, rfl⟩
 obtain ⟨b0, hb1, hz⟩ := new1 _ _ _ _ hW
 have P0 := hid b0
 have B0 := hid hb1
 have HZ := hid hz
 clear b0 hb1 hz
 go_enter Tryz.func185, Tryz.ntmps185
 go_wp2_with fail
 refine (refPrime_any W).mono ?_
 rintro e w1 ⟨rfl, d1⟩
 clear hW
 obtain ⟨g, hg⟩ : ∃ g, w1.heap.size = g := ⟨_, rfl⟩
 obtain ⟨LP, hLP⟩ : ∃ L, byN 17 prm = L := ⟨_, rfl⟩
 rw [hLP]
 obtain ⟨W2, hW2⟩ : ∃ W2, (w1.alloc (.cells (A8 LP) 214)).alloc (.cells (A8 (zeros 8 17)) 214) = W2 := ⟨_, rfl⟩
 have r1 := (Blk.new w1 214 (A8 (zeros 8 17))).row
 have r3 := (Blk.new w1 214 (A8 (zeros 8 17))).whole
 have hlp : LP.length = 17 := by rw [← hLP, byN_length]
 have HLP := hid hLP
 clear hLP
 go_wp2_with fail
 clear r1 r3
 obtain ⟨n0, n1, nb, nz⟩ := new2 _ _ _ _ _ _ hW2
 rw [hg] at n0 n1 nb
 have E0 := hid (nb.block _ (show w.heap.size < g by have := P0.out.lt; have := d1.size; omega))
 have hgt : w.heap.size < g := by have := P0.out.lt; have := d1.size; omega
 have X0 := hid ((P0.out.belowAll d1).below nb hgt)
 have Y0 := hid n0
 have Z0 := hid n1
 have G0 := hid ((B0.out.trans (d1.mono B0.out.size)).trans (nb.mono (by omega)))
 clear hW2 n0 n1 nb nz d1 hg P0 B0 HZ E0
 go_loopw [5] (fun i wr => ∃ m : Nat, m ≤ n ∧ i = .int .i64 ((m : Int) - 1) ∧ Blk wr w.heap.size 214 (A8 (zeros 8 17)) ∧ Blk wr g 214 (A8 LP) ∧ Blk wr (g + 1) 214 (A8 (byN 17 (numL (l.drop m) % prm))) ∧ Below w.heap.size w wr) (fun i _ => (intOf i + 1).toNat)
 case atStart => exact ⟨n, Nat.le_refl _, rfl, X0.out, Y0.out, by rw [List.drop_of_length_le (by omega)]; exact (byN_zero 17).symm ▸ Z0.out, G0.out⟩
 case round =>
  obtain ⟨m, hm, rfl, hX, hY, hZ, hG⟩ := hrel
  clear X0 Y0 Z0 G0
  by_cases hm0 : m = 0
  ·subst hm0
   have e1 : ((0 : Nat) : Int) - 1 = -1 := by omega
   rw [e1]
   clear e1
   rw [List.drop_zero] at hZ
   rw [HLF.out] at hZ
   have r1 := hZ.row
   have r2 := hX.row
   have r3 := hX.whole
   have B1 := hid hG
   clear hX hY hZ hG
   go_wp2
   refine bodyPost_row (A8 LF) rfl rfl rfl (Tryz.isAgg214 _) (Tryz.sizeOf214 _) (by rw [A8_size]; exact lf) (rowAt_setRow _ r3) ⟨rfl, below_setRow B1.out (by omega) _⟩
  ·obtain ⟨q, rfl⟩ : ∃ q, m = q + 1 := ⟨m - 1, by omega⟩
   have e1 : ((q + 1 : Nat) : Int) - 1 = (q : Int) := by omega
   rw [e1]
   have q0 : (0 : Int) ≤ (q : Int) := by omega
   have q1 : (q : Int) < (n : Int) := by omega
   obtain ⟨Q9, hQ9⟩ : ∃ z : Int, (q : Int) - 1 = z := ⟨_, rfl⟩
   have q2 : IntKind.i64.wrap Q9 = Q9 := by rw [IntKind.wrap_i64]; omega
   obtain ⟨b, o, rfl, hb, hc⟩ := LL.out.2.2.2 (by omega)
   have c0 := hc q (by omega)
   have hdr := numL_drop l q (by omega)
   obtain ⟨V, hV⟩ : ∃ V, V = numL (l.drop (q + 1)) := ⟨_, rfl⟩
   rw [← hV] at hdr hZ
   obtain ⟨x, hx⟩ : ∃ x, x = nth l q := ⟨_, rfl⟩
   rw [← hx] at c0 hdr
   have hxl := x.isLt
   obtain ⟨X, hXx⟩ : ∃ X, x.toNat = X := ⟨_, rfl⟩
   rw [hXx] at hxl hdr
   rw [← dvV_full] at hdr
   rw [← dvV_zero V X hxl] at hZ
   have X1 := hid hX
   have Y1 := hid hY
   have Z1 := hid hZ
   have G1 := hid hG
   have HD := hid hdr
   clear hX hY hZ hG hc hdr hV hx e1
   go_wp2_with fail
   go_loopw [6] (fun k wr => ∃ t : Nat, t ≤ 8 ∧ k = .int .i64 (7 - (t : Int)) ∧ Blk wr w.heap.size 214 (A8 (zeros 8 17)) ∧ Blk wr g 214 (A8 LP) ∧ Blk wr (g + 1) 214 (A8 (byN 17 (dvV V X t % prm))) ∧ Below w.heap.size w wr) (fun k _ => (intOf k + 1).toNat)
   case atStart => exact ⟨0, by omega, rfl, X1.out, Y1.out, Z1.out, G1.out⟩
   case round =>
    obtain ⟨t, ht, rfl, hX, hY, hZ, hG⟩ := hrel
    clear X1 Y1 Z1 G1
    by_cases ht8 : t < 8
    ·obtain ⟨s, hs⟩ : ∃ s, s = 7 - t := ⟨_, rfl⟩
     have e1 : (7 : Int) - (t : Int) = (s : Int) := by omega
     rw [e1]
     have s0 : (0 : Int) ≤ (s : Int) := by omega
     have sh := shr_natV 3 X s (by omega)
     have hnx := dvV_next V X t ht8
     rw [← hs] at hnx
     have hle : X / 2 ^ s ≤ X := Nat.div_le_self _ _
     obtain ⟨P, hP⟩ : ∃ P, P = X / 2 ^ s := ⟨_, rfl⟩
     rw [← hP] at sh hnx hle
     obtain ⟨C, hC⟩ : ∃ C, C = P % 2 := ⟨_, rfl⟩
     rw [← hC] at hnx
     have hC1 : C ≤ 1 := by omega
     have p1 : (P : Int) % 2 = (C : Int) := by omega
     have p2 : IntKind.i64.wrap (C : Int) = (C : Int) := by rw [IntKind.wrap_i64]; omega
     obtain ⟨S9, hS9⟩ : ∃ z : Int, (s : Int) - 1 = z := ⟨_, rfl⟩
     have s2 : IntKind.i64.wrap S9 = S9 := by rw [IntKind.wrap_i64]; omega
     have hrb := rest_bit (dvV V X t) C
     rw [← hnx] at hrb
     have hpp : 0 < prm := by decide
     have hNl := Nat.mod_lt (dvV V X t) hpp
     obtain ⟨N, hN⟩ : ∃ N, N = dvV V X t % prm := ⟨_, rfl⟩
     rw [← hN] at hrb hNl hZ
     have HRB := hid hrb
     have HNL := hid hNl
     have HS := hid (show s + t = 7 by omega)
     have c2 : wr.cell? ⟨b, o + q, none⟩ = some (v8 x) := by rw [hG.cell hb]; exact c0
     clear hs e1 hP hC hnx hrb hNl hN hpp
     have X2 := hid hX
     have Y2 := hid hY
     have Z2 := hid (mixN_zero 17 (2 * N + C) N ▸ hZ)
     have G2 := hid hG
     clear hX hY hZ hG
     go_wp2_with fail
     go_loopw [7, 8] (fun y z wr => ∃ j : Nat, j ≤ 17 ∧ z = .int .i64 j ∧ y = .int .i64 (dbC N C j : Nat) ∧ Blk wr w.heap.size 214 (A8 (zeros 8 17)) ∧ Blk wr g 214 (A8 LP) ∧ Blk wr (g + 1) 214 (A8 (mixN 17 (2 * N + C) N j)) ∧ Below w.heap.size w wr) (fun _ z _ => 17 - (intOf z).toNat)
     case atStart => exact ⟨0, by omega, rfl, by rw [dbC_zero, p1], X2.out, Y2.out, Z2.out, G2.out⟩
     case round =>
      obtain ⟨j, hj, rfl, rfl, hX, hY, hZ, hG⟩ := hrel
      have X3 := hid hX
      have Y3 := hid hY
      have Z3 := hid hZ
      have G3 := hid hG
      clear hX hY hZ hG X2 Y2 Z2 G2 c2 c0
      by_cases hj17 : j < 17
      ·have j1 : (j : Int) < 17 := by omega
       have j0 : (0 : Int) ≤ (j : Int) := by omega
       have hcl := dbC_le N C j hC1
       have hnx := dbC_next N C j
       have hby := dbC_byte N C j
       have hst := mixN_set 17 (2 * N + C) N j hj17
       have c1 := Z3.out.cell8 (mixN_length _ _ _ _) j hj17
       have fo := Z3.out.frozen j
       rw [nth_mixN _ _ _ _ _ hj17, if_neg (by omega)] at c1
       obtain ⟨u, hu⟩ : ∃ u, u = dgt N j := ⟨_, rfl⟩
       rw [← hu] at c1 hnx hby
       have hul := u.isLt
       obtain ⟨U, hU⟩ : ∃ U, u.toNat = U := ⟨_, rfl⟩
       rw [hU] at hul hnx hby
       obtain ⟨CA, hCA⟩ : ∃ CA, CA = dbC N C j := ⟨_, rfl⟩
       rw [← hCA] at hcl hnx hby ⊢
       obtain ⟨U2, hU2⟩ : ∃ U2, U2 = 2 * U := ⟨_, rfl⟩
       obtain ⟨S1, hS1⟩ : ∃ S, S = U2 + CA := ⟨_, rfl⟩
       rw [← hU2, ← hS1] at hnx hby
       obtain ⟨D, hD⟩ : ∃ D, D = S1 / 256 := ⟨_, rfl⟩
       obtain ⟨M, hM⟩ : ∃ M, M = S1 % 256 := ⟨_, rfl⟩
       rw [← hD] at hnx
       rw [← hM] at hby
       have a1 : (U : Int) * 2 = (U2 : Int) := by omega
       have a1' : 2 * (U : Int) = (U2 : Int) := by omega
       have a2 : IntKind.i64.wrap (U2 : Int) = (U2 : Int) := by rw [IntKind.wrap_i64]; omega
       have a3 : (U2 : Int) + (CA : Int) = (S1 : Int) := by omega
       have a4 : IntKind.i64.wrap (S1 : Int) = (S1 : Int) := by rw [IntKind.wrap_i64]; omega
       have a7 : (S1 : Int) / 256 = (D : Int) := by omega
       have a8 : IntKind.i64.wrap (D : Int) = (D : Int) := by rw [IntKind.wrap_i64]; omega
       have a9 : (S1 : Int) % 256 = (M : Int) := by omega
       have a10 : IntKind.i64.wrap (M : Int) = (M : Int) := by rw [IntKind.wrap_i64]; omega
       have HNX := hid hnx
       have HBY := hid hby
       clear hu hCA hU2 hS1 hD hM hnx hby
       obtain ⟨XX, hXX⟩ : ∃ X, X = BitVec.ofNat 8 M := ⟨_, rfl⟩
       obtain ⟨w4, hw4⟩ : ∃ z, z = wr.setCell ⟨g + 1, j, none⟩ (v8 XX) := ⟨_, rfl⟩
       have y1 := Z3.out.set_ j (v8 XX)
       have g1 := grown_setCell wr (g + 1) j (v8 XX)
       rw [A8_set, ← hw4, hXX, ← HBY.out, hst] at y1
       rw [← hw4] at g1
       have X4 := hid (X3.out.grown g1 (by simp; omega))
       have Y4 := hid (Y3.out.grown g1 (by simp))
       have Z4 := hid y1
       have G4 := hid (G3.out.trans (grown_below g1 (by omega) G3.out.size))
       have HW4 := hid hw4
       have HX := hid hXX
       clear y1 g1 hw4 hst X3 Y3 Z3 G3 hXX
       go_wp2
       rw [← HX.out, show wr.setCell ⟨g + 1, j, none⟩ (v8 XX) = w4 from HW4.out.symm]
       exact ⟨⟨j + 1, by omega, by go_num, by rw [HNX.out], X4.out, Y4.out, Z4.out, G4.out⟩, by simp [intOf]; omega⟩
      ·obtain rfl : j = 17 := by omega
       have hz := Z3.out
       rw [mixN_full] at hz
       have pb : 2 * N + C < 256 ^ 17 := by
        have h := HNL.out
        unfold prm at h
        rw [show (256 : Nat) ^ 17 = 2 ^ 136 from (by decide)]
        omega
       have hless := refLess_any (2 * N + C) prm wr pb (by decide)
       rw [HLP.out] at hless
       obtain ⟨LN, hLN⟩ : ∃ L, L = byN 17 (2 * N + C) := ⟨_, rfl⟩
       have ln : LN.length = 17 := by rw [hLN, byN_length]
       rw [← hLN] at hz hless
       have r1 := hz.row
       have r2 := Y3.out.row
       have Z4 := hid hz
       have HLN := hid hLN
       have HLE := hid hless
       clear Z3 hz hLN hless
       go_wp2_with fail
       refine (HLE.out).mono ?_
       rintro e w5 ⟨rfl, d5⟩
       have X5 := hid (X3.out.belowAll d5)
       have Y5 := hid (Y3.out.belowAll d5)
       have Z5 := hid (Z4.out.belowAll d5)
       have G5 := hid (G3.out.trans (d5.mono G3.out.size))
       clear X3 Y3 Z4 G3 d5 HLE r1 r2
       by_cases hlt : 2 * N + C < prm
       ·have hrb := HRB.out
        rw [if_pos hlt] at hrb
        have Z6 := Z5.out
        rw [HLN.out, ← hrb] at Z6
        have Z7 := hid Z6
        have hd : decide (2 * N + C < prm) = true := decide_eq_true hlt
        rw [hd]
        clear Z6 hrb hd hlt
        go_wp2
        have hS := HS.out
        exact ⟨⟨t + 1, by omega, by rw [← hS9]; congr 1; omega, X5.out, Y5.out, Z7.out, G5.out⟩, by simp [intOf]; omega⟩
       ·have hrb := HRB.out
        rw [if_neg hlt, rest_less N C HNL.out hC1 hlt] at hrb
        have hmin := refMinus17_any (2 * N + C) prm w5 (by omega)
        rw [← HLN.out, HLP.out, ← hrb] at hmin
        have HMI := hid hmin
        have r1 := Z5.out.row
        have r2 := Y5.out.row
        have hd : decide (2 * N + C < prm) = false := decide_eq_false hlt
        rw [hd]
        clear hmin hrb hd hlt
        go_wp2_with fail
        refine (HMI.out).mono ?_
        rintro e w6 ⟨rfl, d6⟩
        have Z6 := Z5.out.belowAll d6
        have r4 := Z6.row
        have r5 := Z6.whole
        have h17 := byN_length 17 (dvV V X (t + 1) % prm)
        have X6 := X5.out.belowAll d6
        have Y6 := Y5.out.belowAll d6
        have G6 := G5.out.trans (d6.mono G5.out.size)
        obtain ⟨LM, hLM⟩ : ∃ L, byN 17 (dvV V X (t + 1) % prm) = L := ⟨_, rfl⟩
        rw [hLM] at h17 ⊢
        have hg1 : g ≠ g + 1 := by omega
        have hw1 : w.heap.size ≠ g + 1 := by omega
        have Z7 := hid (Z6.put (A8 LM))
        have X7 := hid (X6.farRow hw1 (A8 LM))
        have Y7 := hid (Y6.farRow hg1 (A8 LM))
        have G7 := hid (below_setRow G6 (show w.heap.size ≤ g + 1 by omega) (A8 LM))
        have HLM := hid hLM
        clear Z6 X6 Y6 G6 hLM d6 X5 Y5 Z5 G5 HMI r1 r2
        go_wp2
        have hS := HS.out
        exact ⟨⟨t + 1, by omega, by rw [← hS9]; congr 1; omega, X7.out, Y7.out, by rw [HLM.out]; exact Z7.out, G7.out⟩, by simp [intOf]; omega⟩
    ·obtain rfl : t = 8 := by omega
     have e1 : (7 : Int) - ((8 : Nat) : Int) = -1 := by omega
     rw [e1]
     clear e1
     rw [← HD.out] at hZ
     have X2 := hid hX
     have Y2 := hid hY
     have Z2 := hid hZ
     have G2 := hid hG
     clear hX hY hZ hG
     go_wp2
     exact ⟨⟨q, by omega, by rw [← hQ9], X2.out, Y2.out, Z2.out, G2.out⟩, by simp [intOf]; omega⟩
open Go.RowKit
def adC (a b i : Nat) : Nat := (a % 256 ^ i + b % 256 ^ i) / 256 ^ i
theorem adC_zero (a b : Nat) : adC a b 0 = 0 := by simp [adC, Nat.mod_one]
theorem adC_le (a b i : Nat) : adC a b i ≤ 1 := by
 have h1 := Nat.mod_lt a (pow_pos256 i)
 have h2 := Nat.mod_lt b (pow_pos256 i)
 have : (a % 256 ^ i + b % 256 ^ i) / 256 ^ i < 2 := by rw [Nat.div_lt_iff_lt_mul (pow_pos256 i)]; omega
 unfold adC
 omega
theorem adC_sum (a b i : Nat) : a % 256 ^ (i + 1) + b % 256 ^ (i + 1) = 256 ^ i * (a / 256 ^ i % 256 + b / 256 ^ i % 256 + adC a b i) + (a % 256 ^ i + b % 256 ^ i) % 256 ^ i := by
 have h := Nat.div_add_mod (a % 256 ^ i + b % 256 ^ i) (256 ^ i)
 rw [mod_step, mod_step b, adC, Nat.mul_add (256 ^ i), Nat.add_assoc (256 ^ i * (a / 256 ^ i % 256 + b / 256 ^ i % 256)), h, Nat.mul_add, Nat.mul_comm (a / 256 ^ i % 256), Nat.mul_comm (b / 256 ^ i % 256)]
 omega
theorem adC_next (a b i : Nat) : adC a b (i + 1) = ((dgt a i).toNat + (dgt b i).toNat + adC a b i) / 256 := by
 rw [dgt_toNat, dgt_toNat]
 conv => lhs; rw [adC, adC_sum]
 rw [Nat.pow_succ, ← Nat.div_div_eq_div_mul, Nat.mul_add_div (pow_pos256 i), Nat.div_eq_of_lt (Nat.mod_lt _ (pow_pos256 i)), Nat.add_zero]
theorem adC_byte (a b i : Nat) : dgt (a + b) i = BitVec.ofNat 8 (((dgt a i).toNat + (dgt b i).toNat + adC a b i) % 256) := by
 apply BitVec.eq_of_toNat_eq
 rw [dgt_toNat, BitVec.toNat_ofNat, dgt_toNat, dgt_toNat]
 have e1 : (a + b) / 256 ^ i % 256 = (a + b) % 256 ^ (i + 1) / 256 ^ i := by rw [Nat.pow_succ, Nat.mod_mul_right_div_self]
 have e3 : ∀ x y : Nat, y < 256 ^ i → (256 ^ i * x + y) % 256 ^ (i + 1) / 256 ^ i = x % 256 := by
  intro x y hb
  rw [Nat.pow_succ, Nat.mod_mul_right_div_self, Nat.mul_add_div (pow_pos256 i), Nat.div_eq_of_lt hb, Nat.add_zero]
 rw [e1, Nat.add_mod, adC_sum, e3 _ _ (Nat.mod_lt _ (pow_pos256 i)), Nat.mod_mod]
theorem dgt_top (a i : Nat) (h : i < 16) : dgt (a + 256 ^ 16) i = dgt a i := by
 apply BitVec.eq_of_toNat_eq
 rw [dgt_toNat, dgt_toNat]
 obtain ⟨d, hd⟩ : ∃ d, 16 = (i + 1) + d := ⟨15 - i, by omega⟩
 rw [hd, Nat.pow_add, Nat.pow_succ, Nat.mul_assoc, Nat.add_mul_div_left _ _ (pow_pos256 i), Nat.add_mul_mod_self_left]
theorem mod_top (a i : Nat) (h : i ≤ 16) : (a + 256 ^ 16) % 256 ^ i = a % 256 ^ i := by
 obtain ⟨d, hd⟩ : ∃ d, 16 = i + d := ⟨16 - i, by omega⟩
 rw [hd, Nat.pow_add, Nat.add_mul_mod_self_left]
theorem dfC_top (a b i : Nat) (h : i ≤ 16) : dfC (a + 256 ^ 16) b i = dfC a b i := by rw [dfC, dfC, mod_top a i h]
theorem df16_byte (a b i : Nat) (h : b < 256 ^ 16) (hi : i < 16) : dgt (a + 256 ^ 16 - b) i = BitVec.ofNat 8 ((256 + (dgt a i).toNat - (dgt b i).toNat - dfC a b i) % 256) := by
 rw [dfC_byte _ _ _ (by omega), dgt_top a i hi, dfC_top a b i (by omega)]
theorem refPlus_any (a b : Nat) (w : World) :
  Calls Tryz.prog 49 #[.agg (A8 (byN 16 a)), .agg (A8 (byN 16 b))] w fun e w' => e = .returned (.agg (A8 (byN 16 (a + b)))) ∧ Below w.heap.size w w' := by
 obtain ⟨LA, hLA⟩ : ∃ L, L = byN 16 a := ⟨_, rfl⟩
 obtain ⟨LB, hLB⟩ : ∃ L, L = byN 16 b := ⟨_, rfl⟩
 have la : LA.length = 16 := by rw [hLA, byN_length]
 have lb : LB.length = 16 := by rw [hLB, byN_length]
 obtain ⟨LF, hLF⟩ : ∃ L, L = byN 16 (a + b) := ⟨_, rfl⟩
 have lf : LF.length = 16 := by rw [hLF, byN_length]
 rw [← hLA, ← hLB, ← hLF]
 obtain ⟨W, hW⟩ : ∃ W, (((w.alloc (.cells (A8 LA) 37)).alloc (.cells (A8 LB) 37)).alloc (.cells (A8 (zeros 8 16)) 37)).alloc (.cells (A8 (zeros 8 16)) 37) = W := ⟨_, rfl⟩
 obtain ⟨b0, b1, b2, b3, hb1, hz⟩ := new4 _ _ _ _ _ _ _ _ _ _ hW
 have P0 := hid b0
 have Q0 := hid b1
 have K0 := hid b2
 have Z0 := hid b3
 have B0 := hid hb1
 have HLA := hid hLA
 have HLB := hid hLB
 have HLF := hid hLF
 clear b0 b1 b2 b3 hb1 hz hLA hLB hLF
 go_enter Tryz.func49, Tryz.ntmps49
 go_wp2_with fail
 clear hW
 go_loopw [6, 7] (fun c i wr => ∃ j : Nat, j ≤ 16 ∧ i = .int .i64 j ∧ c = .int .i64 (adC a b j : Nat) ∧ Blk wr w.heap.size 37 (A8 LA) ∧ Blk wr (w.heap.size + 1) 37 (A8 LB) ∧ Blk wr (w.heap.size + 2) 37 (A8 (zeros 8 16)) ∧ Blk wr (w.heap.size + 3) 37 (A8 (mixN 16 (a + b) 0 j)) ∧ Below w.heap.size w wr) (fun _ i _ => 16 - (intOf i).toNat)
 case atStart => exact ⟨0, by omega, rfl, by rw [adC_zero]; rfl, P0.out, Q0.out, K0.out, by rw [mixN_zero, byN_zero]; exact Z0.out, B0.out⟩
 case round =>
  obtain ⟨j, hj, rfl, rfl, hP, hQ, hK, hZ, hB⟩ := hrel
  have P1 := hid hP
  have Q1 := hid hQ
  have K1 := hid hK
  have Z1 := hid hZ
  have B1 := hid hB
  clear hP hQ hK hZ hB P0 Q0 K0 Z0 B0
  by_cases hj16 : j < 16
  ·have j1 : (j : Int) < 16 := by omega
   have j0 : (0 : Int) ≤ (j : Int) := by omega
   have hcl := adC_le a b j
   have hnx := adC_next a b j
   have hby := adC_byte a b j
   have hst := mixN_set 16 (a + b) 0 j hj16
   have c1 := P1.out.drew.cell8 la j hj16
   have c2 := Q1.out.drew.cell8 lb j hj16
   rw [show nth LA j = dgt a j by rw [HLA.out, nth_byN _ _ _ hj16]] at c1
   rw [show nth LB j = dgt b j by rw [HLB.out, nth_byN _ _ _ hj16]] at c2
   obtain ⟨x, hx⟩ : ∃ x, x = dgt a j := ⟨_, rfl⟩
   obtain ⟨y, hy⟩ : ∃ y, y = dgt b j := ⟨_, rfl⟩
   rw [← hx] at c1 hnx hby
   rw [← hy] at c2 hnx hby
   clear hx hy
   have hxl := x.isLt
   have hyl := y.isLt
   obtain ⟨X, hX⟩ : ∃ X, x.toNat = X := ⟨_, rfl⟩
   obtain ⟨Y, hY⟩ : ∃ Y, y.toNat = Y := ⟨_, rfl⟩
   rw [hX] at hxl hnx hby
   rw [hY] at hyl hnx hby
   obtain ⟨C, hC⟩ : ∃ C, C = adC a b j := ⟨_, rfl⟩
   rw [← hC] at hcl hnx hby ⊢
   clear hC
   obtain ⟨S2, hS2⟩ : ∃ S, S = X + Y := ⟨_, rfl⟩
   obtain ⟨S3, hS3⟩ : ∃ S, S = S2 + C := ⟨_, rfl⟩
   rw [← hS2, ← hS3] at hnx hby
   obtain ⟨D, hD⟩ : ∃ D, D = S3 / 256 := ⟨_, rfl⟩
   obtain ⟨M, hM⟩ : ∃ M, M = S3 % 256 := ⟨_, rfl⟩
   rw [← hD] at hnx
   rw [← hM] at hby
   have a3 : (X : Int) + (Y : Int) = (S2 : Int) := by omega
   have a4 : IntKind.i64.wrap (S2 : Int) = (S2 : Int) := by rw [IntKind.wrap_i64]; omega
   have a5 : (S2 : Int) + (C : Int) = (S3 : Int) := by omega
   have a6 : IntKind.i64.wrap (S3 : Int) = (S3 : Int) := by rw [IntKind.wrap_i64]; omega
   have a7 : (S3 : Int) / 256 = (D : Int) := by omega
   have a8 : IntKind.i64.wrap (D : Int) = (D : Int) := by rw [IntKind.wrap_i64]; omega
   have a9 : (S3 : Int) % 256 = (M : Int) := by omega
   have a10 : IntKind.i64.wrap (M : Int) = (M : Int) := by rw [IntKind.wrap_i64]; omega
   have HNX := hid hnx
   have HBY := hid hby
   have HST := hid hst
   clear hS2 hS3 hD hM hnx hby hst
   go_upto_region 6 with fail
   refine wp_region_text3' [0,0,1,0,0,0,1,0,0,0,0,0] (by kernel_rfl) (by kernel_rfl) (fun ops' K2 hK2 => ?_)
   repeat
    (first
     | (with_reducible refine z_move (a' := ?_) ?_ ?_); rotate_left
     | (with_reducible refine z_assign (a' := ?_) ?_ ?_); rotate_left
     | (with_reducible refine z_obl (v := ?_) (a' := ?_) rfl (fun _ => ?_) ?_ ?_); rotate_left 2; (focus (go_simp; (try go_bits); exact rfl))
     | (with_reducible refine z_read (v := ?_) (a' := ?_) rfl ?_ ?_ ?_); rotate_left 2; (focus (go_simp; (try go_bits); exact rfl)))
    focus (simp only [Act.put, zz1, zz2, zz3, Act.eval, zz4, zz5, zz6, zz7, zz8]; exact rfl)
   refine z_nil (hK2 _ _ ?_)
   clear hK2 c1 c2
   have P2 := P1.out.drew
   have Q2 := Q1.out.drew
   have K2 := K1.out.drew
   have Z2 := Z1.out.drew
   have B2 := B1.out.drew
   clear P1 Q1 K1 Z1 B1
   generalize wr.drew = wd at *
   have c3 := Z2.cell8 (mixN_length _ _ _ _) j hj16
   have fo := Z2.frozen j
   obtain ⟨XX, hXX⟩ : ∃ X, X = BitVec.ofNat 8 M := ⟨_, rfl⟩
   obtain ⟨w1, hw1⟩ : ∃ z, z = wd.setCell ⟨w.heap.size + 3, j, none⟩ (v8 XX) := ⟨_, rfl⟩
   have y1 := Z2.set_ j (v8 XX)
   have g1 := grown_setCell wd (w.heap.size + 3) j (v8 XX)
   rw [A8_set, ← hw1, hXX, ← HBY.out, HST.out] at y1
   rw [← hw1] at g1
   have P3 := hid (P2.grown g1 (by simp))
   have Q3 := hid (Q2.grown g1 (by simp))
   have K3 := hid (K2.grown g1 (by simp))
   have Z3 := hid y1
   have B3 := hid (B2.trans (grown_below g1 (by omega) B2.size))
   have HW1 := hid hw1
   have HX := hid hXX
   clear y1 g1 hw1 P2 Q2 K2 Z2 B2 hXX
   go_wp2
   rw [← HX.out, show wd.setCell ⟨w.heap.size + 3, j, none⟩ (v8 XX) = w1 from HW1.out.symm]
   exact ⟨⟨j + 1, by omega, by go_num, by rw [HNX.out], P3.out, Q3.out, K3.out, Z3.out, B3.out⟩, by simp [intOf]; omega⟩
  ·obtain rfl : j = 16 := by omega
   have zz := Z1.out
   rw [mixN_full, ← HLF.out] at zz
   have r1 := zz.row
   have r2 := K1.out.row
   have r3 := K1.out.whole
   clear zz
   go_wp2
   refine bodyPost_row (A8 LF) rfl rfl rfl (Tryz.isAgg37 _) (Tryz.sizeOf37 _) (by rw [A8_size]; exact lf) (rowAt_setRow _ r3) ⟨rfl, below_setRow B1.out (by omega) _⟩
theorem refMinus_any (a b : Nat) (w : World) (hbl : b < 256 ^ 16) :
  Calls Tryz.prog 52 #[.agg (A8 (byN 16 a)), .agg (A8 (byN 16 b))] w fun e w' => e = .returned (.agg (A8 (byN 16 (a + 256 ^ 16 - b)))) ∧ Below w.heap.size w w' := by
 obtain ⟨LA, hLA⟩ : ∃ L, L = byN 16 a := ⟨_, rfl⟩
 obtain ⟨LB, hLB⟩ : ∃ L, L = byN 16 b := ⟨_, rfl⟩
 have la : LA.length = 16 := by rw [hLA, byN_length]
 have lb : LB.length = 16 := by rw [hLB, byN_length]
 obtain ⟨LF, hLF⟩ : ∃ L, L = byN 16 (a + 256 ^ 16 - b) := ⟨_, rfl⟩
 have lf : LF.length = 16 := by rw [hLF, byN_length]
 rw [← hLA, ← hLB, ← hLF]
 obtain ⟨W, hW⟩ : ∃ W, (((w.alloc (.cells (A8 LA) 37)).alloc (.cells (A8 LB) 37)).alloc (.cells (A8 (zeros 8 16)) 37)).alloc (.cells (A8 (zeros 8 16)) 37) = W := ⟨_, rfl⟩
 obtain ⟨b0, b1, b2, b3, hb1, hz⟩ := new4 _ _ _ _ _ _ _ _ _ _ hW
 have P0 := hid b0
 have Q0 := hid b1
 have K0 := hid b2
 have Z0 := hid b3
 have B0 := hid hb1
 have HLA := hid hLA
 have HLB := hid hLB
 have HLF := hid hLF
 clear b0 b1 b2 b3 hb1 hz hLA hLB hLF
 go_enter Tryz.func52, Tryz.ntmps52
 go_wp2_with fail
 clear hW
 go_loopw [6, 7] (fun c i wr => ∃ j : Nat, j ≤ 16 ∧ i = .int .i64 j ∧ c = .int .i64 (dfC a b j : Nat) ∧ Blk wr w.heap.size 37 (A8 LA) ∧ Blk wr (w.heap.size + 1) 37 (A8 LB) ∧ Blk wr (w.heap.size + 2) 37 (A8 (zeros 8 16)) ∧ Blk wr (w.heap.size + 3) 37 (A8 (mixN 16 (a + 256 ^ 16 - b) 0 j)) ∧ Below w.heap.size w wr) (fun _ i _ => 16 - (intOf i).toNat)
 case atStart => exact ⟨0, by omega, rfl, by rw [dfC_zero]; rfl, P0.out, Q0.out, K0.out, by rw [mixN_zero, byN_zero]; exact Z0.out, B0.out⟩
 case round =>
  obtain ⟨j, hj, rfl, rfl, hP, hQ, hK, hZ, hB⟩ := hrel
  have P1 := hid hP
  have Q1 := hid hQ
  have K1 := hid hK
  have Z1 := hid hZ
  have B1 := hid hB
  clear hP hQ hK hZ hB P0 Q0 K0 Z0 B0
  by_cases hj16 : j < 16
  ·have j1 : (j : Int) < 16 := by omega
   have j0 : (0 : Int) ≤ (j : Int) := by omega
   have hcl := dfC_le a b j
   have hnx := dfC_next a b j
   have hby := df16_byte a b j hbl hj16
   have hst := mixN_set 16 (a + 256 ^ 16 - b) 0 j hj16
   have c1 := P1.out.drew.cell8 la j hj16
   have c2 := Q1.out.drew.cell8 lb j hj16
   rw [show nth LA j = dgt a j by rw [HLA.out, nth_byN _ _ _ hj16]] at c1
   rw [show nth LB j = dgt b j by rw [HLB.out, nth_byN _ _ _ hj16]] at c2
   obtain ⟨x, hx⟩ : ∃ x, x = dgt a j := ⟨_, rfl⟩
   obtain ⟨y, hy⟩ : ∃ y, y = dgt b j := ⟨_, rfl⟩
   rw [← hx] at c1 hnx hby
   rw [← hy] at c2 hnx hby
   clear hx hy
   have hxl := x.isLt
   have hyl := y.isLt
   obtain ⟨X, hX⟩ : ∃ X, x.toNat = X := ⟨_, rfl⟩
   obtain ⟨Y, hY⟩ : ∃ Y, y.toNat = Y := ⟨_, rfl⟩
   rw [hX] at hxl hnx hby
   rw [hY] at hyl hnx hby
   obtain ⟨C, hC⟩ : ∃ C, C = dfC a b j := ⟨_, rfl⟩
   rw [← hC] at hcl hnx hby ⊢
   clear hC
   obtain ⟨S1, hS1⟩ : ∃ S, S = 256 + X := ⟨_, rfl⟩
   obtain ⟨S2, hS2⟩ : ∃ S, S = S1 - Y := ⟨_, rfl⟩
   obtain ⟨S3, hS3⟩ : ∃ S, S = S2 - C := ⟨_, rfl⟩
   rw [← hS1, ← hS2, ← hS3] at hnx hby
   obtain ⟨D, hD⟩ : ∃ D, D = S3 / 256 := ⟨_, rfl⟩
   obtain ⟨M, hM⟩ : ∃ M, M = S3 % 256 := ⟨_, rfl⟩
   obtain ⟨C2, hC2⟩ : ∃ C2, C2 = dfC a b (j + 1) := ⟨_, rfl⟩
   rw [← hD, ← hC2] at hnx
   rw [← hM] at hby
   have a1 : 256 + (X : Int) = (S1 : Int) := by omega
   have a2 : IntKind.i64.wrap (S1 : Int) = (S1 : Int) := by rw [IntKind.wrap_i64]; omega
   have a3 : (S1 : Int) - (Y : Int) = (S2 : Int) := by omega
   have a4 : IntKind.i64.wrap (S2 : Int) = (S2 : Int) := by rw [IntKind.wrap_i64]; omega
   have a5 : (S2 : Int) - (C : Int) = (S3 : Int) := by omega
   have a6 : IntKind.i64.wrap (S3 : Int) = (S3 : Int) := by rw [IntKind.wrap_i64]; omega
   have a7 : (S3 : Int) / 256 = (D : Int) := by omega
   have a8 : IntKind.i64.wrap (D : Int) = (D : Int) := by rw [IntKind.wrap_i64]; omega
   have a9 : (S3 : Int) % 256 = (M : Int) := by omega
   have a10 : IntKind.i64.wrap (M : Int) = (M : Int) := by rw [IntKind.wrap_i64]; omega
   have a11 : 1 - (D : Int) = (C2 : Int) := by omega
   have a12 : IntKind.i64.wrap (C2 : Int) = (C2 : Int) := by rw [IntKind.wrap_i64]; omega
   have HC2 := hid hC2
   have HBY := hid hby
   have HST := hid hst
   clear hS1 hS2 hS3 hD hM hC2 hnx hby hst
   go_upto_region 6 with fail
   refine wp_region_text3' [0,0,1,0,0,0,0,1,0,0,0,0,0] (by kernel_rfl) (by kernel_rfl) (fun ops' K2 hK2 => ?_)
   repeat
    (first
     | (with_reducible refine z_move (a' := ?_) ?_ ?_); rotate_left
     | (with_reducible refine z_assign (a' := ?_) ?_ ?_); rotate_left
     | (with_reducible refine z_obl (v := ?_) (a' := ?_) rfl (fun _ => ?_) ?_ ?_); rotate_left 2; (focus (go_simp; (try go_bits); exact rfl))
     | (with_reducible refine z_read (v := ?_) (a' := ?_) rfl ?_ ?_ ?_); rotate_left 2; (focus (go_simp; (try go_bits); exact rfl)))
    focus (simp only [Act.put, zz1, zz2, zz3, Act.eval, zz4, zz5, zz6, zz7, zz8]; exact rfl)
   refine z_nil (hK2 _ _ ?_)
   clear hK2 c1 c2
   have P2 := P1.out.drew
   have Q2 := Q1.out.drew
   have K2 := K1.out.drew
   have Z2 := Z1.out.drew
   have B2 := B1.out.drew
   clear P1 Q1 K1 Z1 B1
   generalize wr.drew = wd at *
   have c3 := Z2.cell8 (mixN_length _ _ _ _) j hj16
   have fo := Z2.frozen j
   obtain ⟨XX, hXX⟩ : ∃ X, X = BitVec.ofNat 8 M := ⟨_, rfl⟩
   obtain ⟨w1, hw1⟩ : ∃ z, z = wd.setCell ⟨w.heap.size + 3, j, none⟩ (v8 XX) := ⟨_, rfl⟩
   have y1 := Z2.set_ j (v8 XX)
   have g1 := grown_setCell wd (w.heap.size + 3) j (v8 XX)
   rw [A8_set, ← hw1, hXX, ← HBY.out, HST.out] at y1
   rw [← hw1] at g1
   have P3 := hid (P2.grown g1 (by simp))
   have Q3 := hid (Q2.grown g1 (by simp))
   have K3 := hid (K2.grown g1 (by simp))
   have Z3 := hid y1
   have B3 := hid (B2.trans (grown_below g1 (by omega) B2.size))
   have HW1 := hid hw1
   have HX := hid hXX
   clear y1 g1 hw1 P2 Q2 K2 Z2 B2 hXX
   go_wp2
   rw [← HX.out, show wd.setCell ⟨w.heap.size + 3, j, none⟩ (v8 XX) = w1 from HW1.out.symm]
   exact ⟨⟨j + 1, by omega, by go_num, by rw [HC2.out], P3.out, Q3.out, K3.out, Z3.out, B3.out⟩, by simp [intOf]; omega⟩
  ·obtain rfl : j = 16 := by omega
   have zz := Z1.out
   rw [mixN_full, ← HLF.out] at zz
   have r1 := zz.row
   have r2 := K1.out.row
   have r3 := K1.out.whole
   clear zz
   go_wp2
   refine bodyPost_row (A8 LF) rfl rfl rfl (Tryz.isAgg37 _) (Tryz.sizeOf37 _) (by rw [A8_size]; exact lf) (rowAt_setRow _ r3) ⟨rfl, below_setRow B1.out (by omega) _⟩
theorem byN_append (k m n : Nat) : byN (k + m) n = byN k n ++ byN m (n / 256 ^ k) := by
 unfold byN
 rw [List.range_add, List.map_append, List.map_map]
 congr 1
 refine List.map_congr_left fun i _ => ?_
 show dgt n (k + i) = dgt (n / 256 ^ k) i
 rw [dgt, dgt, Nat.pow_add, Nat.div_div_eq_div_mul]
theorem byN_mod (k n : Nat) : byN k (n % 256 ^ k) = byN k n := by
 unfold byN
 refine List.map_congr_left fun i hi => ?_
 have hik := List.mem_range.1 hi
 apply BitVec.eq_of_toNat_eq
 rw [dgt_toNat, dgt_toNat]
 obtain ⟨d, hd⟩ : ∃ d, k = i + (1 + d) := ⟨k - i - 1, by omega⟩
 rw [hd, Nat.pow_add, Nat.mod_mul_right_div_self, Nat.pow_add, Nat.pow_one, Nat.mod_mul_right_mod]
theorem le64_byN (y : BitVec 64) : le64 y = byN 8 y.toNat := by
 apply ext_nth
 ·simp [le64]
 ·intro i hi
  have hi8 : i < 8 := by simpa [le64] using hi
  rw [nth_le64x _ _ hi8, nth_byN _ _ _ hi8]
  apply BitVec.eq_of_toNat_eq
  rw [dgt_toNat, BitVec.toNat_setWidth, BitVec.toNat_ushiftRight, Nat.shiftRight_eq_div_pow, Nat.pow_mul]
theorem le64_pair (x y : BitVec 64) : le64 x ++ le64 y = byN 16 (x.toNat + 256 ^ 8 * y.toNat) := by
 have hx := x.isLt
 rw [show 16 = 8 + 8 from rfl, byN_append, le64_byN, le64_byN]
 congr 1
 ·rw [← byN_mod 8 (x.toNat + _), Nat.add_mul_mod_self_left, byN_mod]
 ·rw [Nat.add_mul_div_left _ _ (pow_pos256 8), Nat.div_eq_of_lt (by rw [show (256 : Nat) ^ 8 = 2 ^ 64 from rfl]; exact hx), Nat.zero_add]
theorem numL_byN (k n : Nat) (h : n < 256 ^ k) : numL (byN k n) = n := by
 induction k generalizing n with
 | zero => rw [Nat.pow_zero] at h; rw [show n = 0 by omega]; rfl
 | succ k ih =>
  rw [show k + 1 = 1 + k by omega, byN_append]
  show (dgt n 0).toNat + 256 * numL (byN k (n / 256 ^ 1)) = n
  rw [ih _ (by rw [Nat.div_lt_iff_lt_mul (pow_pos256 1), ← Nat.pow_add]; exact h), dgt_toNat, Nat.pow_zero, Nat.div_one, Nat.pow_one]
  omega
open Go.RowKit
@[go_sem high] theorem v8_rem16 (t : TypeId) (a : BitVec 8) : binOp .rem t (v8 a) (.int .u8 16) = pure (v8 (a % 16#8)) := by
 simp [v8, binOp, Op.intDiv, Int.tmod_eq_emod_of_nonneg]
@[go_sem high] theorem v8_quo4 (t : TypeId) (a : BitVec 8) : binOp .quo t (v8 a) (.int .u8 4) = pure (v8 (a / 4#8)) := by
 have h := a.isLt
 have e : IntKind.u8.wrap ((a.toNat / 4 : Nat) : Int) = ((a.toNat / 4 : Nat) : Int) := by
  rw [wrap_bv .u8 rfl, BitVec.ofInt_natCast]
  show (((BitVec.ofNat 8 (a.toNat / 4)).toNat : Nat) : Int) = _
  rw [BitVec.toNat_ofNat, Nat.mod_eq_of_lt (by omega)]
 simp only [v8, binOp, Op.intDiv]
 rw [Int.tdiv_eq_ediv_of_nonneg (by omega), show ((a.toNat : Int) / 4) = ((a.toNat / 4 : Nat) : Int) by omega, e]
 simp
def clB (i : Nat) (b : BitVec 8) : BitVec 8 := if i % 4 = 3 then b % 16#8 else if i = 4 ∨ i = 8 ∨ i = 12 then b / 4#8 * 4#8 else b
def clTo (l : List (BitVec 8)) (j : Nat) : List (BitVec 8) := (List.range 16).map fun i => if i < j then clB i (nth l i) else nth l i
def clR (l : List (BitVec 8)) : List (BitVec 8) := (List.range 16).map fun i => clB i (nth l i)
@[simp] theorem clTo_length (l : List (BitVec 8)) (j : Nat) : (clTo l j).length = 16 := by simp [clTo]
@[simp] theorem clR_length (l : List (BitVec 8)) : (clR l).length = 16 := by simp [clR]
theorem nth_clTo (l : List (BitVec 8)) (j i : Nat) (h : i < 16) : nth (clTo l j) i = if i < j then clB i (nth l i) else nth l i := nth_range_map _ i h
theorem clTo_zero (l : List (BitVec 8)) (h : l.length = 16) : clTo l 0 = l := by
 apply ext_nth
 ·simp [h]
 ·intro i hi
  rw [nth_clTo _ _ _ (by simpa using hi), if_neg (by omega)]
theorem clTo_full (l : List (BitVec 8)) : clTo l 16 = clR l := by
 unfold clTo clR
 exact List.map_congr_left fun i hi => by rw [if_pos (List.mem_range.1 hi)]
theorem clTo_set (l : List (BitVec 8)) (j : Nat) (hj : j < 16) : (clTo l j).set j (clB j (nth l j)) = clTo l (j + 1) := by
 apply ext_nth
 ·simp
 ·intro i hi
  have hi' : i < 16 := by simpa using hi
  rw [nth_set _ _ _ _ (by simp; exact hj), nth_clTo _ _ _ hi', nth_clTo _ _ _ hi']
  by_cases e : j = i
  ·subst e; rw [if_pos rfl, if_pos (by omega)]
  ·rw [if_neg e]
   by_cases hij : i < j
   ·rw [if_pos hij, if_pos (by omega)]
   ·rw [if_neg hij, if_neg (by omega)]
theorem clTo_keep (l : List (BitVec 8)) (j : Nat) (hj : j < 16) (h : clB j (nth l j) = nth l j) : clTo l j = clTo l (j + 1) := by
 rw [← clTo_set l j hj, h]
 apply ext_nth
 ·simp
 ·intro i hi
  have hi' : i < 16 := by simpa using hi
  rw [nth_set _ _ _ _ (by simp; exact hj)]
  by_cases e : j = i
  ·subst e; rw [if_pos rfl, nth_clTo _ _ _ hi', if_neg (by omega)]
  ·rw [if_neg e]
set_option linter.unusedVariables false in
theorem refClamp_any (l : List (BitVec 8)) (w : World) (hl : l.length = 16) :
  Calls Tryz.prog 182 #[.agg (A8 l)] w fun e w' => e = .returned (.agg (A8 (clR l))) ∧ Below w.heap.size w w' := by
 obtain ⟨LF, hLF⟩ : ∃ L, L = clR l := ⟨_, rfl⟩
 have lf : LF.length = 16 := by rw [hLF, clR_length]
 rw [← hLF]
 have HLF := hid hLF
 obtain ⟨W, hW⟩ : ∃ W, (w.alloc (.cells (A8 l) 37)).alloc (.cells (A8 (zeros 8 16)) 37) = W := ⟨_, rfl⟩
 obtain ⟨b0, b1, hb, hz⟩ := new2 _ _ _ _ _ _ hW
 have P0 := hid b0
 have Z0 := hid b1
 have B0 := hid hb
 clear b0 b1 hb hz hLF
 go_enter Tryz.func182, Tryz.ntmps182
 go_wp2_with fail
 clear hW
 go_loopw [3] (fun i wr => ∃ j : Nat, j ≤ 16 ∧ i = .int .i64 j ∧ Blk wr w.heap.size 37 (A8 (clTo l j)) ∧ Blk wr (w.heap.size + 1) 37 (A8 (zeros 8 16)) ∧ Below w.heap.size w wr) (fun i _ => 16 - (intOf i).toNat)
 case atStart => exact ⟨0, by omega, rfl, by rw [clTo_zero l hl]; exact P0.out, Z0.out, B0.out⟩
 case round =>
  obtain ⟨j, hj, rfl, hP, hZ, hB⟩ := hrel
  clear P0 Z0 B0
  by_cases hj16 : j < 16
  ·have c1 := hP.cell8 (clTo_length _ _) j hj16
   have fo := hP.frozen j
   rw [nth_clTo _ _ _ hj16, if_neg (by omega)] at c1
   have hst := clTo_set l j hj16
   have hke := clTo_keep l j hj16
   obtain ⟨x, hx⟩ : ∃ x, x = nth l j := ⟨_, rfl⟩
   rw [← hx] at c1 hst hke
   clear hx
   obtain ⟨X, hX⟩ : ∃ X, X = clB j x := ⟨_, rfl⟩
   rw [← hX] at hst hke
   obtain ⟨w1, hw1⟩ : ∃ z, z = wr.setCell ⟨w.heap.size, j, none⟩ (v8 X) := ⟨_, rfl⟩
   have y1 := hP.set_ j (v8 X)
   have g1 := grown_setCell wr (w.heap.size) j (v8 X)
   rw [A8_set, ← hw1, hst] at y1
   rw [← hw1] at g1
   have P2 := hid y1
   have Z2 := hid (hZ.grown g1 (by simp))
   have B2 := hid (hB.trans (grown_below g1 (by omega) hB.size))
   have HP := hid hP
   have HZ := hid hZ
   have HB := hid hB
   have HX := hid hX
   have HW := hid hw1
   have HK := hid hke
   clear y1 g1 hP hZ hB hst hX hw1 hke
   obtain rfl | rfl | rfl | rfl | rfl | rfl | rfl | rfl | rfl | rfl | rfl | rfl | rfl | rfl | rfl | rfl : j = 3 ∨ j = 7 ∨ j = 11 ∨ j = 15 ∨ j = 4 ∨ j = 8 ∨ j = 12 ∨ j = 0 ∨ j = 1 ∨ j = 2 ∨ j = 5 ∨ j = 6 ∨ j = 9 ∨ j = 10 ∨ j = 13 ∨ j = 14 := by omega
   ·go_wp2
    have hx := HX.out
    rw [clB, if_pos (by omega)] at hx
    have hw := HW.out
    rw [hx] at hw
    rw [← hw]
    exact ⟨⟨3 + 1, by omega, rfl, P2.out, Z2.out, B2.out⟩, by simp [intOf]⟩
   ·go_wp2
    have hx := HX.out
    rw [clB, if_pos (by omega)] at hx
    have hw := HW.out
    rw [hx] at hw
    rw [← hw]
    exact ⟨⟨7 + 1, by omega, rfl, P2.out, Z2.out, B2.out⟩, by simp [intOf]⟩
   ·go_wp2
    have hx := HX.out
    rw [clB, if_pos (by omega)] at hx
    have hw := HW.out
    rw [hx] at hw
    rw [← hw]
    exact ⟨⟨11 + 1, by omega, rfl, P2.out, Z2.out, B2.out⟩, by simp [intOf]⟩
   ·go_wp2
    have hx := HX.out
    rw [clB, if_pos (by omega)] at hx
    have hw := HW.out
    rw [hx] at hw
    rw [← hw]
    exact ⟨⟨15 + 1, by omega, rfl, P2.out, Z2.out, B2.out⟩, by simp [intOf]⟩
   ·go_wp2
    have hx := HX.out
    rw [clB, if_neg (by omega), if_pos (by omega)] at hx
    have hw := HW.out
    rw [hx] at hw
    rw [← hw]
    exact ⟨⟨4 + 1, by omega, rfl, P2.out, Z2.out, B2.out⟩, by simp [intOf]⟩
   ·go_wp2
    have hx := HX.out
    rw [clB, if_neg (by omega), if_pos (by omega)] at hx
    have hw := HW.out
    rw [hx] at hw
    rw [← hw]
    exact ⟨⟨8 + 1, by omega, rfl, P2.out, Z2.out, B2.out⟩, by simp [intOf]⟩
   ·go_wp2
    have hx := HX.out
    rw [clB, if_neg (by omega), if_pos (by omega)] at hx
    have hw := HW.out
    rw [hx] at hw
    rw [← hw]
    exact ⟨⟨12 + 1, by omega, rfl, P2.out, Z2.out, B2.out⟩, by simp [intOf]⟩
   ·have hx := HX.out
    rw [clB, if_neg (by omega), if_neg (by omega)] at hx
    have hk := HK.out hx
    have PP := HP.out
    rw [hk] at PP
    have PQ := hid PP
    clear hk hx PP
    go_wp2
    exact ⟨⟨0 + 1, by omega, rfl, PQ.out, HZ.out, HB.out⟩, by simp [intOf]⟩
   ·have hx := HX.out
    rw [clB, if_neg (by omega), if_neg (by omega)] at hx
    have hk := HK.out hx
    have PP := HP.out
    rw [hk] at PP
    have PQ := hid PP
    clear hk hx PP
    go_wp2
    exact ⟨⟨1 + 1, by omega, rfl, PQ.out, HZ.out, HB.out⟩, by simp [intOf]⟩
   ·have hx := HX.out
    rw [clB, if_neg (by omega), if_neg (by omega)] at hx
    have hk := HK.out hx
    have PP := HP.out
    rw [hk] at PP
    have PQ := hid PP
    clear hk hx PP
    go_wp2
    exact ⟨⟨2 + 1, by omega, rfl, PQ.out, HZ.out, HB.out⟩, by simp [intOf]⟩
   ·have hx := HX.out
    rw [clB, if_neg (by omega), if_neg (by omega)] at hx
    have hk := HK.out hx
    have PP := HP.out
    rw [hk] at PP
    have PQ := hid PP
    clear hk hx PP
    go_wp2
    exact ⟨⟨5 + 1, by omega, rfl, PQ.out, HZ.out, HB.out⟩, by simp [intOf]⟩
   ·have hx := HX.out
    rw [clB, if_neg (by omega), if_neg (by omega)] at hx
    have hk := HK.out hx
    have PP := HP.out
    rw [hk] at PP
    have PQ := hid PP
    clear hk hx PP
    go_wp2
    exact ⟨⟨6 + 1, by omega, rfl, PQ.out, HZ.out, HB.out⟩, by simp [intOf]⟩
   ·have hx := HX.out
    rw [clB, if_neg (by omega), if_neg (by omega)] at hx
    have hk := HK.out hx
    have PP := HP.out
    rw [hk] at PP
    have PQ := hid PP
    clear hk hx PP
    go_wp2
    exact ⟨⟨9 + 1, by omega, rfl, PQ.out, HZ.out, HB.out⟩, by simp [intOf]⟩
   ·have hx := HX.out
    rw [clB, if_neg (by omega), if_neg (by omega)] at hx
    have hk := HK.out hx
    have PP := HP.out
    rw [hk] at PP
    have PQ := hid PP
    clear hk hx PP
    go_wp2
    exact ⟨⟨10 + 1, by omega, rfl, PQ.out, HZ.out, HB.out⟩, by simp [intOf]⟩
   ·have hx := HX.out
    rw [clB, if_neg (by omega), if_neg (by omega)] at hx
    have hk := HK.out hx
    have PP := HP.out
    rw [hk] at PP
    have PQ := hid PP
    clear hk hx PP
    go_wp2
    exact ⟨⟨13 + 1, by omega, rfl, PQ.out, HZ.out, HB.out⟩, by simp [intOf]⟩
   ·have hx := HX.out
    rw [clB, if_neg (by omega), if_neg (by omega)] at hx
    have hk := HK.out hx
    have PP := HP.out
    rw [hk] at PP
    have PQ := hid PP
    clear hk hx PP
    go_wp2
    exact ⟨⟨14 + 1, by omega, rfl, PQ.out, HZ.out, HB.out⟩, by simp [intOf]⟩
  ·obtain rfl : j = 16 := by omega
   rw [clTo_full, ← HLF.out] at hP
   have r1 := hP.row
   have r2 := hZ.row
   have r3 := hZ.whole
   have B1 := hid hB
   clear hP hZ hB
   go_wp2
   refine bodyPost_row (A8 LF) rfl rfl rfl (Tryz.isAgg37 _) (Tryz.sizeOf37 _) (by rw [A8_size]; exact lf) (rowAt_setRow _ r3) ⟨rfl, below_setRow B1.out (by omega) _⟩
open Go.RowKit
theorem numL_append (a b : List (BitVec 8)) : numL (a ++ b) = numL a + 256 ^ a.length * numL b := by
 induction a with
 | nil => simp [numL]
 | cons x a ih =>
  show x.toNat + 256 * numL (a ++ b) = x.toNat + 256 * numL a + 256 ^ (a.length + 1) * numL b
  rw [ih, Nat.mul_add, Nat.pow_succ, Nat.mul_comm (256 ^ a.length) 256, Nat.mul_assoc, Nat.add_assoc]
theorem numL_zeros (k : Nat) : numL (zeros 8 k) = 0 := by
 induction k with
 | zero => rfl
 | succ k ih =>
  show (0#8).toNat + 256 * numL (zeros 8 k) = 0
  rw [ih]; rfl
theorem refOf_any (l : List (BitVec 8)) (w : World) (hl : l.length = 16) :
  Calls Tryz.prog 181 #[.agg (A8 l), v32 0#32] w fun e w' => e = .returned (.agg (A8 (byN 17 (numL l % prm)))) ∧ Below w.heap.size w w' := by
 obtain ⟨LF, hLF⟩ : ∃ L, byN 17 (numL l % prm) = L := ⟨_, rfl⟩
 have lf : LF.length = 17 := by rw [← hLF, byN_length]
 rw [hLF]
 have HLF := hid hLF
 obtain ⟨W, hW⟩ : ∃ W, (w.alloc (.cells (A8 l) 37)).alloc (.cells (A8 (zeros 8 17)) 214) = W := ⟨_, rfl⟩
 obtain ⟨b0, b1, hb, hz⟩ := new2 _ _ _ _ _ _ hW
 have rl8 := b0.rd8 16 (by rw [hl]; exact Nat.le_refl _) (by rw [hl]; unfold maxLen; omega)
 rw [List.take_of_length_le (by omega), hl] at rl8
 have R0 := hid rl8
 have Z0 := hid b1
 have B0 := hid hb
 have HZ := hid hz
 clear b0 b1 hb hz rl8 hLF
 go_enter Tryz.func181, Tryz.ntmps181
 go_upto_region 1 with fail
 clear hW
 refine wp_region_plain [2,0,2,0] rfl (fun ops' K4 hK4 => ?_)
 refine z_build0 (B := W.heap.size) (Nat.le_refl _) Tryz.underlying23 info8 (fun w4 v4 ho4 hb4 => ?_)
 simp only [Act.put, zz1, zz2, zz3]
 repeat
  (first
   | (with_reducible refine z_move (a' := ?_) ?_ ?_); rotate_left
   | (with_reducible refine z_assign (a' := ?_) ?_ ?_); rotate_left
   | (with_reducible refine z_obl (v := ?_) (a' := ?_) rfl (fun _ => ?_) ?_ ?_); rotate_left 2; (focus (go_simp; (try go_bits); exact rfl))
   | (with_reducible refine z_read (v := ?_) (a' := ?_) rfl ?_ ?_ ?_); rotate_left 2; (focus (go_simp; (try go_bits); exact rfl)))
  focus (simp only [Act.put, zz1, zz2, zz3, Act.eval, zz4, zz5, zz6, zz7, zz8]; exact rfl)
 refine z_append8 ho4 (R0.out.below hb4) rfl rfl Tryz.underlying23 info8 (by simp) hb4.size (fun w5 v5 o5 g5 b5 => ?_)
 simp only [Act.put, zz1, zz2, zz3]
 repeat
  (first
   | (with_reducible refine z_move (a' := ?_) ?_ ?_); rotate_left
   | (with_reducible refine z_assign (a' := ?_) ?_ ?_); rotate_left
   | (with_reducible refine z_obl (v := ?_) (a' := ?_) rfl (fun _ => ?_) ?_ ?_); rotate_left 2; (focus (go_simp; (try go_bits); exact rfl))
   | (with_reducible refine z_read (v := ?_) (a' := ?_) rfl ?_ ?_ ?_); rotate_left 2; (focus (go_simp; (try go_bits); exact rfl)))
  focus (simp only [Act.put, zz1, zz2, zz3, Act.eval, zz4, zz5, zz6, zz7, zz8]; exact rfl)
 refine z_nil (hK4 _ _ ?_)
 rw [List.nil_append] at o5
 have B5 := hid (hb4.trans b5)
 have O5 := hid o5
 clear hK4 ho4 hb4 g5 b5 o5 R0
 go_wp2_with fail
 go_loopw [5, 6] (fun v i wr => ∃ j : Nat, j ≤ 4 ∧ i = .int .i64 j ∧ Own8 wr W.heap.size 5 v (l ++ zeros 8 j) ∧ Below W.heap.size W wr) (fun _ i _ => 4 - (intOf i).toNat)
 case atStart => exact ⟨0, by omega, rfl, by rw [show zeros 8 0 = [] from rfl, List.append_nil]; exact O5.out, B5.out⟩
 case round =>
  obtain ⟨j, hj, rfl, hO, hB⟩ := hrel
  have O1 := hid hO
  have B1 := hid hB
  clear hO hB O5 B5
  by_cases hj4 : j < 4
  ·have j1 : (j : Int) < 4 := by omega
   obtain ⟨K8, hK8⟩ : ∃ K, K = 8 * j := ⟨_, rfl⟩
   have k1 : (j : Int) * 8 = (K8 : Int) := by omega
   have k1' : 8 * (j : Int) = (K8 : Int) := by omega
   have k2 : IntKind.i64.wrap (K8 : Int) = (K8 : Int) := by rw [IntKind.wrap_i64]; omega
   clear hK8
   go_upto_region 5 with fail
   refine wp_region_plain [0,0,0,0,0,0,0,2,2,0] rfl (fun ops' K2 hK2 => ?_)
   repeat
    (first
     | (with_reducible refine z_move (a' := ?_) ?_ ?_); rotate_left
     | (with_reducible refine z_assign (a' := ?_) ?_ ?_); rotate_left
     | (with_reducible refine z_obl (v := ?_) (a' := ?_) rfl (fun _ => ?_) ?_ ?_); rotate_left 2; (focus (go_simp; (try go_bits); exact rfl))
     | (with_reducible refine z_read (v := ?_) (a' := ?_) rfl ?_ ?_ ?_); rotate_left 2; (focus (go_simp; (try go_bits); exact rfl)))
    focus (simp only [Act.put, zz1, zz2, zz3, Act.eval, zz4, zz5, zz6, zz7, zz8]; exact rfl)
   refine z_build1 (x := 0#8) rfl Tryz.underlying23 info8 (fun w2 b2 hr2 hb2 => ?_)
   simp only [Act.put, zz1, zz2, zz3]
   refine z_append8 (O1.out.below hb2) hr2 rfl rfl Tryz.underlying23 info8 (by simp [hl]; omega) (Nat.le_trans B1.out.size hb2.size) (fun w3 v3 o3 g3 b3 => ?_)
   simp only [Act.put, zz1, zz2, zz3]
   repeat
    (first
     | (with_reducible refine z_move (a' := ?_) ?_ ?_); rotate_left
     | (with_reducible refine z_assign (a' := ?_) ?_ ?_); rotate_left
     | (with_reducible refine z_obl (v := ?_) (a' := ?_) rfl (fun _ => ?_) ?_ ?_); rotate_left 2; (focus (go_simp; (try go_bits); exact rfl))
     | (with_reducible refine z_read (v := ?_) (a' := ?_) rfl ?_ ?_ ?_); rotate_left 2; (focus (go_simp; (try go_bits); exact rfl)))
    focus (simp only [Act.put, zz1, zz2, zz3, Act.eval, zz4, zz5, zz6, zz7, zz8]; exact rfl)
   refine z_nil (hK2 _ _ ?_)
   rw [List.append_assoc, show zeros 8 j ++ [0#8] = zeros 8 (j + 1) from by rw [zeros, zeros, ← List.replicate_succ']] at o3
   have O3 := hid o3
   have B3 := hid ((B1.out.trans (hb2.mono B1.out.size)).trans b3)
   clear o3 g3 b3 hb2 hr2 hK2
   go_wp2
   exact ⟨⟨j + 1, by omega, by go_num, O3.out, B3.out⟩, by simp [intOf]; omega⟩
  ·obtain rfl : j = 4 := by omega
   obtain ⟨a5, c5, rfl, hr5, _⟩ := O1.out.rd
   have hdv := refDivide_any _ _ _ _ wr hr5
   rw [numL_append, numL_zeros, Nat.mul_zero, Nat.add_zero, HLF.out] at hdv
   clear hr5
   generalize (l ++ zeros 8 4).length = M at hdv ⊢
   have HDV := hid hdv
   clear hdv
   go_wp2_with fail
   refine (HDV.out).mono ?_
   rintro e w6 ⟨rfl, d6⟩
   have B6 := B1.out.trans (d6.mono B1.out.size)
   have Z6 := Z0.out.belowAll B6
   have r2 := Z6.row
   have r3 := Z6.whole
   have BF := hid (B0.out.trans (B6.mono B0.out.size))
   clear Z6 B6 d6
   go_wp2
   refine bodyPost_row (A8 LF) rfl rfl rfl (Tryz.isAgg214 _) (Tryz.sizeOf214 _) (by rw [A8_size]; exact lf) (rowAt_setRow _ r3) ⟨rfl, below_setRow BF.out (by omega) _⟩
open Go.RowKit
@[go_sem high] theorem v64_rem32 (t : TypeId) (a : BitVec 64) : binOp .rem t (v64 a) (.int .u64 4294967296) = pure (v64 (a % 4294967296#64)) := by
 simp [v64, binOp, Op.intDiv, Int.tmod_eq_emod_of_nonneg]
def nhPlus (a : BitVec 64) (k : BitVec 32) : BitVec 64 := (a + k.setWidth 64) % 4294967296#64
theorem nhPlus_32 (a k : BitVec 32) : nhPlus (a.setWidth 64) k = (a + k).setWidth 64 := by
 apply BitVec.eq_of_toNat_eq
 have h1 := a.isLt
 have h2 := k.isLt
 simp only [nhPlus, BitVec.toNat_umod, BitVec.toNat_add, BitVec.toNat_setWidth, show (4294967296#64).toNat = 4294967296 from rfl]
 omega
theorem refNhPlus_any (a : BitVec 64) (k : BitVec 32) (w : World) :
  Calls Tryz.prog 186 #[v64 a, v32 k] w fun e w' => e = .returned (v64 (nhPlus a k)) ∧ w = w' := by
 go_enter Tryz.func186, Tryz.ntmps186
 go_wp2
 go_ret
 exact ⟨rfl, rfl⟩
end Go.Proofs.YtfdkmjegcghieaaGreatDoor
