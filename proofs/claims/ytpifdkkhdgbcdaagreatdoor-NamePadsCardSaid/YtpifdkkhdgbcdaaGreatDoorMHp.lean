/- prime: carried -/
import Derived.Test.YtpifdkkhdgbcdaaGreatDoorMGa
import Derived.Test.YtpifdkkhdgbcdaaGreatDoorMPriP
import Derived.Test.YtpifdkkhdgbcdaaGreatDoorMGc
import Derived.Test.YtpifdkkhdgbcdaaGreatDoorMGb
import Derived.Test.YtpifdkkhdgbcdaaGreatDoorMGs
import Derived.Laws.Cover3
import Derived.Test.YtpifdkkhdgbcdaaGreatDoorMGo
import Derived.Test.YtpifdkkhdgbcdaaGreatDoorMGu
namespace Go.Proofs.YtpifdkkhdgbcdaaGreatDoor
open Lib (hid)
set_option linter.unusedSimpArgs false
set_option maxRecDepth 100000
set_option maxHeartbeats 1600000
open Go.RowKit
def carTo (w : List (BitVec 64)) : Nat → List (BitVec 64)
 | 0 => w
 | 1 => w.set 0 (cq0 w &&& msk)
 | 2 => (w.set 0 (cq0 w &&& msk)).set 1 (cq1 w &&& msk)
 | 3 => ((w.set 0 (cq0 w &&& msk)).set 1 (cq1 w &&& msk)).set 2 (cq2 w &&& msk)
 | 4 => (((w.set 0 (cq0 w &&& msk)).set 1 (cq1 w &&& msk)).set 2 (cq2 w &&& msk)).set 3 (cq3 w &&& msk)
 | _ => ((((w.set 0 (cq0 w &&& msk)).set 1 (cq1 w &&& msk)).set 2 (cq2 w &&& msk)).set 3 (cq3 w &&& msk)).set 4 (cq4 w &&& msk)
def cryTo (w : List (BitVec 64)) : Nat → BitVec 64
 | 0 => 0#64
 | 1 => cq0 w >>> 26
 | 2 => cq1 w >>> 26
 | 3 => cq2 w >>> 26
 | 4 => cq3 w >>> 26
 | _ => cq4 w >>> 26
theorem carTo_length (w : List (BitVec 64)) (h : w.length = 5) : ∀ k, k ≤ 5 → (carTo w k).length = 5
 | 0, _ => h
 | 1, _ => by simp [carTo, h]
 | 2, _ => by simp [carTo, h]
 | 3, _ => by simp [carTo, h]
 | 4, _ => by simp [carTo, h]
 | 5, _ => by simp [carTo, h]
theorem carTo_step (w : List (BitVec 64)) (h : w.length = 5) (k : Nat) (hk : k < 5) :
  (carTo w k).set k ((nth (carTo w k) k + cryTo w k) &&& msk) = carTo w (k + 1) ∧ (nth (carTo w k) k + cryTo w k) >>> 26 = cryTo w (k + 1) := by
 match w, h with
 | [a0, a1, a2, a3, a4], _ =>
  have : k = 0 ∨ k = 1 ∨ k = 2 ∨ k = 3 ∨ k = 4 := by omega
  rcases this with rfl | rfl | rfl | rfl | rfl <;> exact ⟨rfl, rfl⟩
theorem carTo_five (w : List (BitVec 64)) (h : w.length = 5) : (carTo w 5).set 0 (nth (carTo w 5) 0 + 5#64 * cryTo w 5) = carr w := by
 match w, h with
 | [a0, a1, a2, a3, a4], _ => rfl
theorem carried_any (x : List (BitVec 64)) (w : World) (hx : x.length = 5) :
  Calls Tryz.prog 151 #[.agg (A64 x)] w fun e w' => e = .returned (.agg (A64 (carr x))) ∧ Below w.heap.size w w' := by
 obtain ⟨W, hW⟩ : ∃ W, (w.alloc (.cells (A64 x) 233)).alloc (.cells (A64 (zeros 64 5)) 233) = W := ⟨_, rfl⟩
 obtain ⟨b0, b1, hb, hz⟩ := new2 _ _ _ _ _ _ hW
 have P0 := hid b0
 have Z0 := hid b1
 have B0 := hid hb
 clear b0 b1 hb hz
 go_enter Tryz.func151, Tryz.ntmps151
 go_wp2_with fail
 go_loopw [3, 5] (fun cy i wr => ∃ k : Nat, k ≤ 5 ∧ i = .int .i64 k ∧ cy = v64 (cryTo x k) ∧ Blk wr w.heap.size 233 (A64 (carTo x k)) ∧ Blk wr (w.heap.size + 1) 233 (A64 (zeros 64 5)) ∧ Below w.heap.size w wr) (fun _ i _ => 5 - (intOf i).toNat)
 case atStart => exact ⟨0, Nat.zero_le _, rfl, rfl, P0.out, Z0.out, B0.out⟩
 case round =>
  obtain ⟨k, hk, rfl, rfl, hP, hZ, hB⟩ := hrel
  have P1 := hid hP
  have Z1 := hid hZ
  have B1 := hid hB
  clear hP hZ hB P0 Z0 B0 hW
  by_cases hk5 : k < 5
  ·have k1 : (k : Int) < 5 := by omega
   have k0 : (0 : Int) ≤ (k : Int) := by omega
   have hl := carTo_length x hx k hk
   have c1 := P1.out.cell64 hl k hk5
   have fo := P1.out.frozen k
   obtain ⟨e1, e2⟩ := carTo_step x hx k hk5
   obtain ⟨A, hA⟩ : ∃ A, A = nth (carTo x k) k := ⟨_, rfl⟩
   obtain ⟨C, hC⟩ : ∃ C, C = cryTo x k := ⟨_, rfl⟩
   rw [← hA] at c1
   rw [← hA, ← hC] at e1 e2
   rw [← hC]
   obtain ⟨S, hS⟩ : ∃ S, S = A + C := ⟨_, rfl⟩
   rw [← hS] at e1 e2
   have f0 : ∀ t, binOp .add t (v64 A) (v64 C) = pure (v64 S) := fun t => by rw [hS]; exact v64_add t A C
   obtain ⟨M, hM⟩ : ∃ M, M = S &&& msk := ⟨_, rfl⟩
   obtain ⟨N, hN⟩ : ∃ N, N = S >>> 26 := ⟨_, rfl⟩
   rw [← hM] at e1
   rw [← hN] at e2
   have f1 : ∀ t, binOp .and t (v64 S) (.int .u64 67108863) = pure (v64 M) := fun t => by rw [hM]; exact v64_and t S msk
   have f2 : ∀ t, binOp .shr t (v64 S) (.int .u64 26) = pure (v64 N) := fun t => by rw [hN]; exact v64_shr t .u64 S 26 (by decide)
   have kk := P1.out.set_ k (v64 S)
   rw [A64_set] at kk
   have c2 : (wr.setCell ⟨w.heap.size, k, none⟩ (v64 S)).cell? ⟨w.heap.size, k, none⟩ = some (v64 S) := by
    rw [kk.cell64 (m := 5) (by rw [List.length_set, hl]) k hk5, nth_set _ _ _ _ (by omega), if_pos rfl]
   have fo2 := kk.frozen k
   have kk2 := kk.set_ k (v64 M)
   rw [A64_set, List.set_set, e1] at kk2
   have P2 := hid kk2
   have Z2 := hid ((Z1.out.far (p := ⟨w.heap.size, k, none⟩) (by simp) (v64 S)).far (p := ⟨w.heap.size, k, none⟩) (by simp) (v64 M))
   have B2 := hid ((B1.out.setCell (p := ⟨w.heap.size, k, none⟩) (by simp) (v64 S)).setCell (p := ⟨w.heap.size, k, none⟩) (by simp) (v64 M))
   have E2 := hid e2
   clear hA hC hS hM hN e1 e2 kk kk2 P1 Z1 B1 hl
   go_wp2
   exact ⟨⟨k + 1, by omega, by go_num, by rw [E2.out], P2.out, Z2.out, B2.out⟩, by simp [intOf]; omega⟩
  ·obtain rfl : k = 5 := by omega
   have hl := carTo_length x hx 5 (by omega)
   have c1 := P1.out.cell64 hl 0 (by omega)
   have fo := P1.out.frozen 0
   have e1 := carTo_five x hx
   obtain ⟨A, hA⟩ : ∃ A, A = nth (carTo x 5) 0 := ⟨_, rfl⟩
   obtain ⟨C, hC⟩ : ∃ C, C = cryTo x 5 := ⟨_, rfl⟩
   rw [← hA] at c1
   rw [← hA, ← hC] at e1
   rw [← hC]
   obtain ⟨F, hF⟩ : ∃ F, F = 5#64 * C := ⟨_, rfl⟩
   obtain ⟨S, hS⟩ : ∃ S, S = A + F := ⟨_, rfl⟩
   rw [← hF, ← hS] at e1
   have f0 : ∀ t, binOp .mul t (.int .u64 5) (v64 C) = pure (v64 F) := fun t => by rw [hF]; exact v64_mul t 5#64 C
   have f1 : ∀ t, binOp .add t (v64 A) (v64 F) = pure (v64 S) := fun t => by rw [hS]; exact v64_add t A F
   have kk := P1.out.set_ 0 (v64 S)
   rw [A64_set, e1] at kk
   have r1 := kk.row
   have z1 := Z1.out.far (p := ⟨w.heap.size, 0, none⟩) (by simp) (v64 S)
   have r2 := z1.row
   have r3 := z1.whole
   have B2 := B1.out.setCell (p := ⟨w.heap.size, 0, none⟩) (by simp) (v64 S)
   clear hA hC hF hS e1 kk z1 P1 Z1 B1 hl
   go_wp2
   refine bodyPost_row (A64 (carr x)) rfl rfl rfl (Tryz.isAgg233 _) (Tryz.sizeOf233 _) (by rw [A64_size]; rfl) (rowAt_setRow _ r3) ⟨rfl, below_setRow B2 (by omega) _⟩
open Go.RowKit
@[go_sem ↓ high] theorem neq233 (xs ys : List (BitVec 64)) (w : World) (hx : xs.length = 5) (hy : ys.length = 5) : (binOp .neq 233 (.agg (A64 xs)) (.agg (A64 ys))).run Tryz.prog w = .ok (.bool (!decide (xs = ys))) w := (eql_A64 (by kernel_rfl) (e := 73) (by kernel_rfl) (by kernel_rfl) (by kernel_rfl) xs ys hx hy w).2
@[go_sem ↓ high] theorem guard233 (op : BinOp) (x y : Operand) (xs ys : Array Value) (w : World) : (eqGuard op 233 x y (.agg xs) (.agg ys)).run Tryz.prog w = .ok () w := by cases op <;> kernel_rfl
@[go_sem ↓ high] theorem eql229 (xs ys : List (BitVec 64)) (w : World) (hx : xs.length = 4) (hy : ys.length = 4) : (binOp .eql 229 (.agg (A64 xs)) (.agg (A64 ys))).run Tryz.prog w = .ok (.bool (decide (xs = ys))) w := (eql_A64 (by kernel_rfl) (e := 73) (by kernel_rfl) (by kernel_rfl) (by kernel_rfl) xs ys hx hy w).1
@[go_sem ↓ high] theorem guard229 (op : BinOp) (x y : Operand) (xs ys : Array Value) (w : World) : (eqGuard op 229 x y (.agg xs) (.agg ys)).run Tryz.prog w = .ok () w := by cases op <;> kernel_rfl
@[go_sem ↓ high] theorem build_msk4 (w : World) : (Instr.build 229 #[(0, .int .u64 67108863), (1, .int .u64 67108863), (2, .int .u64 67108863), (3, .int .u64 67108863)]).run Tryz.prog w = .ok (.agg (A64 [msk, msk, msk, msk])) w := by kernel_rfl
def buildB1 (e : TypeId) (a : Value) : Sem Value := Instr.build e #[(0, a)]
@[go_sem ↓ high] theorem execOp_buildB1 {P : Program} {ρ : Operand → Value} {w : World} {dst : Option Tmp} {ty : TypeId} {pos : String} {after : Array Edge} {guard : Option (Nat × Bool)} (e : TypeId) (a : Operand) : (execOp ρ ⟨dst, .build e #[(0, a)], ty, pos, after, guard⟩).run P w = ((buildB1 e (ρ a)).run P w).andThen fun v w' => .ok (.value v) w' := by simp [execOp, buildB1]
def buildB5 (e : TypeId) (a b c d f : Value) : Sem Value := Instr.build e #[(0, a), (1, b), (2, c), (3, d), (4, f)]
@[go_sem ↓ high] theorem execOp_buildB5 {P : Program} {ρ : Operand → Value} {w : World} {dst : Option Tmp} {ty : TypeId} {pos : String} {after : Array Edge} {guard : Option (Nat × Bool)} (e : TypeId) (a b c d f : Operand) : (execOp ρ ⟨dst, .build e #[(0, a), (1, b), (2, c), (3, d), (4, f)], ty, pos, after, guard⟩).run P w = ((buildB5 e (ρ a) (ρ b) (ρ c) (ρ d) (ρ f)).run P w).andThen fun v w' => .ok (.value v) w' := by simp [execOp, buildB5]
@[go_sem high] theorem buildB5_loose (a b c d f : BitVec 64) (w : World) : (buildB5 233 (v64 a) (v64 b) (v64 c) (v64 d) (v64 f)).run Tryz.prog w = .ok (.agg (A64 [a, b, c, d, f])) w := by kernel_rfl
@[go_sem high] theorem build_first5 (x : BitVec 64) (w : World) : (buildB1 233 (v64 x)).run Tryz.prog w = .ok (.agg (A64 [x, 0#64, 0#64, 0#64, 0#64])) w := by kernel_rfl
def cv (l : List (BitVec 64)) (k : Nat) : List (BitVec 32) := (List.range 5).map fun i => if i < k then (nth l i).setWidth 32 else 0#32
theorem cv_length (l : List (BitVec 64)) (k : Nat) : (cv l k).length = 5 := by simp [cv]
theorem cv_set (l : List (BitVec 64)) (k : Nat) (hk : k < 5) : (cv l k).set k ((nth l k).setWidth 32) = cv l (k + 1) := by
 have : k = 0 ∨ k = 1 ∨ k = 2 ∨ k = 3 ∨ k = 4 := by omega
 rcases this with rfl | rfl | rfl | rfl | rfl <;> rfl
theorem cv_five (l : List (BitVec 64)) (h : l.length = 5) : cv l 5 = to32 l := by
 match l, h with
 | [a0, a1, a2, a3, a4], _ => rfl
def dec64 (c : Array Value) : List (BitVec 64) := c.toList.map fun v => match v with | .int _ n => BitVec.ofInt 64 n | _ => 0#64
theorem dec64_A64 (l : List (BitVec 64)) : dec64 (A64 l) = l := by
 unfold dec64
 rw [A64_toList, List.map_map]
 conv => rhs; rw [← List.map_id l]
 apply List.map_congr_left
 intro x _
 show BitVec.ofInt 64 (x.toNat : Int) = x
 rw [BitVec.ofInt_natCast, BitVec.ofNat_toNat, BitVec.setWidth_eq]
def left5 (l : List (BitVec 64)) : Nat := if carr l = l then 0 else if carr (carr l) = carr l then 1 else if carr (carr (carr l)) = carr (carr l) then 2 else 3
theorem left5_less (l : List (BitVec 64)) (h : carr l ≠ l) (h3 : carr (carr (carr (carr l))) = carr (carr (carr l))) : left5 (carr l) < left5 l := by
 unfold left5
 rw [if_neg h]
 by_cases h1 : carr (carr l) = carr l
 ·rw [if_pos h1, if_pos h1]; omega
 ·rw [if_neg h1, if_neg h1]
  by_cases h2 : carr (carr (carr l)) = carr (carr l)
  ·rw [if_pos h2, if_pos h2]; omega
  ·rw [if_neg h2, if_neg h2, if_pos h3]; omega
theorem carK_carr (x : List (BitVec 64)) (hx : ∀ i, i < 5 → pn x i < 2 ^ 60) (k : Nat) : carr (carr (carr (carr (carK x k)))) = carr (carr (carr (carK x k))) := by
 have h := carK_stay x 3 (carK3 x hx)
 show carK x (k + 4) = carK x (k + 3)
 rw [show k + 4 = 3 + (k + 1) by omega, show k + 3 = 3 + k by omega, h, h]
theorem carK_length (x : List (BitVec 64)) (h : x.length = 5) : ∀ k, (carK x k).length = 5
 | 0 => h
 | _ + 1 => rfl
theorem topB_split (l : List (BitVec 64)) (h : l.length = 5) : topB l = (decide ((l.drop 1).take 4 = [msk, msk, msk, msk]) && decide (67108858 < (nth l 0).toNat)) := by
 match l, h with
 | [a0, a1, a2, a3, a4], _ =>
  have e : decide ((([a0, a1, a2, a3, a4] : List (BitVec 64)).drop 1).take 4 = [msk, msk, msk, msk]) = (a1 == msk && a2 == msk && a3 == msk && a4 == msk) := by
   rw [Bool.eq_iff_iff]
   simp [and_assoc]
  rw [e]; rfl
def TidyJ (w : World) (x : List (BitVec 64)) (a' : Act) (w' : World) : Prop :=
 ∃ k : Nat, (∃ u : Nat → Value, a' = { tmps := (fun u : Nat → Value => #[u 0, Value.pointer (some ⟨w.heap.size, 0, none⟩), Value.pointer (some ⟨w.heap.size + 1, 0, none⟩), u 3, u 4, u 5, u 6, u 7, u 8, u 9, u 10, u 11, u 12, u 13, u 14, u 15, u 16, u 17, u 18, u 19, u 20, u 21, u 22, u 23, u 24, u 25, u 26, u 27, u 28, u 29, u 30, u 31, u 32, u 33, u 34, u 35, u 36]) u, defers := [] }) ∧
  Blk w' w.heap.size 233 (A64 (carK x k)) ∧ Blk w' (w.heap.size + 1) 224 (A32 (zeros 32 5)) ∧ Below w.heap.size w w'
theorem tidy_any (x : List (BitVec 64)) (w : World) (hx : x.length = 5) (hb60 : ∀ i, i < 5 → pn x i < 2 ^ 60) :
  Calls Tryz.prog 146 #[.agg (A64 x)] w fun e w' => e = .returned (.agg (A32 (tidyL x))) ∧ Below w.heap.size w w' := by
 obtain ⟨W, hW⟩ : ∃ W, (w.alloc (.cells (A64 x) 233)).alloc (.cells (A32 (zeros 32 5)) 224) = W := ⟨_, rfl⟩
 obtain ⟨b0, b1, hb, hz⟩ := new2 _ _ _ _ _ _ hW
 have P0 := hid b0
 have Z0 := hid b1
 have B0 := hid hb
 have H60 := hid hb60
 have hRl := tidyL_length x
 obtain ⟨R, hR⟩ : ∃ R, R = tidyL x := ⟨_, rfl⟩
 rw [← hR] at hRl ⊢
 have HR := hid hR
 clear b0 b1 hb hz hb60 hR
 go_enter Tryz.func146, Tryz.ntmps146
 go_wp2_with fail
 refine wp_scope_enter 0 (TidyJ w x) (fun _ w' => left5 (dec64 (rowAt w' w.heap.size))) rfl (fun hrest => ?_) ?_
 ·go_wp2_with fail
  go_step3
  refine ‹∀ (a : Act) (w_1 : World), Code.wp _ _ _ a w_1 → _› _ _ (hrest _ _ ?_)
  exact ⟨0, ex_frame _ rfl, P0.out, Z0.out, B0.out⟩
 ·rintro a' w' ⟨k, ⟨u, rfl⟩, hP, hZ, hB⟩
  have hl := carK_length x hx k
  have c3 := carK_carr x H60.out k
  have hfin := carK_end x H60.out k
  obtain ⟨L, hL⟩ : ∃ L, L = carK x k := ⟨_, rfl⟩
  rw [← hL] at hP hl c3 hfin
  have HL := hid hL
  have HFIN := hid hfin
  have C3 := hid c3
  have r1 := hP.row
  have R1 := hid r1
  have P1 := hid hP
  have Z1 := hid hZ
  have B1 := hid hB
  clear hP hZ hB hL c3 hfin hW P0 Z0 B0
  go_wp2_with fail
  refine (carried_any L w' hl).mono ?_
  rintro e w1 ⟨rfl, d1⟩
  have hcl := carr_length L
  obtain ⟨M, hM⟩ : ∃ M, M = carr L := ⟨_, rfl⟩
  rw [← hM] at hcl ⊢
  have HM := hid hM
  obtain ⟨V, hV⟩ : ∃ V, V = w1.alloc (.cells (A64 M) 233) := ⟨_, rfl⟩
  have E1 : Below w'.heap.size w' V := by rw [hV]; exact d1.alloc d1.size _
  have N0 := Blk.new w1 233 (A64 M)
  rw [← hV] at N0
  have NV := hid N0
  have PV := hid (P1.out.belowAll E1)
  have ZV := hid (Z1.out.belowAll E1)
  have BV := hid (B1.out.trans (E1.mono B1.out.size))
  have HV := hid hV
  have r2 := NV.out.row
  have r3 := PV.out.row
  have hql : w1.heap.size ≠ w.heap.size := by have := d1.size; have := P1.out.lt; omega
  clear d1 E1 N0 hV hM r1 P1 Z1 B1
  go_upto_region 2 with fail
  rw [← HV.out]
  clear HV
  generalize w1.heap.size = q at *
  by_cases hfix : M = L
  ·have f1 : decide (M = L) = true := decide_eq_true hfix
   have hL3 : L = carK x 3 := HFIN.out (by rw [← HM.out, hfix])
   have hres : tidyL x = to32 (normL L) := by rw [tidyL, tidyW, ← hL3]
   have hnl := normL_length L hl
   have ts := topB_split L hl
   have hA := PV.out.cell64 hl 0 (by omega)
   obtain ⟨A, eA⟩ : ∃ A, A = nth L 0 := ⟨_, rfl⟩
   rw [← eA] at hA ts
   have HeA := hid eA
   clear eA
   have hdl : ((L.drop 1).take 4).length = 4 := by rw [List.length_take, List.length_drop, hl]; rfl
   obtain ⟨D, hD⟩ : ∃ D, D = (L.drop 1).take 4 := ⟨_, rfl⟩
   have eT : L.tail.take 4 = D := by rw [hD, List.drop_one]
   have eM : (#[.int .u64 67108863, .int .u64 67108863, .int .u64 67108863, .int .u64 67108863] : Array Value) = A64 [msk, msk, msk, msk] := rfl
   have hml : ([msk, msk, msk, msk] : List (BitVec 64)).length = 4 := rfl
   rw [← hD] at ts hdl
   clear hD
   obtain ⟨MK, hMK⟩ : ∃ MK, MK = [msk, msk, msk, msk] := ⟨_, rfl⟩
   rw [← hMK] at eM hml ts
   clear hMK
   have wP := PV.out.whole
   have harr := run_arrayAt (P := Tryz.prog) V 229 73 4 (some ⟨w.heap.size, 1, none⟩) 4 4 Tryz.underlying229 (Nat.le_refl _)
   rw [← HR.out] at hres
   have HRES := hid hres
   clear hres hL3 R1 HFIN C3 HL HM
   cases hD1 : decide (D = MK)
   ·have hF : normL L = L := by unfold normL; rw [ts, hD1]; rfl
    have hFR : R = to32 L := by rw [HRES.out, hF]
    have HFR := hid hFR
    clear hF ts hFR HRES
    have N4 := hid (Blk.new V 224 (A32 (zeros 32 5)))
    have P4 := hid ((PV.out).alloc (.cells (A32 (zeros 32 5)) 224))
    have Z4 := hid ((ZV.out).alloc (.cells (A32 (zeros 32 5)) 224))
    have B4 := hid ((BV.out).alloc (BV.out).size (.cells (A32 (zeros 32 5)) 224))
    have hn1 : V.heap.size ≠ w.heap.size := by have := (PV.out).lt; omega
    have hn2 : V.heap.size ≠ w.heap.size + 1 := by have := (ZV.out).lt; omega
    have hn3 : w.heap.size ≤ V.heap.size := (BV.out).size
    go_wp2_with fail
    generalize V.alloc (.cells (A32 (zeros 32 5)) 224) = W4 at *
    generalize V.heap.size = nn at *
    go_loopw [26] (fun i wr => ∃ j : Nat, j ≤ 5 ∧ i = .int .i64 j ∧ Blk wr w.heap.size 233 (A64 L) ∧ Blk wr nn 224 (A32 (cv L j)) ∧ Blk wr (w.heap.size + 1) 224 (A32 (zeros 32 5)) ∧ Below w.heap.size w wr) (fun i _ => 5 - (intOf i).toNat)
    case atStart => exact ⟨0, Nat.zero_le _, rfl, P4.out, N4.out, Z4.out, B4.out⟩
    case round =>
     obtain ⟨j, hj, rfl, hP5, hN5, hZ5, hB5⟩ := hrel
     have P5 := hid hP5
     have N5 := hid hN5
     have Z5 := hid hZ5
     have B5 := hid hB5
     clear hP5 hN5 hZ5 hB5 P4 N4 Z4 B4
     by_cases hj5 : j < 5
     ·have j1 : (j : Int) < 5 := by omega
      have j0 : (0 : Int) ≤ (j : Int) := by omega
      have d1 := P5.out.cell64 hl j hj5
      have d2 := N5.out.cell32 (cv_length L j) j hj5
      have fo := N5.out.frozen j
      have kk := N5.out.set_ j (v32 ((nth L j).setWidth 32))
      rw [A32_set, cv_set _ _ hj5] at kk
      have N6 := hid kk
      have P6 := hid (P5.out.far (p := ⟨nn, j, none⟩) (by simpa using fun e => hn1 e.symm) (v32 ((nth L j).setWidth 32)))
      have Z6 := hid (Z5.out.far (p := ⟨nn, j, none⟩) (by simpa using fun e => hn2 e.symm) (v32 ((nth L j).setWidth 32)))
      have B6 := hid (B5.out.setCell (p := ⟨nn, j, none⟩) hn3 (v32 ((nth L j).setWidth 32)))
      clear kk P5 N5 Z5 B5
      go_wp2
      exact ⟨⟨j + 1, by omega, by go_num, P6.out, N6.out, Z6.out, B6.out⟩, by simp [intOf]; omega⟩
     ·obtain rfl : j = 5 := by omega
      have n5 := N5.out
      rw [cv_five _ hl, ← HFR.out] at n5
      have rr := n5.row
      have r5 := Z5.out.row
      have r6 := Z5.out.whole
      clear n5
      go_wp2
      (try simp only [Exit.jump])
      refine bodyPost_row (A32 R) rfl rfl rfl (Tryz.isAgg224 _) (Tryz.sizeOf224 _) (by rw [A32_size]; exact hRl) (rowAt_setRow _ r6) ⟨rfl, below_setRow B5.out (by omega) _⟩
   ·have f2 : ∀ t, binOp .gtr t (v64 A) (.int .u64 67108858) = pure (.bool (decide (67108858 < A.toNat))) := fun t => by
     have e : decide ((67108858 : Int) < (A.toNat : Int)) = decide (67108858 < A.toNat) := by rw [decide_eq_decide]; omega
     rw [← e]
     simp [binOp, v64, Op.intCmp]
    cases hD2 : decide (67108858 < A.toNat)
    ·rw [hD2] at f2
     have g2 : ¬ (67108858 : Int) < (A.toNat : Int) := by have := of_decide_eq_false hD2; omega
     have hF : normL L = L := by unfold normL; rw [ts, hD1, hD2]; rfl
     have hFR : R = to32 L := by rw [HRES.out, hF]
     have HFR := hid hFR
     clear hF ts hFR HRES hD2
     have N4 := hid (Blk.new V 224 (A32 (zeros 32 5)))
     have P4 := hid ((PV.out).alloc (.cells (A32 (zeros 32 5)) 224))
     have Z4 := hid ((ZV.out).alloc (.cells (A32 (zeros 32 5)) 224))
     have B4 := hid ((BV.out).alloc (BV.out).size (.cells (A32 (zeros 32 5)) 224))
     have hn1 : V.heap.size ≠ w.heap.size := by have := (PV.out).lt; omega
     have hn2 : V.heap.size ≠ w.heap.size + 1 := by have := (ZV.out).lt; omega
     have hn3 : w.heap.size ≤ V.heap.size := (BV.out).size
     go_wp2_with fail
     generalize V.alloc (.cells (A32 (zeros 32 5)) 224) = W4 at *
     generalize V.heap.size = nn at *
     go_loopw [26] (fun i wr => ∃ j : Nat, j ≤ 5 ∧ i = .int .i64 j ∧ Blk wr w.heap.size 233 (A64 L) ∧ Blk wr nn 224 (A32 (cv L j)) ∧ Blk wr (w.heap.size + 1) 224 (A32 (zeros 32 5)) ∧ Below w.heap.size w wr) (fun i _ => 5 - (intOf i).toNat)
     case atStart => exact ⟨0, Nat.zero_le _, rfl, P4.out, N4.out, Z4.out, B4.out⟩
     case round =>
      obtain ⟨j, hj, rfl, hP5, hN5, hZ5, hB5⟩ := hrel
      have P5 := hid hP5
      have N5 := hid hN5
      have Z5 := hid hZ5
      have B5 := hid hB5
      clear hP5 hN5 hZ5 hB5 P4 N4 Z4 B4
      by_cases hj5 : j < 5
      ·have j1 : (j : Int) < 5 := by omega
       have j0 : (0 : Int) ≤ (j : Int) := by omega
       have d1 := P5.out.cell64 hl j hj5
       have d2 := N5.out.cell32 (cv_length L j) j hj5
       have fo := N5.out.frozen j
       have kk := N5.out.set_ j (v32 ((nth L j).setWidth 32))
       rw [A32_set, cv_set _ _ hj5] at kk
       have N6 := hid kk
       have P6 := hid (P5.out.far (p := ⟨nn, j, none⟩) (by simpa using fun e => hn1 e.symm) (v32 ((nth L j).setWidth 32)))
       have Z6 := hid (Z5.out.far (p := ⟨nn, j, none⟩) (by simpa using fun e => hn2 e.symm) (v32 ((nth L j).setWidth 32)))
       have B6 := hid (B5.out.setCell (p := ⟨nn, j, none⟩) hn3 (v32 ((nth L j).setWidth 32)))
       clear kk P5 N5 Z5 B5
       go_wp2
       exact ⟨⟨j + 1, by omega, by go_num, P6.out, N6.out, Z6.out, B6.out⟩, by simp [intOf]; omega⟩
      ·obtain rfl : j = 5 := by omega
       have n5 := N5.out
       rw [cv_five _ hl, ← HFR.out] at n5
       have rr := n5.row
       have r5 := Z5.out.row
       have r6 := Z5.out.whole
       clear n5
       go_wp2
       (try simp only [Exit.jump])
       refine bodyPost_row (A32 R) rfl rfl rfl (Tryz.isAgg224 _) (Tryz.sizeOf224 _) (by rw [A32_size]; exact hRl) (rowAt_setRow _ r6) ⟨rfl, below_setRow B5.out (by omega) _⟩
    ·rw [hD2] at f2
     have g2 : (67108858 : Int) < (A.toNat : Int) := by have := of_decide_eq_true hD2; omega
     have hF : normL L = [A - 67108859#64, 0#64, 0#64, 0#64, 0#64] := by unfold normL; rw [ts, hD1, hD2, ← HeA.out]; rfl
     obtain ⟨S, hS⟩ : ∃ S, S = A - 67108859#64 := ⟨_, rfl⟩
     have f3 : ∀ t, binOp .sub t (v64 A) (.int .u64 67108859) = pure (v64 S) := fun t => by rw [hS]; exact v64_sub t A 67108859#64
     rw [← hS] at hF
     have hGl : ([S, 0#64, 0#64, 0#64, 0#64] : List (BitVec 64)).length = 5 := rfl
     obtain ⟨G, hG⟩ : ∃ G, G = [S, 0#64, 0#64, 0#64, 0#64] := ⟨_, rfl⟩
     rw [← hG] at hF hGl
     have eG : A64 [S, 0#64, 0#64, 0#64, 0#64] = A64 G := by rw [hG]
     have hFR : R = to32 G := by rw [HRES.out, hF]
     have HFR := hid hFR
     have PG := hid (PV.out.put (A64 G))
     have ZG := hid (ZV.out.grown (grown_setRow V w.heap.size (A64 G)) (by simp))
     have BG := hid (below_setRow BV.out (Nat.le_refl _) (A64 G))
     clear hF ts hFR HRES hD2 hS hG
     go_upto_region 6 with fail
     generalize V.setRow w.heap.size (A64 G) = V2 at *
     have N4 := hid (Blk.new V2 224 (A32 (zeros 32 5)))
     have P4 := hid ((PG.out).alloc (.cells (A32 (zeros 32 5)) 224))
     have Z4 := hid ((ZG.out).alloc (.cells (A32 (zeros 32 5)) 224))
     have B4 := hid ((BG.out).alloc (BG.out).size (.cells (A32 (zeros 32 5)) 224))
     have hn1 : V2.heap.size ≠ w.heap.size := by have := (PG.out).lt; omega
     have hn2 : V2.heap.size ≠ w.heap.size + 1 := by have := (ZG.out).lt; omega
     have hn3 : w.heap.size ≤ V2.heap.size := (BG.out).size
     go_wp2_with fail
     generalize V2.alloc (.cells (A32 (zeros 32 5)) 224) = W4 at *
     generalize V2.heap.size = nn at *
     go_loopw [26] (fun i wr => ∃ j : Nat, j ≤ 5 ∧ i = .int .i64 j ∧ Blk wr w.heap.size 233 (A64 G) ∧ Blk wr nn 224 (A32 (cv G j)) ∧ Blk wr (w.heap.size + 1) 224 (A32 (zeros 32 5)) ∧ Below w.heap.size w wr) (fun i _ => 5 - (intOf i).toNat)
     case atStart => exact ⟨0, Nat.zero_le _, rfl, P4.out, N4.out, Z4.out, B4.out⟩
     case round =>
      obtain ⟨j, hj, rfl, hP5, hN5, hZ5, hB5⟩ := hrel
      have P5 := hid hP5
      have N5 := hid hN5
      have Z5 := hid hZ5
      have B5 := hid hB5
      clear hP5 hN5 hZ5 hB5 P4 N4 Z4 B4
      by_cases hj5 : j < 5
      ·have j1 : (j : Int) < 5 := by omega
       have j0 : (0 : Int) ≤ (j : Int) := by omega
       have d1 := P5.out.cell64 hGl j hj5
       have d2 := N5.out.cell32 (cv_length G j) j hj5
       have fo := N5.out.frozen j
       have kk := N5.out.set_ j (v32 ((nth G j).setWidth 32))
       rw [A32_set, cv_set _ _ hj5] at kk
       have N6 := hid kk
       have P6 := hid (P5.out.far (p := ⟨nn, j, none⟩) (by simpa using fun e => hn1 e.symm) (v32 ((nth G j).setWidth 32)))
       have Z6 := hid (Z5.out.far (p := ⟨nn, j, none⟩) (by simpa using fun e => hn2 e.symm) (v32 ((nth G j).setWidth 32)))
       have B6 := hid (B5.out.setCell (p := ⟨nn, j, none⟩) hn3 (v32 ((nth G j).setWidth 32)))
       clear kk P5 N5 Z5 B5
       go_wp2
       exact ⟨⟨j + 1, by omega, by go_num, P6.out, N6.out, Z6.out, B6.out⟩, by simp [intOf]; omega⟩
      ·obtain rfl : j = 5 := by omega
       have n5 := N5.out
       rw [cv_five _ hGl, ← HFR.out] at n5
       have rr := n5.row
       have r5 := Z5.out.row
       have r6 := Z5.out.whole
       clear n5
       go_wp2
       (try simp only [Exit.jump])
       refine bodyPost_row (A32 R) rfl rfl rfl (Tryz.isAgg224 _) (Tryz.sizeOf224 _) (by rw [A32_size]; exact hRl) (rowAt_setRow _ r6) ⟨rfl, below_setRow B5.out (by omega) _⟩
  ·have f1 : decide (M = L) = false := decide_eq_false hfix
   have hless := left5_less L (fun e => hfix (by rw [HM.out, e])) C3.out
   have K1 := hid (PV.out.put (A64 M))
   have K2 := hid (ZV.out.grown (grown_setRow V w.heap.size (A64 M)) (by simp))
   have K3 := hid (below_setRow BV.out (Nat.le_refl _) (A64 M))
   have HLE := hid hless
   have w1 := PV.out.whole
   clear hless PV ZV BV hfix
   go_wp2
   go_step3
   refine ⟨rfl, ⟨k + 1, ex_frame _ rfl, ?_, K2.out, K3.out⟩, ?_⟩
   ·have hMk : M = carK x (k + 1) := by rw [HM.out, HL.out]; rfl
    rw [← hMk]
    exact K1.out
   ·have e1 := K1.out.row
    rw [e1, R1.out, dec64_A64, dec64_A64, HM.out]
    exact HLE.out
open Go.RowKit
def updG {n : Nat} (f : Nat → BitVec n) (l : List (BitVec n)) (k : Nat) : List (BitVec n) := (List.range l.length).map fun i => if i < k then f i else nth l i
theorem updG_length {n : Nat} (f : Nat → BitVec n) (l : List (BitVec n)) (k : Nat) : (updG f l k).length = l.length := by simp [updG]
theorem nth_updG {n : Nat} (f : Nat → BitVec n) (l : List (BitVec n)) (k i : Nat) (h : i < l.length) : nth (updG f l k) i = if i < k then f i else nth l i := by
 unfold updG
 rw [nth]
 simp [List.getD_eq_getElem?_getD, h]
theorem updG_zero {n : Nat} (f : Nat → BitVec n) (l : List (BitVec n)) : updG f l 0 = l := by
 refine ext_nth (updG_length f l 0) fun i hi => ?_
 rw [updG_length] at hi
 rw [nth_updG f l 0 i hi, if_neg (by omega)]
theorem updG_set {n : Nat} (f : Nat → BitVec n) (l : List (BitVec n)) (k : Nat) (hk : k < l.length) : (updG f l k).set k (f k) = updG f l (k + 1) := by
 refine ext_nth (by rw [List.length_set, updG_length, updG_length]) fun i hi => ?_
 rw [List.length_set, updG_length] at hi
 rw [nth_set _ _ _ _ (by rw [updG_length]; exact hk), nth_updG f l _ i hi, nth_updG f l _ i hi]
 by_cases h : k = i
 ·subst h; rw [if_pos rfl, if_pos (by omega)]
 ·rw [if_neg h]
  by_cases h2 : i < k
  ·rw [if_pos h2, if_pos (by omega)]
  ·rw [if_neg h2, if_neg (by omega)]
theorem updG_at {n : Nat} (f : Nat → BitVec n) (l : List (BitVec n)) (k : Nat) (hk : k < l.length) : nth (updG f l k) k = nth l k := by
 rw [nth_updG f l k k hk, if_neg (by omega)]
theorem nth_to64 (l : List (BitVec 32)) (i : Nat) (h : i < l.length) : nth (to64 l) i = (nth l i).setWidth 64 := by
 unfold to64 nth
 simp [List.getD_eq_getElem?_getD, h]
theorem loose_full (l : List (BitVec 32)) (h : l.length = 5) : updG (fun i => (nth l i).setWidth 64) (zeros 64 5) 5 = to64 l := by
 refine ext_nth (by rw [updG_length, to64_length, zeros_length, h]) fun i hi => ?_
 rw [updG_length, zeros_length] at hi
 rw [nth_updG _ _ _ _ (by rw [zeros_length]; exact hi), if_pos hi, nth_to64 _ _ (by omega)]
theorem ploose_any (x : List (BitVec 32)) (w : World) (hx : x.length = 5) :
  Calls Tryz.prog 152 #[.agg (A32 x)] w fun e w' => e = .returned (.agg (A64 (to64 x))) ∧ Below w.heap.size w w' := by
 obtain ⟨W, hW⟩ : ∃ W, ((w.alloc (.cells (A32 x) 224)).alloc (.cells (A64 (zeros 64 5)) 233)).alloc (.cells (A64 (zeros 64 5)) 233) = W := ⟨_, rfl⟩
 obtain ⟨b0, b1, b2, hb, hz⟩ := new3 _ _ _ _ _ _ _ _ hW
 have P0 := hid b0
 have Z0 := hid b1
 have N0 := hid b2
 have B0 := hid hb
 have hfull := loose_full x hx
 obtain ⟨f, hf⟩ : ∃ f : Nat → BitVec 64, f = fun i => (nth x i).setWidth 64 := ⟨_, rfl⟩
 rw [← hf] at hfull
 have HF := hid hf
 have HU := hid hfull
 clear b0 b1 b2 hb hz hf hfull
 go_enter Tryz.func152, Tryz.ntmps152
 go_wp2_with fail
 go_loopw [5] (fun i wr => ∃ k : Nat, k ≤ 5 ∧ i = .int .i64 k ∧ Blk wr w.heap.size 224 (A32 x) ∧ Blk wr (w.heap.size + 1) 233 (A64 (zeros 64 5)) ∧ Blk wr (w.heap.size + 2) 233 (A64 (updG f (zeros 64 5) k)) ∧ Below w.heap.size w wr) (fun i _ => 5 - (intOf i).toNat)
 case atStart => exact ⟨0, Nat.zero_le _, rfl, P0.out, Z0.out, by rw [updG_zero]; exact N0.out, B0.out⟩
 case round =>
  obtain ⟨k, hk, rfl, hP, hZ, hN, hB⟩ := hrel
  have P1 := hid hP
  have Z1 := hid hZ
  have N1 := hid hN
  have B1 := hid hB
  clear hP hZ hN hB P0 Z0 N0 B0 hW
  by_cases hk5 : k < 5
  ·have k1 : (k : Int) < 5 := by omega
   have k0 : (0 : Int) ≤ (k : Int) := by omega
   have c1 := P1.out.cell32 hx k hk5
   have c2 := N1.out.cell64 (m := 5) (by rw [updG_length, zeros_length]) k hk5
   have fo := N1.out.frozen k
   have kk := N1.out.set_ k (v64 ((nth x k).setWidth 64))
   rw [A64_set, show (nth x k).setWidth 64 = f k by rw [HF.out], updG_set f _ k (by rw [zeros_length]; exact hk5)] at kk
   have e1 : (nth x k).setWidth 64 = f k := by rw [HF.out]
   have N2 := hid kk
   have P2 := hid (P1.out.far (p := ⟨w.heap.size + 2, k, none⟩) (by simp) (v64 (f k)))
   have Z2 := hid (Z1.out.far (p := ⟨w.heap.size + 2, k, none⟩) (by simp) (v64 (f k)))
   have B2 := hid (B1.out.setCell (p := ⟨w.heap.size + 2, k, none⟩) (by simp) (v64 (f k)))
   clear kk P1 Z1 N1 B1
   go_wp2
   exact ⟨⟨k + 1, by omega, by go_num, P2.out, Z2.out, N2.out, B2.out⟩, by simp [intOf]; omega⟩
  ·obtain rfl : k = 5 := by omega
   have n5 := N1.out
   rw [HU.out] at n5
   have r1 := n5.row
   have r2 := Z1.out.row
   have r3 := Z1.out.whole
   have hl : (to64 x).length = 5 := by rw [to64_length, hx]
   clear n5
   go_wp2
   refine bodyPost_row (A64 (to64 x)) rfl rfl rfl (Tryz.isAgg233 _) (Tryz.sizeOf233 _) (by rw [A64_size]; exact hl) (rowAt_setRow _ r3) ⟨rfl, below_setRow B1.out (by omega) _⟩
def formN (x : List (BitVec 32)) : List (BitVec 32) := tidyL (to64 x)
@[simp] theorem formN_length (x : List (BitVec 32)) : (formN x).length = 5 := tidyL_length _
theorem to64_lt (x : List (BitVec 32)) (i : Nat) : pn (to64 x) i < 2 ^ 32 := by rw [pn_to64]; exact (nth x i).isLt
theorem form_any (x : List (BitVec 32)) (w : World) (hx : x.length = 5) :
  Calls Tryz.prog 153 #[.agg (A32 x)] w fun e w' => e = .returned (.agg (A32 (formN x))) ∧ Below w.heap.size w w' := by
 obtain ⟨W, hW⟩ : ∃ W, (w.alloc (.cells (A32 x) 224)).alloc (.cells (A32 (zeros 32 5)) 224) = W := ⟨_, rfl⟩
 obtain ⟨b0, b1, hb, hz⟩ := new2 _ _ _ _ _ _ hW
 have r0 := b0.row
 have Z0 := hid b1
 have B0 := hid hb
 have hRl := formN_length x
 obtain ⟨R, hR⟩ : ∃ R, R = formN x := ⟨_, rfl⟩
 rw [← hR] at hRl ⊢
 have HR := hid hR
 clear b0 b1 hb hz hR
 go_enter Tryz.func153, Tryz.ntmps153
 go_wp2_with fail
 refine (ploose_any x W hx).mono ?_
 rintro e w1 ⟨rfl, d1⟩
 have hl : (to64 x).length = 5 := by rw [to64_length, hx]
 have hlt : ∀ i, i < 5 → pn (to64 x) i < 2 ^ 60 := fun i _ => Nat.lt_of_lt_of_le (to64_lt x i) (by decide)
 have HLT := hid hlt
 clear hW r0 hlt
 go_wp2_with fail
 refine (tidy_any (to64 x) w1 hl HLT.out).mono ?_
 rintro e w2 ⟨rfl, d2⟩
 rw [show tidyL (to64 x) = R from HR.out.symm]
 have d12 := d1.trans (d2.mono d1.size)
 have z2 := Z0.out.belowAll d12
 have r3 := z2.row
 have r4 := z2.whole
 have B2 := B0.out.trans (d12.mono B0.out.size)
 clear d1 d2 d12 z2
 go_wp2
 refine bodyPost_row (A32 R) rfl rfl rfl (Tryz.isAgg224 _) (Tryz.sizeOf224 _) (by rw [A32_size]; exact hRl) (rowAt_setRow _ r4) ⟨rfl, below_setRow B2 (by omega) _⟩
open Go.RowKit
def addW (a b : List (BitVec 32)) : List (BitVec 64) := updG (fun i => nth (to64 a) i + (nth b i).setWidth 64) (to64 a) 5
def plusN (a b : List (BitVec 32)) : List (BitVec 32) := tidyL (addW a b)
@[simp] theorem plusN_length (a b : List (BitVec 32)) : (plusN a b).length = 5 := tidyL_length _
theorem addW_length (a b : List (BitVec 32)) (h : a.length = 5) : (addW a b).length = 5 := by rw [addW, updG_length, to64_length, h]
theorem pn_addW (a b : List (BitVec 32)) (ha : a.length = 5) (i : Nat) (hi : i < 5) : pn (addW a b) i = (nth a i).toNat + (nth b i).toNat := by
 have h1 := (nth a i).isLt
 have h2 := (nth b i).isLt
 unfold pn addW
 rw [nth_updG _ _ _ _ (by rw [to64_length, ha]; exact hi), if_pos hi, BitVec.toNat_add, nth_to64 _ _ (by omega)]
 simp only [BitVec.toNat_setWidth]
 omega
theorem plusN_any (a b : List (BitVec 32)) (w : World) (ha : a.length = 5) (hb5 : b.length = 5) :
  Calls Tryz.prog 147 #[.agg (A32 a), .agg (A32 b)] w fun e w' => e = .returned (.agg (A32 (plusN a b))) ∧ Below w.heap.size w w' := by
 obtain ⟨W, hW⟩ : ∃ W, ((w.alloc (.cells (A32 a) 224)).alloc (.cells (A32 b) 224)).alloc (.cells (A32 (zeros 32 5)) 224) = W := ⟨_, rfl⟩
 obtain ⟨b0, b1, b2, hb, hz⟩ := new3 _ _ _ _ _ _ _ _ hW
 have r0 := b0.row
 have Q0 := hid b1
 have Z0 := hid b2
 have B0 := hid hb
 have hRl := plusN_length a b
 obtain ⟨R, hR⟩ : ∃ R, R = plusN a b := ⟨_, rfl⟩
 rw [← hR] at hRl ⊢
 have HR := hid hR
 clear b0 b1 b2 hb hz hR
 have hal : (to64 a).length = 5 := by rw [to64_length, ha]
 have hsl := addW_length a b ha
 have hlt : ∀ i, i < 5 → pn (addW a b) i < 2 ^ 60 := fun i hi => by
  have h1 := (nth a i).isLt
  have h2 := (nth b i).isLt
  rw [pn_addW a b ha i hi]; omega
 have HLT := hid hlt
 obtain ⟨X, hX⟩ : ∃ X, X = to64 a := ⟨_, rfl⟩
 obtain ⟨f, hf⟩ : ∃ f : Nat → BitVec 64, f = fun i => nth X i + (nth b i).setWidth 64 := ⟨_, rfl⟩
 have hfull : updG f X 5 = addW a b := by rw [hf, hX]; rfl
 rw [← hX] at hal
 have HX := hid hX
 have HF := hid hf
 have HU := hid hfull
 clear hlt hX hf hfull
 go_enter Tryz.func147, Tryz.ntmps147
 go_wp2_with fail
 refine (ploose_any a W ha).mono ?_
 rintro e w1 ⟨rfl, d1⟩
 rw [show to64 a = X from HX.out.symm]
 have N1 := hid (Blk.new w1 233 (A64 X))
 have Q1 := hid ((Q0.out.belowAll d1).alloc (.cells (A64 X) 233))
 have Z1 := hid ((Z0.out.belowAll d1).alloc (.cells (A64 X) 233))
 have D1 := B0.out.trans (d1.mono B0.out.size)
 have B1 := hid (D1.alloc D1.size (.cells (A64 X) 233))
 have hn1 : w1.heap.size ≠ w.heap.size + 1 := by have := (Q0.out.belowAll d1).lt; omega
 have hn2 : w1.heap.size ≠ w.heap.size + 2 := by have := (Z0.out.belowAll d1).lt; omega
 have hn3 : w.heap.size ≤ w1.heap.size := D1.size
 clear d1 D1 hW r0 Q0 Z0 B0
 go_wp2_with fail
 generalize w1.alloc (.cells (A64 X) 233) = V at *
 generalize w1.heap.size = q at *
 go_loopw [9] (fun i wr => ∃ k : Nat, k ≤ 5 ∧ i = .int .i64 k ∧ Blk wr (w.heap.size + 1) 224 (A32 b) ∧ Blk wr (w.heap.size + 2) 224 (A32 (zeros 32 5)) ∧ Blk wr q 233 (A64 (updG f X k)) ∧ Below w.heap.size w wr) (fun i _ => 5 - (intOf i).toNat)
 case atStart => exact ⟨0, Nat.zero_le _, rfl, Q1.out, Z1.out, by rw [updG_zero]; exact N1.out, B1.out⟩
 case round =>
  obtain ⟨k, hk, rfl, hQ, hZ, hN, hB⟩ := hrel
  have Q2 := hid hQ
  have Z2 := hid hZ
  have N2 := hid hN
  have B2 := hid hB
  clear hQ hZ hN hB Q1 Z1 N1 B1
  by_cases hk5 : k < 5
  ·have k1 : (k : Int) < 5 := by omega
   have k0 : (0 : Int) ≤ (k : Int) := by omega
   have c1 := N2.out.drew.cell64 (m := 5) (by rw [updG_length, hal]) k hk5
   have c2 := Q2.out.drew.cell32 hb5 k hk5
   rw [updG_at f X k (by rw [hal]; exact hk5)] at c1
   go_upto_region 5 with fail
   refine wp_region_text3' [0,0,1,0,0,1,0,0,0,2] (by kernel_rfl) (by kernel_rfl) (fun ops' K2 hK2 => ?_)
   repeat
    (first
     | (with_reducible refine z_move (a' := ?_) ?_ ?_); rotate_left
     | (with_reducible refine z_assign (a' := ?_) ?_ ?_); rotate_left
     | (with_reducible refine z_obl (v := ?_) (a' := ?_) rfl (fun _ => ?_) ?_ ?_); rotate_left 2; (focus (go_simp; (try go_bits); exact rfl))
     | (with_reducible refine z_read (v := ?_) (a' := ?_) rfl ?_ ?_ ?_); rotate_left 2; (focus (go_simp; (try go_bits); exact rfl)))
    focus (simp only [Act.put, zz1, zz2, zz3, Act.eval, zz4, zz5, zz6, zz7, zz8]; exact rfl)
   refine z_store64 N2.out.drew rfl rfl (by rw [updG_length, hal]; exact hk5) (Tryz.sizeOf73 _) (fun w2 k2 g2 s2 => ?_)
   refine z_nil (hK2 _ _ ?_)
   rw [show nth X k + (nth b k).setWidth 64 = f k by rw [HF.out], updG_set f X k (by rw [hal]; exact hk5)] at k2
   have N3 := hid k2
   have Q3 := hid (Q2.out.drew.grown g2 (by simpa using fun e => hn1 e.symm))
   have Z3 := hid (Z2.out.drew.grown g2 (by simpa using fun e => hn2 e.symm))
   have B3 := hid (B2.out.drew.trans (grown_below g2 hn3 B2.out.drew.size))
   clear k2 g2 s2 c1 c2 hK2 Q2 Z2 N2 B2
   go_wp2
   exact ⟨⟨k + 1, by omega, by go_num, Q3.out, Z3.out, N3.out, B3.out⟩, by simp [intOf]; omega⟩
  ·obtain rfl : k = 5 := by omega
   have n5 := N2.out
   rw [HU.out] at n5
   obtain ⟨S, hS⟩ : ∃ S, S = addW a b := ⟨_, rfl⟩
   have HS := hid hS
   rw [← hS] at n5 hsl
   have lt2 := HLT.out
   rw [← hS] at lt2
   have LT2 := hid lt2
   have r1 := n5.row
   clear n5 hS lt2
   go_wp2_with fail
   refine (tidy_any S wr hsl LT2.out).mono ?_
   rintro e w3 ⟨rfl, d3⟩
   rw [show tidyL S = R by rw [HR.out, HS.out]; rfl]
   have z3 := Z2.out.belowAll d3
   have r3 := z3.row
   have r4 := z3.whole
   have B3 := B2.out.trans (d3.mono B2.out.size)
   clear d3 z3
   go_wp2
   refine bodyPost_row (A32 R) rfl rfl rfl (Tryz.isAgg224 _) (Tryz.sizeOf224 _) (by rw [A32_size]; exact hRl) (rowAt_setRow _ r4) ⟨rfl, below_setRow B3 (by omega) _⟩
end Go.Proofs.YtpifdkkhdgbcdaaGreatDoor
