/- adiantum by definition: a Cipher's cells; the stream of a block -/
import Derived.Test.YtfdkmjegcghieaaGreatDoorMJf
import Derived.Test.YtfdkmjegcghieaaGreatDoorMJk
import Derived.Test.YtfdkmjegcghieaaGreatDoorMRg5
import Derived.Test.YtfdkmjegcghieaaGreatDoorMHi
import Derived.Test.YtfdkmjegcghieaaGreatDoorMHj
import Derived.Test.YtfdkmjegcghieaaGreatDoorMGq
import Derived.Test.YtfdkmjegcghieaaGreatDoorMHk
import Derived.Test.YtfdkmjegcghieaaGreatDoorMIe
namespace Go.Proofs.YtfdkmjegcghieaaGreatDoor
open Lib (hid)
set_option linter.unusedSimpArgs false
set_option maxRecDepth 100000
set_option maxHeartbeats 1600000
open Go.RowKit
def C17 (L : List (BitVec 8)) (r h : Value) : Array Value := A8 L ++ #[r, h]
theorem C17_size {L : List (BitVec 8)} (hL : L.length = 544) (r h : Value) : (C17 L r h).size = 546 := by
 simp [C17, A8_size, hL]
theorem C17_box {X K : List (BitVec 8)} (hX : X.length = 512) (r h : Value) : (C17 (X ++ K) r h).extract 0 512 = A8 X := by
 apply Array.ext'
 simp [C17, A8, List.extract_eq_take_drop, hX]
theorem C17_key {X K : List (BitVec 8)} (hX : X.length = 512) (hK : K.length = 32) (r h : Value) : (C17 (X ++ K) r h).extract 512 544 = A8 K := by
 apply Array.ext'
 simp [C17, A8, List.extract_eq_take_drop, hX]
 rw [List.take_of_length_le (by simp [hK]), show 544 - (512 + K.length) = 0 by omega, List.take_zero, List.append_nil]
theorem C17_r {L : List (BitVec 8)} (hL : L.length = 544) (r h : Value) : (C17 L r h)[544]? = some r := by
 simp [C17, A8, hL]
theorem C17_h {L : List (BitVec 8)} (hL : L.length = 544) (r h : Value) : (C17 L r h)[545]? = some h := by
 simp [C17, A8, hL]
theorem C17_cell {L : List (BitVec 8)} (hL : L.length = 544) (r h : Value) (i : Nat) (hi : i < 544) : (C17 L r h)[i]? = some (v8 (nth L i)) := by
 rw [C17, Array.getElem?_append, A8_size, hL, if_pos hi, A8_get L i (by omega)]
theorem C17_set {L : List (BitVec 8)} (hL : L.length = 544) (r h : Value) (i : Nat) (hi : i < 544) (x : BitVec 8) : (C17 L r h).setIfInBounds i (v8 x) = C17 (L.set i x) r h := by
 apply Array.ext'
 simp [C17, A8, hL, hi, List.map_set]
theorem C17_setr {L : List (BitVec 8)} (hL : L.length = 544) (r r' h : Value) : (C17 L r h).setIfInBounds 544 r' = C17 L r' h := by
 apply Array.ext'
 simp [C17, A8, hL]
theorem C17_seth {L : List (BitVec 8)} (hL : L.length = 544) (r h h' : Value) : (C17 L r h).setIfInBounds 545 h' = C17 L r h' := by
 apply Array.ext'
 simp [C17, A8, hL]
theorem C17_ones (L : List (BitVec 8)) (a b : Option Addr) (n c m d : Nat) : ones (C17 L (.slice a n c) (.slice b m d)) = true := by
 have h1 := A8_ones L
 unfold ones at *
 simp only [C17, Array.all_append, h1]
 simp [Value.oneCell']
theorem C17_rest {L : List (BitVec 8)} (hL : L.length = 544) (r h : Value) : (C17 L r h).extract 512 546 = A8 (L.drop 512) ++ #[r, h] := by
 apply Array.ext'
 simp [C17, A8, List.extract_eq_take_drop, hL]
 rw [List.take_of_length_le (by simp [hL])]
theorem zeroC17 : Tryz.zeroCells51 = C17 (zeros 8 544) (.slice none 0 0) (.slice none 0 0) := by kernel_rfl
@[go_sem] theorem cellsOf51 : Tryz.prog.cellsOf 51 = 546 := by kernel_rfl
theorem zero51 (w : World) : (zeroValue 51).run Tryz.prog w = .ok (.agg (C17 (zeros 8 544) (.slice none 0 0) (.slice none 0 0))) w := by kernel_rfl
@[go_sem ↓ high] theorem alloc51 (w : World) : (Instr.alloc 51 true (.tuple #[])).run Tryz.prog w = .ok (.pointer (some ⟨w.heap.size, 0, none⟩)) (w.alloc (.cells (C17 (zeros 8 544) (.slice none 0 0) (.slice none 0 0)) 51)) := alloc_of_zero zero51 w
theorem fold17 (X : List (BitVec 8)) (hX : X.length = 512) : Array.foldl (fun cs x => cs.setIfInBounds x.snd x.fst) Tryz.zeroCells51 (A8 X).zipIdx 0 512 = C17 (X ++ zeros 8 32) (.slice none 0 0) (.slice none 0 0) := by
 have hz := zeroC17
 rw [hz, fold_partA _ _ 512 (by rw [A8_size, hX]) (by rw [C17_size (by rw [zeros_length])]; omega), C17_size (by rw [zeros_length]), C17_rest (by rw [zeros_length])]
 rw [show (zeros 8 544).drop 512 = zeros 8 32 by rw [zeros, zeros, List.drop_replicate], C17]
 apply Array.ext'
 simp only [A8, Array.toList_append, List.map_append, List.append_assoc]
theorem fill_next (l : List (BitVec 8)) (n i : Nat) (hi : i < l.length) (hn : i < n) : (l.take i ++ zeros 8 (n - i)).set i (nth l i) = l.take (i + 1) ++ zeros 8 (n - (i + 1)) := by
 obtain ⟨d, hd⟩ : ∃ d, n - i = d + 1 := ⟨n - i - 1, by omega⟩
 rw [hd, show n - (i + 1) = d by omega, show zeros 8 (d + 1) = 0#8 :: zeros 8 d from rfl, List.set_append_right _ _ (by rw [List.length_take]; omega), List.length_take, Nat.min_eq_left (by omega), Nat.sub_self, List.set_cons_zero, List.take_add_one, nth_eq hi, List.append_assoc]
 rfl
theorem refStream17_any (X K l : List (BitVec 8)) (r h : Value) (x : W2) (a : Option Addr) (n c : Nat) (w : World) (hX : X.length = 512) (hK : K.length = 32) (hr : Rd8 w a n c l) (hn : n ≤ 1000) :
  Calls Tryz.prog 51 #[.agg (C17 (X ++ K) r h), .agg (A8 (bytesW x)), .slice a n c] w fun e w' => ∃ v, e = .returned v ∧ Own8 w' w.heap.size 5 v (cryptOf K (nonceW x) 12 l) ∧ Below w.heap.size w w' := by
 obtain ⟨CC, hCC⟩ : ∃ z, z = C17 (X ++ K) r h := ⟨_, rfl⟩
 have k1 : CC.size = 546 := by rw [hCC]; exact C17_size (by rw [List.length_append, hX, hK]) _ _
 have k2 : CC.extract 512 544 = A8 K := by rw [hCC]; exact C17_key hX hK _ _
 rw [← hCC]
 obtain ⟨B, hB⟩ : ∃ z, z = bytesW x := ⟨_, rfl⟩
 have hBl : B.length = 16 := by rw [hB]; rfl
 have hno : (B.take 16 ++ zeros 8 (24 - 16)).set 16 1#8 = nonceW x := by
  rw [List.take_of_length_le (by omega), show zeros 8 (24 - 16) = 0#8 :: zeros 8 7 from rfl, List.set_append_right _ _ (by omega), hBl, List.set_cons_zero, hB]; rfl
 rw [← hB]
 obtain ⟨W, hW⟩ : ∃ W, ((w.alloc (.cells CC 51)).alloc (.cells (A8 B) 37)).alloc (.cells (A8 (zeros 8 24)) 88) = W := ⟨_, rfl⟩
 obtain ⟨b0, b1, b2, hb, hz⟩ := new3 _ _ _ _ _ _ _ _ hW
 have P0 := hid b0
 have Q0 := hid b1
 have N0 := hid b2
 have B0 := hid hb
 have R0 := hid (hr.below hb)
 have HR := hid hr
 have HNO := hid hno
 clear b0 b1 b2 hb hz hr hCC hB hno
 go_enter Tryz.func51, Tryz.ntmps51
 go_wp2_with fail
 clear hW
 go_loopw [8] (fun i wr => ∃ j : Nat, j ≤ 16 ∧ i = .int .i64 j ∧ Blk wr w.heap.size 51 CC ∧ Blk wr (w.heap.size + 1) 37 (A8 B) ∧ Blk wr (w.heap.size + 2) 88 (A8 (B.take j ++ zeros 8 (24 - j))) ∧ Below w.heap.size w wr) (fun i _ => 16 - (intOf i).toNat)
 case atStart => exact ⟨0, by omega, rfl, P0.out, Q0.out, N0.out, B0.out⟩
 case round =>
  obtain ⟨j, hj, rfl, hP, hQ, hN, hB⟩ := hrel
  have P1 := hid hP
  have Q1 := hid hQ
  have N1 := hid hN
  have B1 := hid hB
  clear hP hQ hN hB P0 Q0 N0 B0
  have hll : (B.take j ++ zeros 8 (24 - j)).length = 24 := by rw [List.length_append, List.length_take, zeros_length]; omega
  by_cases hj16 : j < 16
  ·have j0 : (0 : Int) ≤ (j : Int) := by omega
   have j1 : (j : Int) < 16 := by omega
   have j2 : (j : Int) < 24 := by omega
   have c1 := Q1.out.cell8 hBl j hj16
   have c2 := N1.out.cell8 hll j (by omega)
   have fo := N1.out.frozen j
   have hst := fill_next B 24 j (by omega) (by omega)
   obtain ⟨XX, hXX⟩ : ∃ X, X = nth B j := ⟨_, rfl⟩
   rw [← hXX] at c1 hst
   obtain ⟨w4, hw4⟩ : ∃ z, z = wr.setCell ⟨w.heap.size + 2, j, none⟩ (v8 XX) := ⟨_, rfl⟩
   have y1 := N1.out.set_ j (v8 XX)
   have g1 := grown_setCell wr (w.heap.size + 2) j (v8 XX)
   rw [A8_set, ← hw4, hst] at y1
   rw [← hw4] at g1
   have P4 := hid (P1.out.grown g1 (by simp))
   have Q4 := hid (Q1.out.grown g1 (by simp))
   have N4 := hid y1
   have B4 := hid (B1.out.trans (grown_below g1 (by omega) B1.out.size))
   have HW4 := hid hw4
   clear y1 g1 hw4 hst P1 Q1 N1 B1 hXX hll
   go_wp2
   rw [show wr.setCell ⟨w.heap.size + 2, j, none⟩ (v8 XX) = w4 from HW4.out.symm]
   exact ⟨⟨j + 1, by omega, by go_num, P4.out, Q4.out, N4.out, B4.out⟩, by simp [intOf]; omega⟩
  ·obtain rfl : j = 16 := by omega
   have c2 := N1.out.cell8 hll 16 (by omega)
   have fo := N1.out.frozen 16
   obtain ⟨w4, hw4⟩ : ∃ z, z = wr.setCell ⟨w.heap.size + 2, 16, none⟩ (.int .u8 1) := ⟨_, rfl⟩
   have y1 : Blk (wr.setCell ⟨w.heap.size + 2, 16, none⟩ (.int .u8 1)) (w.heap.size + 2) 88 _ := N1.out.set_ 16 (v8 1#8)
   have g1 := grown_setCell wr (w.heap.size + 2) 16 (.int .u8 1)
   rw [A8_set, ← hw4, HNO.out] at y1
   rw [← hw4] at g1
   have P4 := hid (P1.out.grown g1 (by simp))
   have N4 := hid y1
   have B4 := hid (B1.out.trans (grown_below g1 (by omega) B1.out.size))
   have HW4 := hid hw4
   have nol := nonceW_length x
   have r1 := P4.out.row
   have r2 := N4.out.row
   rw [hw4] at r1 r2
   have r3 : rowAt (wr.setCell ⟨w.heap.size + 1 + 1, 16, none⟩ (.int .u8 1)) (w.heap.size + 1 + 1) = A8 (nonceW x) := r2
   have hcr := refCrypt_any K (nonceW x) l 12 a n c w4 hK (nonceW_length x) (by omega) (by omega) (HR.out.below B4.out) (by omega)
   rw [hw4] at hcr
   have HCR := hid hcr
   clear y1 g1 P1 Q1 N1 B1 hll hcr hw4
   go_wp2_with fail
   refine HCR.out.mono ?_
   rintro e w5 ⟨v5, rfl, o5, d5⟩
   have d6 := HW4.out ▸ d5
   have o6 := HW4.out ▸ o5
   have B6 := hid (B4.out.trans (d6.mono B4.out.size))
   have O6 := hid (o6.base B4.out.size)
   clear d5 o5 d6 o6
   go_wp2
   go_ret
   exact ⟨_, rfl, O6.out, B6.out⟩
open Go.RowKit
theorem build17 (X : List (BitVec 8)) (hX : X.length = 512) (w : World) : (buildB1 51 (.agg (A8 X))).run Tryz.prog w = .ok (.agg (C17 (X ++ zeros 8 32) (.slice none 0 0) (.slice none 0 0))) w := by
 have hf17 := fold17 X hX
 have hs := A8_size X
 rw [hX] at hs
 unfold buildB1
 go_simp
theorem refNew17_any (key : List (BitVec 8)) (a : Option Addr) (c : Nat) (w : World) (hr : Rd8 w a 32 c key) :
  Calls Tryz.prog 20 #[.agg (A8 boxesL), .slice a 32 c] w fun e w' => ∃ g cg h ch, e = .returned (.agg (C17 (boxesL ++ key) (.slice (some ⟨g, 0, none⟩) 15 cg) (.slice (some ⟨h, 32, none⟩) 1104 (ch - 32)))) ∧ OwnS w' w.heap.size 37 16 (.slice (some ⟨g, 0, none⟩) 15 cg) 15 (aesA key) ∧ Own8 w' w.heap.size 5 (.slice (some ⟨h, 0, none⟩) 1136 ch) (ownA key) ∧ Below w.heap.size w w' := by
 have hkl := hr.1
 obtain ⟨X, hX⟩ : ∃ X, X = boxesL := ⟨_, rfl⟩
 have hXl : X.length = 512 := by rw [hX]; exact boxesL_length
 obtain ⟨own, hown⟩ : ∃ z, z = ownA key := ⟨_, rfl⟩
 have hol : own.length = 1136 := by rw [hown]; simp [ownA, cryptOf, streamOf]
 obtain ⟨L, hL⟩ : ∃ L, L = aesA key := ⟨_, rfl⟩
 have hks := fun (ad : Option Addr) (c1 : Nat) (w1 : World) (h : Rd8 w1 ad 32 c1 (own.take 32)) => refKeys_any (own.take 32) ad 32 c1 w1 h (.inr (.inr rfl))
 rw [← hX, show sch (32 / 4) (own.take 32) (3 * (32 / 4) + 28) = L by rw [hL, hown]; rfl] at hks
 have hcr := fun (ad : Option Addr) (w1 : World) (h : Rd8 w1 ad 1136 1136 (zeros 8 1136)) => refCrypt_any key nonce1 (zeros 8 1136) 12 ad 1136 1136 w1 hkl (by decide) (by omega) (by omega) h (by omega)
 rw [show cryptOf key nonce1 (12 : Int).toNat (zeros 8 1136) = own by rw [hown]; rfl] at hcr
 rw [← hX, ← hL, ← hown]
 have KS := hid hks
 have CR := hid hcr
 have HX := hid hX
 have HOL := hid hol
 clear hX hL hown hks hcr hol
 obtain ⟨W1, hW1⟩ : ∃ W, (w.alloc (.cells (A8 X) 35)).alloc (.cells (C17 (zeros 8 544) (.slice none 0 0) (.slice none 0 0)) 51) = W := ⟨_, rfl⟩
 obtain ⟨b0, b1, hb, hz⟩ := new2 _ _ _ _ _ _ hW1
 obtain ⟨W, hW⟩ : ∃ W, W1.alloc (.cells (C17 (X ++ zeros 8 32) (.slice none 0 0) (.slice none 0 0)) 51) = W := ⟨_, rfl⟩
 obtain ⟨c0, cb, cz⟩ := new1 _ _ _ _ hW
 have q0 := b0.row
 have q1 := (Blk.new W1 51 (C17 (zeros 8 544) (.slice none 0 0) (.slice none 0 0))).row
 have q2 := (Blk.new W1 51 (C17 (zeros 8 544) (.slice none 0 0) (.slice none 0 0))).whole
 have q3 : (C17 (zeros 8 544) (.slice none 0 0) (.slice none 0 0)).size = 546 := C17_size (by rw [zeros_length]) _ _
 have q4 : (C17 (X ++ zeros 8 32) (.slice none 0 0) (.slice none 0 0)).size = 546 := C17_size (by rw [List.length_append, hXl, zeros_length]) _ _
 have q5 := C17_ones (X ++ zeros 8 32) none none 0 0 0 0
 have hf17 := fun w1 : World => build17 X hXl w1
 have e2 : W1.heap.size = w.heap.size + 2 := hz
 rw [hz] at c0
 have P0 := hid (b0.belowAll cb)
 have Z0 := hid (b1.belowAll cb)
 have C0 := hid c0
 have B0 := hid (hb.trans (cb.mono hb.size))
 have HR := hid hr
 have HE := hid e2
 clear b0 b1 hb hz hr c0 cb cz e2
 go_enter Tryz.func20, Tryz.ntmps20
 go_upto_region 1 with fail
 clear hW1
 go_wp2_with fail
 rw [HE.out]
 clear q0 q1 q2 q3 q4 q5 hf17 hW HE
 go_loopw [6] (fun i wr => ∃ j : Nat, j ≤ 32 ∧ i = .int .i64 j ∧ Blk wr w.heap.size 35 (A8 X) ∧ Blk wr (w.heap.size + 1) 51 (C17 (zeros 8 544) (.slice none 0 0) (.slice none 0 0)) ∧ Blk wr (w.heap.size + 2) 51 (C17 (X ++ (key.take j ++ zeros 8 (32 - j))) (.slice none 0 0) (.slice none 0 0)) ∧ Below w.heap.size w wr) (fun i _ => 32 - (intOf i).toNat)
 case atStart => exact ⟨0, by omega, rfl, P0.out, Z0.out, C0.out, B0.out⟩
 case round =>
  obtain ⟨j, hj, rfl, hP, hZ, hC, hB⟩ := hrel
  have P1 := hid hP
  have Z1 := hid hZ
  have C1 := hid hC
  have B1 := hid hB
  clear hP hZ hC hB P0 Z0 C0 B0
  have hll : (X ++ (key.take j ++ zeros 8 (32 - j))).length = 544 := by rw [List.length_append, List.length_append, List.length_take, zeros_length]; omega
  by_cases hj32 : j < 32
  ·have j0 : (0 : Int) ≤ (j : Int) := by omega
   have j1 : (j : Int) < 32 := by omega
   obtain ⟨bk, bo, e1, hbk, hc⟩ := (HR.out.below B1.out).2.2.2 (by omega)
   subst e1
   have c1 := hc j hj32
   have c2 : wr.cell? ⟨w.heap.size + 2, 512 + j, none⟩ = some (v8 (nth (X ++ (key.take j ++ zeros 8 (32 - j))) (512 + j))) := by rw [C1.out.cell]; exact C17_cell hll _ _ _ (by omega)
   have fo := C1.out.frozen (512 + j)
   have hst := fill_next key 32 j (by omega) (by omega)
   obtain ⟨XX, hXX⟩ : ∃ x, x = nth key j := ⟨_, rfl⟩
   rw [← hXX] at c1 hst
   obtain ⟨w4, hw4⟩ : ∃ z, z = wr.setCell ⟨w.heap.size + 2, 512 + j, none⟩ (v8 XX) := ⟨_, rfl⟩
   have y1 := C1.out.set_ (512 + j) (v8 XX)
   have g1 := grown_setCell wr (w.heap.size + 2) (512 + j) (v8 XX)
   rw [C17_set hll _ _ _ (by omega), List.set_append_right _ _ (by omega), hXl, Nat.add_sub_cancel_left, hst, ← hw4] at y1
   rw [← hw4] at g1
   have P4 := hid (P1.out.grown g1 (by simp))
   have Z4 := hid (Z1.out.grown g1 (by simp))
   have C4 := hid y1
   have B4 := hid (B1.out.trans (grown_below g1 (by omega) B1.out.size))
   have HW4 := hid hw4
   clear y1 g1 hw4 hst P1 Z1 C1 B1 hXX hll hc
   go_wp2
   rw [show wr.setCell ⟨w.heap.size + 2, 512 + j, none⟩ (v8 XX) = w4 from HW4.out.symm]
   exact ⟨⟨j + 1, by omega, by go_num, P4.out, Z4.out, C4.out, B4.out⟩, by simp [intOf]; omega⟩
  ·obtain rfl : j = 32 := by omega
   have cc := C1.out
   rw [List.take_of_length_le (by omega), Nat.sub_self, show zeros 8 0 = [] from rfl, List.append_nil] at cc
   obtain ⟨XK, hXK⟩ : ∃ z, z = X ++ key := ⟨_, rfl⟩
   have hXKl : XK.length = 544 := by rw [hXK, List.length_append, hXl, hkl]
   have hex := C17_key (X := X) hXl hkl (.slice none 0 0) (.slice none 0 0)
   rw [← hXK] at cc hex
   have HXK := hid hXK
   have C2 := hid cc
   have HEX := hid hex
   have hs2 : w.heap.size + 2 < wr.heap.size := cc.lt
   have HS2 := hid hs2
   clear cc C1 hXK hll hj32 hj hex hs2
   go_upto_region 6 with fail
   refine wp_region_tail [0,5,0,2,2,0] (by kernel_rfl) (by kernel_rfl) (fun C0 hC0 hCb K' hK' => ?_)
   have Q1 : ∀ w1, C0 w1 → rowAt w1 (w.heap.size + 2) = C17 XK (.slice none 0 0) (.slice none 0 0) := fun w1 hw => (C2.out.drew.belowAll (hCb w1 hw)).row
   have hexx := HEX.out
   have hsz := C17_size hXKl (.slice none 0 0) (.slice none 0 0)
   have bn := build_nonce
   repeat
    (first
     | (with_reducible refine h_pure (v := ?_) (a' := ?_) ?_ (fun _ => ?_) ?_ ?_); rotate_left 2; (focus (exact rfl)); (focus (go_simp; (try go_bits); exact rfl))
     | (with_reducible refine h_obl (v := ?_) (a' := ?_) ?_ (fun _ hcw => ?_) ?_ ?_); rotate_left 2; (focus (exact rfl)); (focus (have f1 := Q1 _ hcw; go_simp; (try go_bits); exact rfl))
     | (with_reducible refine h_read (v := ?_) (a' := ?_) ?_ (fun _ hbw => ?_) ?_ ?_); rotate_left 2; (focus (exact rfl)); (focus (go_simp; (try go_bits); exact rfl)))
    focus (simp only [Act.put, zz1, zz2, zz3, Act.eval, zz4, zz5, zz6, zz7, zz8]; exact rfl)
   refine h_make8 (n := 1136) rfl rfl (by omega) Tryz.underlying23 info8 (fun w2 ad r2 b2 => ?_)
   simp only [Act.put, zz1, zz2, zz3]
   (with_reducible refine h_call ?_ ?_)
   ·exact rfl
   go_simp
   refine entersW_of ?_
   refine (CR.out ad w2 r2).mono ?_
   rintro e w4 ⟨v4, rfl, o4, d4⟩
   refine ⟨_, rfl, d4, ?_⟩
   try simp only [Act.put, zz1, zz2, zz3]
   obtain ⟨h4, c4, rfl, hb4, _⟩ := o4.form (by rw [HOL.out]; omega)
   rw [HOL.out] at o4 ⊢
   repeat
    (first
     | (with_reducible refine h_pure (v := ?_) (a' := ?_) ?_ (fun _ => ?_) ?_ ?_); rotate_left 2; (focus (exact rfl)); (focus (go_simp; (try go_bits); exact rfl))
     | (with_reducible refine h_obl (v := ?_) (a' := ?_) ?_ (fun _ hcw => ?_) ?_ ?_); rotate_left 2; (focus (exact rfl)); (focus (go_simp; (try go_bits); exact rfl))
     | (with_reducible refine h_read (v := ?_) (a' := ?_) ?_ (fun _ hbw => ?_) ?_ ?_); rotate_left 2; (focus (exact rfl)); (focus (go_simp; (try go_bits); exact rfl)))
    focus (simp only [Act.put, zz1, zz2, zz3, Act.eval, zz4, zz5, zz6, zz7, zz8]; exact rfl)
   refine h_tail [] rfl (by simp) (z_nil (hK' _ _ ?_))
   have b4 := b2.trans (d4.mono b2.size)
   have hz2 : w.heap.size + 3 ≤ w2.heap.size := Nat.le_trans HS2.out b2.size
   have P4 := hid (P1.out.drew.belowAll b4)
   have Z4 := hid (Z1.out.drew.belowAll b4)
   have C4 := hid (C2.out.drew.belowAll b4)
   have B4 := hid (B1.out.drew.trans (b4.mono B1.out.drew.size))
   have O4 := hid (o4.base hz2)
   have hcap := o4.rdAt.2.1
   have hs4 : w.heap.size + 3 ≤ w4.heap.size := Nat.le_trans hz2 d4.size
   have HS4 := hid hs4
   have i1 : (32 : Int) ≤ (c4 : Int) := by omega
   have i2 : (1136 : Int) ≤ (c4 : Int) := by omega
   have HC4 := hid hcap
   clear Q1 hC0 hCb hK' b2 b4 d4 o4 r2 hz2 hb4 hexx hsz bn P1 Z1 C2 B1 HS2 hcap hs4
   go_upto_region 7 with fail
   refine wp_region_tail [5,0,0,2,0,3] (by kernel_rfl) (by kernel_rfl) (fun C0 hC0 hCb K' hK' => ?_)
   have Q1 : ∀ w1, C0 w1 → rowAt w1 w.heap.size = A8 X := fun w1 hw => (P4.out.drew.belowAll (hCb w1 hw)).row
   repeat
    (first
     | (with_reducible refine h_pure (v := ?_) (a' := ?_) ?_ (fun _ => ?_) ?_ ?_); rotate_left 2; (focus (exact rfl)); (focus (go_simp; (try go_bits); exact rfl))
     | (with_reducible refine h_obl (v := ?_) (a' := ?_) ?_ (fun _ hcw => ?_) ?_ ?_); rotate_left 2; (focus (exact rfl)); (focus (have f1 := Q1 _ hcw; go_simp; (try go_bits); exact rfl))
     | (with_reducible refine h_read (v := ?_) (a' := ?_) ?_ (fun _ hbw => ?_) ?_ ?_); rotate_left 2; (focus (exact rfl)); (focus (go_simp; (try go_bits); exact rfl)))
    focus (simp only [Act.put, zz1, zz2, zz3, Act.eval, zz4, zz5, zz6, zz7, zz8]; exact rfl)
   have rp := O4.out.rdAt.pre (j := 32) (by omega)
   (with_reducible refine h_call ?_ ?_)
   ·exact rfl
   go_simp
   refine entersW_of ?_
   refine (KS.out (some ⟨h4, 0, none⟩) c4 w4.drew rp.drew).mono ?_
   rintro e w5 ⟨v5, rfl, o5, d5⟩
   refine ⟨_, rfl, d5, ?_⟩
   try simp only [Act.put, zz1, zz2, zz3]
   obtain ⟨g5, c5, rfl, hg5, _, _, _⟩ := o5.form (by omega)
   rw [show 32 / 4 + 7 = 15 from rfl] at o5
   repeat
    (first
     | (with_reducible refine h_pure (v := ?_) (a' := ?_) ?_ (fun _ => ?_) ?_ ?_); rotate_left 2; (focus (exact rfl)); (focus (go_simp; (try go_bits); exact rfl))
     | (with_reducible refine h_obl (v := ?_) (a' := ?_) ?_ (fun _ hcw => ?_) ?_ ?_); rotate_left 2; (focus (exact rfl)); (focus (have f1 := Q1 _ hcw; go_simp; (try go_bits); exact rfl))
     | (with_reducible refine h_read (v := ?_) (a' := ?_) ?_ (fun _ hbw => ?_) ?_ ?_); rotate_left 2; (focus (exact rfl)); (focus (go_simp; (try go_bits); exact rfl)))
    focus (simp only [Act.put, zz1, zz2, zz3, Act.eval, zz4, zz5, zz6, zz7, zz8]; exact rfl)
   have hr5 := C17_r hXKl (.slice none 0 0) (.slice none 0 0)
   refine h_tail [2] rfl (by simp) ?_
   refine z_storeSlice (C4.out.drew.belowAll d5) rfl rfl hr5 (Tryz.sizeOf36 _) (fun w6 k6 g6 s6 => ?_)
   refine z_nil (hK' _ _ ?_)
   rw [C17_setr hXKl] at k6
   have hs4' : w.heap.size + 2 < w4.drew.heap.size := HS4.out
   have O6 := hid (Own8.grown (O4.out.drew.below d5) g6 (show w.heap.size + 2 < w.heap.size + 3 by omega))
   have V6 := hid ((o5.grown g6 hs4').base (show w.heap.size + 3 ≤ w4.drew.heap.size from HS4.out))
   have Z6 := hid ((Z4.out.drew.belowAll d5).grown g6 (by simp))
   have C6 := hid k6
   have B5 := B4.out.drew.trans (d5.mono B4.out.drew.size)
   have B6 := hid (B5.trans (grown_below g6 (by omega) B5.size))
   clear Q1 hC0 hCb hK' rp o5 d5 k6 g6 s6 hs4' B5 hr5 P4 Z4 C4 B4 O4 hg5
   go_upto_region 8 with fail
   refine wp_region_plain [0,0,0,2] rfl (fun ops' K4 hK4 => ?_)
   repeat
    (first
     | (with_reducible refine z_move (a' := ?_) ?_ ?_); rotate_left
     | (with_reducible refine z_assign (a' := ?_) ?_ ?_); rotate_left
     | (with_reducible refine z_obl (v := ?_) (a' := ?_) rfl (fun _ => ?_) ?_ ?_); rotate_left 2; (focus (go_simp; (try go_bits); exact rfl))
     | (with_reducible refine z_read (v := ?_) (a' := ?_) rfl ?_ ?_ ?_); rotate_left 2; (focus (go_simp; (try go_bits); exact rfl)))
    focus (simp only [Act.put, zz1, zz2, zz3, Act.eval, zz4, zz5, zz6, zz7, zz8]; exact rfl)
   have hh6 := C17_h hXKl (.slice (some ⟨g5, 0, none⟩) 15 c5) (.slice none 0 0)
   refine z_storeSlice C6.out rfl rfl hh6 (Tryz.sizeOf23 _) (fun w7 k7 g7 s7 => ?_)
   refine z_nil (hK4 _ _ ?_)
   rw [C17_seth hXKl, if_neg (show ¬ c4 = 32 by omega)] at k7
   have O7 := hid (Own8.grown O6.out g7 (show w.heap.size + 2 < w.heap.size + 3 by omega))
   have V7 := hid (V6.out.grown g7 (show w.heap.size + 2 < w.heap.size + 3 by omega))
   have Z7 := hid (Z6.out.grown g7 (by simp))
   have B7 := hid (B6.out.trans (grown_below g7 (by omega) B6.out.size))
   obtain ⟨CF, hCF⟩ : ∃ z, z = C17 XK (.slice (some ⟨g5, 0, none⟩) 15 c5) (.slice (some ⟨h4, 32, none⟩) 1104 (c4 - 32)) := ⟨_, rfl⟩
   have hCFs : CF.size = 546 := by rw [hCF]; exact C17_size hXKl _ _
   have hCFo : ones CF = true := by rw [hCF]; exact C17_ones _ _ _ _ _ _ _
   have hCFx : CF.extract 0 546 = CF := by rw [← hCFs]; simp
   have k8 : Blk w7 (w.heap.size + 2) 51 CF := by rw [hCF]; exact k7
   have r1 := k8.row
   have r2 := Z7.out.row
   have r3 := Z7.out.whole
   have hzz := C17_size (show (zeros 8 544).length = 544 by rw [zeros_length]) (.slice none 0 0) (.slice none 0 0)
   have HCF := hid hCF
   clear hh6 k7 g7 s7 hK4 O6 V6 Z6 C6 B6 k8 hCF
   go_wp2
   refine bodyPost_row CF rfl rfl rfl (Tryz.isAgg51 _) (Tryz.sizeOf51 _) hCFs (rowAt_setRow _ r3) ?_
   have gr := grown_setRow w7 (w.heap.size + 1) CF
   rw [HCF.out, HXK.out] at gr ⊢
   refine ⟨g5, c5, h4, c4, rfl, (V7.out.grown gr (by omega)).base (by omega), (Own8.grown O7.out gr (by omega)).base (by omega), below_setRow B7.out (by omega) _⟩
open Go.RowKit
theorem refEnc17_any (X TT KT key T M : List (BitVec 8)) (g cr hh ch : Nat) (a b : Option Addr) (n c m d : Nat) (w : World) (hBX : BoxL X TT KT) (hXl : X.length = 512) (hkl : key.length = 32) (hR : RdS w 16 (some ⟨g, 0, none⟩) 15 cr (aesA key)) (hH : Rd8 w (some ⟨hh, 32, none⟩) 1104 ch (hashA key)) (hT : Rd8 w a n c T) (hM : Rd8 w b m d M) (hn : n ≤ 300) (h16 : 16 ≤ m) (hm : m ≤ 520) :
  Calls Tryz.prog 21 #[.agg (C17 (X ++ key) (.slice (some ⟨g, 0, none⟩) 15 cr) (.slice (some ⟨hh, 32, none⟩) 1104 ch)), .slice a n c, .slice b m d] w fun e w' => ∃ v, e = .returned v ∧ Own8 w' w.heap.size 5 v (encA key T M) ∧ Below w.heap.size w w' := by
 have hMl := hM.1
 have hTl := hT.1
 obtain ⟨N, hN⟩ : ∃ N, N = m - 16 := ⟨_, rfl⟩
 obtain ⟨CC, hCC⟩ : ∃ z, z = C17 (X ++ key) (.slice (some ⟨g, 0, none⟩) 15 cr) (.slice (some ⟨hh, 32, none⟩) 1104 ch) := ⟨_, rfl⟩
 have hXK : (X ++ key).length = 544 := by rw [List.length_append, hXl, hkl]
 have k1 : CC.size = 546 := by rw [hCC]; exact C17_size hXK _ _
 have k2 : CC.extract 0 512 = A8 X := by rw [hCC]; exact C17_box hXl _ _
 have k3 : CC[544]? = some (.slice (some ⟨g, 0, none⟩) 15 cr) := by rw [hCC]; exact C17_r hXK _ _
 have k4 : CC[545]? = some (.slice (some ⟨hh, 32, none⟩) 1104 ch) := by rw [hCC]; exact C17_h hXK _ _
 have k5 : CC.extract 0 546 = CC := by rw [← k1]; simp
 obtain ⟨L, hL⟩ : ∃ z, z = aesA key := ⟨_, rfl⟩
 obtain ⟨HK, hHK⟩ : ∃ z, z = hashA key := ⟨_, rfl⟩
 obtain ⟨bu, hbu⟩ : ∃ z, z = bulkA M := ⟨_, rfl⟩
 have hbu2 : M.take N = bu := by rw [hbu, bulkA, hMl, hN]
 have hbl : bu.length = N := by rw [← hbu2, List.length_take]; omega
 obtain ⟨rt, hrt⟩ : ∃ z, z = rightA M := ⟨_, rfl⟩
 obtain ⟨RB, hRB⟩ : ∃ z, z = bytesW rt := ⟨_, rfl⟩
 have hRBl : RB.length = 16 := by rw [hRB]; rfl
 have hRB2 : M.drop N = RB := by rw [hRB, hrt, rightA, bytesW_wideN _ (by rw [List.length_drop]; omega), hMl, hN]
 obtain ⟨s1, hs1⟩ : ∃ z, z = sumN HK T bu := ⟨_, rfl⟩
 obtain ⟨S1, hS1⟩ : ∃ z, z = bytesW s1 := ⟨_, rfl⟩
 obtain ⟨p1, hp1⟩ : ∃ z, z = addW2 rt s1 := ⟨_, rfl⟩
 obtain ⟨P1, hP1⟩ : ∃ z, z = bytesW p1 := ⟨_, rfl⟩
 have hP1l : P1.length = 16 := by rw [hP1]; rfl
 obtain ⟨mid, hmid⟩ : ∃ z, z = wideN (encS L 15 P1) := ⟨_, rfl⟩
 obtain ⟨MB, hMB⟩ : ∃ z, z = bytesW mid := ⟨_, rfl⟩
 have hMB2 : encS L 15 P1 = MB := by rw [hMB, hmid, bytesW_wideN _ (encS_length _ _ _)]
 have hMBl : MB.length = 16 := by rw [hMB]; rfl
 obtain ⟨bl, hbl_⟩ : ∃ z, z = cryptOf key (nonceW mid) 12 bu := ⟨_, rfl⟩
 have hbll : bl.length = N := by rw [hbl_, cryA_length, hbl]
 obtain ⟨s2, hs2⟩ : ∃ z, z = sumN HK T bl := ⟨_, rfl⟩
 obtain ⟨S2, hS2⟩ : ∃ z, z = bytesW s2 := ⟨_, rfl⟩
 obtain ⟨ls, hls⟩ : ∃ z, z = subW2 mid s2 := ⟨_, rfl⟩
 obtain ⟨LB, hLB⟩ : ∃ z, z = bytesW ls := ⟨_, rfl⟩
 have hLBl : LB.length = 16 := by rw [hLB]; rfl
 have hmE : mid = midE key T M := by rw [hmid, hP1, hp1, hs1, hrt, hbu, hL, hHK]; rfl
 have hdo : encA key T M = bl ++ LB := by rw [encA, ← hmE, joinA, hLB, hls, hs2, hbl_, hbu, hHK]
 rw [hdo]
 obtain ⟨bk, bo, rfl, hbk, _⟩ := hM.2.2.2 (by omega)
 have hcap := hM.2.1
 have hD : Rd8 w (some ⟨bk, bo + N, none⟩) 16 (d - N) RB := by
  have h := hM.cut (j := N) (k := m) (by omega) (Nat.le_refl _)
  simp only [Option.map_some, Addr.add_lit] at h
  rw [if_neg (by omega), List.take_of_length_le (by omega), hRB2, show m - N = 16 by omega] at h
  exact h
 have hG : Rd8 w (some ⟨bk, bo, none⟩) N d bu := by
  have h := hM.pre (j := N) (by omega)
  rw [hbu2] at h
  exact h
 rw [← hL] at hR
 rw [← hHK] at hH
 have cb := fun sp w1 h => refBlock16_any RB sp 16 (d - N) w1 h (by omega)
 rw [blk_same RB hRBl] at cb
 have cs1 := fun w1 (h1 : Rd8 w1 (some ⟨hh, 32, none⟩) 1104 ch HK) (h2 : Rd8 w1 a n c T) (h3 : Rd8 w1 (some ⟨bk, bo, none⟩) N d bu) => refSumW_any HK T bu (some ⟨hh, 32, none⟩) a (some ⟨bk, bo, none⟩) ch n c N d w1 h1 h2 (by omega) h3 (by omega)
 rw [← hs1, ← hS1] at cs1
 have cp := fun w1 => refPlusW_any rt s1 w1
 rw [← hp1, ← hRB, ← hS1, ← hP1] at cp
 have cst := fun w1 (h3 : Rd8 w1 (some ⟨bk, bo, none⟩) N d bu) => refStream17_any X key bu (.slice (some ⟨g, 0, none⟩) 15 cr) (.slice (some ⟨hh, 32, none⟩) 1104 ch) mid (some ⟨bk, bo, none⟩) N d w1 hXl hkl h3 (by omega)
 rw [← hCC, ← hMB, ← hbl_] at cst
 have cs2 := fun ay cy w1 (h1 : Rd8 w1 (some ⟨hh, 32, none⟩) 1104 ch HK) (h2 : Rd8 w1 a n c T) (h3 : Rd8 w1 ay N cy bl) => refSumW_any HK T bl (some ⟨hh, 32, none⟩) a ay ch n c N cy w1 h1 h2 (by omega) h3 (by omega)
 rw [← hs2, ← hS2] at cs2
 have cm := fun w1 => refMinusW_any mid s2 w1
 rw [← hls, ← hMB, ← hS2, ← hLB] at cm
 have ce := fun w1 (h : RdS w1 16 (some ⟨g, 0, none⟩) 15 cr L) => refEncrypt_any X TT KT L P1 g cr 15 w1 hBX h hP1l (by omega) (by omega)
 rw [hMB2] at ce
 rw [← hCC]
 obtain ⟨W, hW⟩ : ∃ W, w.alloc (.cells CC 51) = W := ⟨_, rfl⟩
 obtain ⟨b0, hb, hz⟩ := new1 _ _ _ _ hW
 have P0 := hid b0
 have B0 := hid hb
 have T0 := hid (hT.below hb)
 have D0 := hid (hD.below hb)
 have G0 := hid (hG.below hb)
 have R0 := hid (hR.below hb)
 have H0 := hid (hH.below hb)
 have C3 := hid k3
 have C4 := hid k4
 have CB := hid cb
 have CS1 := hid cs1
 have CP := hid cp
 have CE := hid ce
 have CST := hid cst
 have CS2 := hid cs2
 have CM := hid cm
 have i1 : (m : Int) - 16 = (N : Int) := by omega
 have i2 : IntKind.i64.wrap (N : Int) = (N : Int) := by rw [IntKind.wrap_i64]; omega
 have i3 : (N : Int) ≤ (m : Int) := by omega
 have i4 : (m : Int) ≤ (d : Int) := by omega
 have i5 : (N : Int) ≤ (d : Int) := by omega
 have i6 : (0 : Int) ≤ (N : Int) := by omega
 have i7 : m - N = 16 := by omega
 have i8 : (m : Int) - (N : Int) = 16 := by omega
 have i9 : ¬ d = N := by omega
 clear b0 hb hz hT hM hD hG hR hH hBX k3 k4 hN hCC hL hHK hbu hbu2 hrt hRB hRB2 hs1 hS1 hp1 hP1 hbl_ hs2 hS2 hls hLB hdo hmE cb cs1 cp ce cst cs2 cm hbk hcap
 clear hmid hMB hMB2
 go_enter Tryz.func21, Tryz.ntmps21
 go_wp2_with fail
 refine (CB.out (some ⟨bk, bo + N, none⟩) W D0.out).mono ?_
 rintro e wz ⟨rfl, dz⟩
 clear hW
 obtain ⟨w2, hw2⟩ : ∃ U, U = wz.alloc (.cells (A8 RB) 37) := ⟨_, rfl⟩
 have E5 : Below W.heap.size W w2 := by rw [hw2]; exact dz.alloc dz.size _
 have J0 := Blk.new wz 37 (A8 RB)
 rw [← hw2] at J0
 have J2 := hid J0
 have HW2 := hid hw2
 have q1 := (Blk.new wz 37 (A8 (zeros 8 16))).row
 have q2 := (Blk.new wz 37 (A8 (zeros 8 16))).whole
 have P2 := hid (P0.out.belowAll E5)
 have B2 := hid (B0.out.trans (E5.mono B0.out.size))
 have T2 := hid (T0.out.below E5)
 have D2 := hid (D0.out.below E5)
 have G2 := hid (G0.out.below E5)
 have R2 := hid (R0.out.below E5)
 have H2 := hid (H0.out.below E5)
 clear dz E5 J0 hw2 P0 B0 T0 D0 G0 R0 H0
 go_upto_region 3 with fail
 clear q1 q2
 rw [← HW2.out]
 clear HW2
 obtain ⟨g8, hg8⟩ : ∃ z, z = wz.heap.size := ⟨_, rfl⟩
 rw [← hg8] at J2 ⊢
 clear hg8
 refine wp_region_order [0,5,0,5,5,0,5,0,0,0,0,2,2,2,2,3] [0,1,2,3,4,5,6,7,8,9,10] [(11, 2, _), (12, 2, _), (13, 2, _), (14, 2, _)] (fun i => if i = 12 then [11] else if i = 13 then [12] else []) [15] [_, _, _, _, _, _, _, _, _, _, _] [_] [0,5,0,5,5,0,5,0,0,0,0] [3] 4 rfl rfl rfl (by kernel_rfl) (by kernel_rfl) (by kernel_rfl) rfl rfl rfl (fun C0 hC0 hCb hCe K' hK' => ?_)
 have Q1 : ∀ w1, C0 w1 → rowAt w1 w.heap.size = CC := fun w1 hw => (P2.out.drew.belowAll (hCb w1 hw)).row
 have Q8 : ∀ w1, C0 w1 → w1.cell? ⟨w.heap.size, 544, none⟩ = some (.slice (some ⟨g, 0, none⟩) 15 cr) := fun w1 hw => by rw [(P2.out.drew.belowAll (hCb w1 hw)).cell]; exact C3.out
 have Q9 : ∀ w1, C0 w1 → w1.cell? ⟨w.heap.size, 545, none⟩ = some (.slice (some ⟨hh, 32, none⟩) 1104 ch) := fun w1 hw => by rw [(P2.out.drew.belowAll (hCb w1 hw)).cell]; exact C4.out
 have Q2 : ∀ w1, C0 w1 → rowAt w1 g8 = A8 RB := fun w1 hw => (J2.out.drew.belowAll (hCb w1 hw)).row
 repeat
  (first
   | (with_reducible refine h_pure (v := ?_) (a' := ?_) ?_ (fun _ => ?_) ?_ ?_); rotate_left 2; (focus (exact rfl)); (focus (go_simp; (try go_bits); exact rfl))
   | (with_reducible refine h_obl (v := ?_) (a' := ?_) ?_ (fun _ hcw => ?_) ?_ ?_); rotate_left 2; (focus (exact rfl)); (focus (have fQ1 := Q1 _ hcw; have fQ8 := Q8 _ hcw; have fQ9 := Q9 _ hcw; have fQ2 := Q2 _ hcw; go_simp; (try go_bits); exact rfl))
   | (with_reducible refine h_read (v := ?_) (a' := ?_) ?_ (fun _ hbw => ?_) ?_ ?_); rotate_left 2; (focus (exact rfl)); (focus (go_simp; (try go_bits); exact rfl)))
  focus (simp only [Act.put, zz1, zz2, zz3, Act.eval, zz4, zz5, zz6, zz7, zz8]; exact rfl)
 refine h_nil ?_
 clear Q1 Q8 Q9 Q2
 generalize hAct : Act.mk _ _ = act
 obtain ⟨u, rfl⟩ : ∃ u : Nat → Value, act = { tmps := (fun u : Nat → Value => (u 0 :: Value.slice a n c :: Value.slice (some ⟨bk, bo, none⟩) m d :: Value.pointer (some ⟨w.heap.size, 0, none⟩) :: u 4 :: u 5 :: Value.slice none 0 0 :: Value.int .i64 N :: Value.pointer (some ⟨g8, 0, none⟩) :: u 9 :: u 10 :: u 11 :: u 12 :: u 13 :: u 14 :: u 15 :: u 16 :: u 17 :: u 18 :: u 19 :: Value.agg (A8 X) :: u 21 :: Value.slice (some ⟨g, 0, none⟩) 15 cr :: Value.agg (A8 RB) :: u 24 :: Value.slice (some ⟨hh, 32, none⟩) 1104 ch :: Value.slice a n c :: u 27 :: u 28 :: Value.slice (some ⟨bk, bo, none⟩) N d :: u 30 :: u 31 :: u 32 :: u 33 :: u 34 :: u 35 :: u 36 :: u 37 :: u 38 :: u 39 :: u 40 :: u 41 :: u 42 :: u 43 :: u 44 :: u 45 :: u 46 :: u 47 :: u 48 :: []).toArray) u, defers := [] } := by
  subst hAct; exact ex_frame _ rfl
 clear hAct
 obtain ⟨St, hSt⟩ : ∃ St : Nat → Bool → Act → World → Prop, ∀ kk fr a' w', St kk fr a' w' ↔ (∃ x30 x31 x32 x9 : Value, a' = { tmps := (u 0 :: Value.slice a n c :: Value.slice (some ⟨bk, bo, none⟩) m d :: Value.pointer (some ⟨w.heap.size, 0, none⟩) :: u 4 :: u 5 :: Value.slice none 0 0 :: Value.int .i64 N :: Value.pointer (some ⟨g8, 0, none⟩) :: x9 :: u 10 :: u 11 :: u 12 :: u 13 :: u 14 :: u 15 :: u 16 :: u 17 :: u 18 :: u 19 :: Value.agg (A8 X) :: u 21 :: Value.slice (some ⟨g, 0, none⟩) 15 cr :: Value.agg (A8 RB) :: u 24 :: Value.slice (some ⟨hh, 32, none⟩) 1104 ch :: Value.slice a n c :: u 27 :: u 28 :: Value.slice (some ⟨bk, bo, none⟩) N d :: x30 :: x31 :: x32 :: u 33 :: u 34 :: u 35 :: u 36 :: u 37 :: u 38 :: u 39 :: u 40 :: u 41 :: u 42 :: u 43 :: u 44 :: u 45 :: u 46 :: u 47 :: u 48 :: []).toArray, defers := [] } ∧ Below w2.drew.heap.size w2.drew w' ∧ (1 ≤ kk → x30 = .agg (A8 S1)) ∧ (2 ≤ kk → x31 = .agg (A8 P1)) ∧ (3 ≤ kk → x32 = .agg (A8 MB)) ∧ (fr = true → ∃ g, x9 = .pointer (some ⟨g, 0, none⟩) ∧ w2.heap.size ≤ g ∧ Blk w' g 37 (A8 (zeros 8 16)))) := ⟨_, fun _ _ _ _ => Iff.rfl⟩
 refine permHO_chain (St := St) [_, _, _] _ 0 ⟨?bs1, ?bs2, ?bs3, trivial⟩ ?bf ?bch ?bnd ?bR _ _ ?b0
 case b0 => exact (hSt _ _ _ _).2 ⟨_, _, _, _, rfl, Below.refl _ _, fun h => by omega, fun h => by omega, fun h => by omega, fun h => by cases h⟩
 case bch => exact ⟨by decide, by decide, trivial⟩
 case bnd => decide
 case bs1 =>
  intro fr a3 w3 hs
  obtain ⟨x30, x31, x32, x9, rfl, D3, h1, h2, h3, hf⟩ := (hSt _ _ _ _).1 hs
  clear hs
  refine opH_of_wpH ?_
  (with_reducible refine h_call ?_ ?_)
  ·exact rfl
  go_simp
  refine entersW_of ?_
  refine (CS1.out w3 (H2.out.drew.below D3) (T2.out.drew.below D3) (G2.out.drew.below D3)).mono ?_
  rintro e w4 ⟨rfl, d4⟩
  refine ⟨_, rfl, d4, ?_⟩
  try simp only [Act.put, zz1, zz2, zz3]
  refine h_nil ((hSt _ _ _ _).2 ⟨_, _, _, _, rfl, D3.trans (d4.mono D3.size), fun _ => rfl, fun h => by omega, fun h => by omega, fun e => ?_⟩)
  obtain ⟨g, e1, e2, e3⟩ := hf e
  exact ⟨g, e1, e2, e3.belowAll d4⟩
 case bs2 =>
  intro fr a3 w3 hs
  obtain ⟨x30, x31, x32, x9, rfl, D3, h1, h2, h3, hf⟩ := (hSt _ _ _ _).1 hs
  clear hs
  obtain rfl := h1 (by omega)
  refine opH_of_wpH ?_
  (with_reducible refine h_call ?_ ?_)
  ·exact rfl
  go_simp
  refine entersW_of ?_
  refine (CP.out w3).mono ?_
  rintro e w4 ⟨rfl, d4⟩
  refine ⟨_, rfl, d4, ?_⟩
  try simp only [Act.put, zz1, zz2, zz3]
  refine h_nil ((hSt _ _ _ _).2 ⟨_, _, _, _, rfl, D3.trans (d4.mono D3.size), fun _ => rfl, fun _ => rfl, fun h => by omega, fun e => ?_⟩)
  obtain ⟨g, e1, e2, e3⟩ := hf e
  exact ⟨g, e1, e2, e3.belowAll d4⟩
 case bs3 =>
  intro fr a3 w3 hs
  obtain ⟨x30, x31, x32, x9, rfl, D3, h1, h2, h3, hf⟩ := (hSt _ _ _ _).1 hs
  clear hs
  obtain rfl := h1 (by omega)
  obtain rfl := h2 (by omega)
  refine opH_of_wpH ?_
  (with_reducible refine h_call ?_ ?_)
  ·exact rfl
  go_simp
  refine entersW_of ?_
  refine (CE.out w3 (R2.out.drew.below D3)).mono ?_
  rintro e w4 ⟨rfl, d4⟩
  refine ⟨_, rfl, d4, ?_⟩
  try simp only [Act.put, zz1, zz2, zz3]
  refine h_nil ((hSt _ _ _ _).2 ⟨_, _, _, _, rfl, D3.trans (d4.mono D3.size), fun _ => rfl, fun _ => rfl, fun _ => rfl, fun e => ?_⟩)
  obtain ⟨g, e1, e2, e3⟩ := hf e
  exact ⟨g, e1, e2, e3.belowAll d4⟩
 case bf =>
  intro j hj a3 w3 hs
  obtain ⟨x30, x31, x32, x9, rfl, D3, h1, h2, h3, hf⟩ := (hSt _ _ _ _).1 hs
  clear hs
  refine opH_of_wpH ?_
  obtain ⟨u3, eu3⟩ : ∃ u, w3.alloc (.cells (A8 (zeros 8 16)) 37) = u := ⟨_, rfl⟩
  obtain ⟨bf, du, zu⟩ := new1 _ _ _ _ eu3
  obtain ⟨pf, hpf⟩ : ∃ g, g = w3.heap.size := ⟨_, rfl⟩
  refine h_made (v := .pointer (some ⟨pf, 0, none⟩)) (w' := u3) rfl (by rw [hpf]; go_simp; exact eu3) du ?_
  simp only [Act.put, zz1, zz2, zz3]
  rw [← hpf] at bf
  exact h_nil ((hSt _ _ _ _).2 ⟨_, _, _, _, rfl, D3.trans (du.mono D3.size), h1, h2, h3, fun _ => ⟨pf, rfl, by rw [hpf]; exact D3.size, bf⟩⟩)
 case bR =>
  intro a3 w3 hs
  obtain ⟨x30, x31, x32, x9, rfl, D3, h1, h2, h3, hf⟩ := (hSt _ _ _ _).1 hs
  clear hs hSt
  obtain rfl := h1 (by decide)
  obtain rfl := h2 (by decide)
  obtain rfl := h3 (by decide)
  obtain ⟨g9, rfl, hg, bg⟩ := hf rfl
  refine c_act ?_
  refine z_storeRow bg rfl rfl (by rw [A8_size, A8_size, hMBl, zeros_length]) (A8_ones _) (by rw [A8_size, hMBl]; exact Tryz.sizeOf37 _) (fun w6 kk4 g4 s4 => ?_)
  have BD := D3.trans (grown_below g4 hg D3.size)
  refine z_nil ⟨hCe _ BD, ?_⟩
  refine c_nil (hK' _ _ ?_)
  have E4 : Below w2.heap.size w2 w6 := ((Below.refl w2.heap.size w2).drew).trans BD
  have I6 := hid kk4
  have P6 := hid (P2.out.belowAll E4)
  have B6 := hid (B2.out.trans (E4.mono B2.out.size))
  have T6 := hid (T2.out.below E4)
  have D6 := hid (D2.out.below E4)
  have G6 := hid (G2.out.below E4)
  have R6 := hid (R2.out.below E4)
  have H6 := hid (H2.out.below E4)
  clear hK' hC0 hCb hCe BD D3  hf bg g4 s4 E4 kk4 h1 h2 h3 J2 P2 B2 T2 D2 G2 R2 H2
  go_upto_region 4 with fail
  refine wp_region_tail [5,5,0,0,0,2,0] (by kernel_rfl) (by kernel_rfl) (fun C0 hC0 hCb K' hK' => ?_)
  have Q1 : ∀ w1, C0 w1 → rowAt w1 w.heap.size = CC := fun w1 hw => (P6.out.drew.belowAll (hCb w1 hw)).row
  have Q2 : ∀ w1, C0 w1 → rowAt w1 g9 = A8 MB := fun w1 hw => (I6.out.drew.belowAll (hCb w1 hw)).row
  repeat
   (first
    | (with_reducible refine h_pure (v := ?_) (a' := ?_) ?_ (fun _ => ?_) ?_ ?_); rotate_left 2; (focus (exact rfl)); (focus (go_simp; (try go_bits); exact rfl))
    | (with_reducible refine h_obl (v := ?_) (a' := ?_) ?_ (fun _ hcw => ?_) ?_ ?_); rotate_left 2; (focus (exact rfl)); (focus (have f1 := Q1 _ hcw; have f2 := Q2 _ hcw; go_simp; (try go_bits); exact rfl))
    | (with_reducible refine h_read (v := ?_) (a' := ?_) ?_ (fun _ hbw => ?_) ?_ ?_); rotate_left 2; (focus (exact rfl)); (focus (go_simp; (try go_bits); exact rfl)))
   focus (simp only [Act.put, zz1, zz2, zz3, Act.eval, zz4, zz5, zz6, zz7, zz8]; exact rfl)
  (with_reducible refine h_call ?_ ?_)
  ·exact rfl
  go_simp
  refine entersW_of ?_
  refine (CST.out w6.drew G6.out.drew).mono ?_
  rintro e w8 ⟨vt, rfl, ot, dt⟩
  refine ⟨_, rfl, dt, ?_⟩
  try simp only [Act.put, zz1, zz2, zz3]
  obtain ⟨ay, cy, rfl, rt_, _⟩ := ot.rd
  rw [hbll] at rt_ ot ⊢
  repeat
   (first
    | (with_reducible refine h_pure (v := ?_) (a' := ?_) ?_ (fun _ => ?_) ?_ ?_); rotate_left 2; (focus (exact rfl)); (focus (go_simp; (try go_bits); exact rfl))
    | (with_reducible refine h_obl (v := ?_) (a' := ?_) ?_ (fun _ hcw => ?_) ?_ ?_); rotate_left 2; (focus (exact rfl)); (focus (go_simp; (try go_bits); exact rfl))
    | (with_reducible refine h_read (v := ?_) (a' := ?_) ?_ (fun _ hbw => ?_) ?_ ?_); rotate_left 2; (focus (exact rfl)); (focus (go_simp; (try go_bits); exact rfl)))
   focus (simp only [Act.put, zz1, zz2, zz3, Act.eval, zz4, zz5, zz6, zz7, zz8]; exact rfl)
  refine h_tail [] rfl (by simp) (z_nil (hK' _ _ ?_))
  have E7 : Below w6.heap.size w6 w8 := ((Below.refl w6.heap.size w6).drew).trans dt
  have Y8 := hid ot
  have hY8 := rt_
  have HBY := hid (show w6.drew.heap.size ≤ w8.heap.size from dt.size)
  have HWY := hid (show w.heap.size ≤ w6.drew.heap.size from B6.out.size)
  have P8 := hid (P6.out.belowAll E7)
  have B8 := hid (B6.out.trans (E7.mono B6.out.size))
  have T8 := hid (T6.out.below E7)
  have D8 := hid (D6.out.below E7)
  have G8 := hid (G6.out.below E7)
  have R8 := hid (R6.out.below E7)
  have H8 := hid (H6.out.below E7)
  have I8 := hid (I6.out.belowAll E7)
  clear Q1 Q2 hC0 hCb hK' ot rt_ dt E7 P6 B6 T6 D6 G6 R6 H6 I6
  skip
  go_upto_region 5 with fail
  refine wp_region_order [5,0,5,0,0,2,2,2,3] [0,1,2,3,4] [(5, 2, _), (6, 2, _), (7, 2, _)] (fun i => if i = 6 then [5] else []) [8] [_, _, _, _, _] [_] [5,0,5,0,0] [3] 3 rfl rfl rfl (by kernel_rfl) (by kernel_rfl) (by kernel_rfl) rfl rfl rfl (fun C0 hC0 hCb hCe K' hK' => ?_)
  have Q1 : ∀ w1, C0 w1 → rowAt w1 w.heap.size = CC := fun w1 hw => (P8.out.drew.belowAll (hCb w1 hw)).row
  have Q8 : ∀ w1, C0 w1 → w1.cell? ⟨w.heap.size, 544, none⟩ = some (.slice (some ⟨g, 0, none⟩) 15 cr) := fun w1 hw => by rw [(P8.out.drew.belowAll (hCb w1 hw)).cell]; exact C3.out
  have Q9 : ∀ w1, C0 w1 → w1.cell? ⟨w.heap.size, 545, none⟩ = some (.slice (some ⟨hh, 32, none⟩) 1104 ch) := fun w1 hw => by rw [(P8.out.drew.belowAll (hCb w1 hw)).cell]; exact C4.out
  have Q2 : ∀ w1, C0 w1 → rowAt w1 g9 = A8 MB := fun w1 hw => (I8.out.drew.belowAll (hCb w1 hw)).row
  repeat
   (first
    | (with_reducible refine h_pure (v := ?_) (a' := ?_) ?_ (fun _ => ?_) ?_ ?_); rotate_left 2; (focus (exact rfl)); (focus (go_simp; (try go_bits); exact rfl))
    | (with_reducible refine h_obl (v := ?_) (a' := ?_) ?_ (fun _ hcw => ?_) ?_ ?_); rotate_left 2; (focus (exact rfl)); (focus (have fQ1 := Q1 _ hcw; have fQ8 := Q8 _ hcw; have fQ9 := Q9 _ hcw; have fQ2 := Q2 _ hcw; go_simp; (try go_bits); exact rfl))
    | (with_reducible refine h_read (v := ?_) (a' := ?_) ?_ (fun _ hbw => ?_) ?_ ?_); rotate_left 2; (focus (exact rfl)); (focus (go_simp; (try go_bits); exact rfl)))
   focus (simp only [Act.put, zz1, zz2, zz3, Act.eval, zz4, zz5, zz6, zz7, zz8]; exact rfl)
  refine h_nil ?_
  clear Q1 Q8 Q9 Q2
  generalize hAct : Act.mk _ _ = act
  obtain ⟨u, rfl⟩ : ∃ u : Nat → Value, act = { tmps := (fun u : Nat → Value => (u 0 :: Value.slice a n c :: Value.slice (some ⟨bk, bo, none⟩) m d :: Value.pointer (some ⟨w.heap.size, 0, none⟩) :: u 4 :: u 5 :: Value.slice none 0 0 :: Value.int .i64 N :: Value.pointer (some ⟨g8, 0, none⟩) :: Value.pointer (some ⟨g9, 0, none⟩) :: Value.slice ay N cy :: u 11 :: u 12 :: u 13 :: u 14 :: u 15 :: u 16 :: u 17 :: u 18 :: u 19 :: u 20 :: u 21 :: u 22 :: u 23 :: u 24 :: u 25 :: u 26 :: u 27 :: u 28 :: u 29 :: u 30 :: u 31 :: u 32 :: u 33 :: u 34 :: u 35 :: u 36 :: u 37 :: u 38 :: Value.agg (A8 MB) :: u 40 :: Value.slice (some ⟨hh, 32, none⟩) 1104 ch :: Value.slice a n c :: Value.slice ay N cy :: u 44 :: u 45 :: u 46 :: u 47 :: u 48 :: []).toArray) u, defers := [] } := by
   subst hAct; exact ex_frame _ rfl
  clear hAct
  obtain ⟨St, hSt⟩ : ∃ St : Nat → Bool → Act → World → Prop, ∀ kk fr a' w', St kk fr a' w' ↔ (∃ x44 x45 x11 : Value, a' = { tmps := (u 0 :: Value.slice a n c :: Value.slice (some ⟨bk, bo, none⟩) m d :: Value.pointer (some ⟨w.heap.size, 0, none⟩) :: u 4 :: u 5 :: Value.slice none 0 0 :: Value.int .i64 N :: Value.pointer (some ⟨g8, 0, none⟩) :: Value.pointer (some ⟨g9, 0, none⟩) :: Value.slice ay N cy :: x11 :: u 12 :: u 13 :: u 14 :: u 15 :: u 16 :: u 17 :: u 18 :: u 19 :: u 20 :: u 21 :: u 22 :: u 23 :: u 24 :: u 25 :: u 26 :: u 27 :: u 28 :: u 29 :: u 30 :: u 31 :: u 32 :: u 33 :: u 34 :: u 35 :: u 36 :: u 37 :: u 38 :: Value.agg (A8 MB) :: u 40 :: Value.slice (some ⟨hh, 32, none⟩) 1104 ch :: Value.slice a n c :: Value.slice ay N cy :: x44 :: x45 :: u 46 :: u 47 :: u 48 :: []).toArray, defers := [] } ∧ Below w8.drew.heap.size w8.drew w' ∧ (1 ≤ kk → x44 = .agg (A8 S2)) ∧ (2 ≤ kk → x45 = .agg (A8 LB)) ∧ (fr = true → ∃ g, x11 = .pointer (some ⟨g, 0, none⟩) ∧ w8.heap.size ≤ g ∧ Blk w' g 37 (A8 (zeros 8 16)))) := ⟨_, fun _ _ _ _ => Iff.rfl⟩
  refine permHO_chain (St := St) [_, _] _ 0 ⟨?cs1, ?cs2, trivial⟩ ?cf ?cch ?cnd ?cR _ _ ?c0
  case c0 => exact (hSt _ _ _ _).2 ⟨_, _, _, rfl, Below.refl _ _, fun h => by omega, fun h => by omega, fun h => by cases h⟩
  case cch => exact ⟨by decide, trivial⟩
  case cnd => decide
  case cs1 =>
   intro fr a3 w3 hs
   obtain ⟨x44, x45, x11, rfl, D3, h1, h2, hf⟩ := (hSt _ _ _ _).1 hs
   clear hs
   refine opH_of_wpH ?_
   (with_reducible refine h_call ?_ ?_)
   ·exact rfl
   go_simp
   refine entersW_of ?_
   refine (CS2.out ay cy w3 (H8.out.drew.below D3) (T8.out.drew.below D3) ((hY8.drew).below D3)).mono ?_
   rintro e w4 ⟨rfl, d4⟩
   refine ⟨_, rfl, d4, ?_⟩
   try simp only [Act.put, zz1, zz2, zz3]
   refine h_nil ((hSt _ _ _ _).2 ⟨_, _, _, rfl, D3.trans (d4.mono D3.size), fun _ => rfl, fun h => by omega, fun e => ?_⟩)
   obtain ⟨g, e1, e2, e3⟩ := hf e
   exact ⟨g, e1, e2, e3.belowAll d4⟩
  case cs2 =>
   intro fr a3 w3 hs
   obtain ⟨x44, x45, x11, rfl, D3, h1, h2, hf⟩ := (hSt _ _ _ _).1 hs
   clear hs
   obtain rfl := h1 (by omega)
   refine opH_of_wpH ?_
   (with_reducible refine h_call ?_ ?_)
   ·exact rfl
   go_simp
   refine entersW_of ?_
   refine (CM.out w3).mono ?_
   rintro e w4 ⟨rfl, d4⟩
   refine ⟨_, rfl, d4, ?_⟩
   try simp only [Act.put, zz1, zz2, zz3]
   refine h_nil ((hSt _ _ _ _).2 ⟨_, _, _, rfl, D3.trans (d4.mono D3.size), fun _ => rfl, fun _ => rfl, fun e => ?_⟩)
   obtain ⟨g, e1, e2, e3⟩ := hf e
   exact ⟨g, e1, e2, e3.belowAll d4⟩
  case cf =>
   intro j hj a3 w3 hs
   obtain ⟨x44, x45, x11, rfl, D3, h1, h2, hf⟩ := (hSt _ _ _ _).1 hs
   clear hs
   refine opH_of_wpH ?_
   obtain ⟨u3, eu3⟩ : ∃ u, w3.alloc (.cells (A8 (zeros 8 16)) 37) = u := ⟨_, rfl⟩
   obtain ⟨bf, du, zu⟩ := new1 _ _ _ _ eu3
   obtain ⟨pf, hpf⟩ : ∃ g, g = w3.heap.size := ⟨_, rfl⟩
   refine h_made (v := .pointer (some ⟨pf, 0, none⟩)) (w' := u3) rfl (by rw [hpf]; go_simp; exact eu3) du ?_
   simp only [Act.put, zz1, zz2, zz3]
   rw [← hpf] at bf
   exact h_nil ((hSt _ _ _ _).2 ⟨_, _, _, rfl, D3.trans (du.mono D3.size), h1, h2, fun _ => ⟨pf, rfl, by rw [hpf]; exact D3.size, bf⟩⟩)
  case cR =>
   intro a3 w3 hs
   obtain ⟨x44, x45, x11, rfl, D3, h1, h2, hf⟩ := (hSt _ _ _ _).1 hs
   clear hs hSt
   obtain rfl := h1 (by decide)
   obtain rfl := h2 (by decide)
   obtain ⟨g11, rfl, hg, bg⟩ := hf rfl
   refine c_act ?_
   refine z_storeRow bg rfl rfl (by rw [A8_size, A8_size, hLBl, zeros_length]) (A8_ones _) (by rw [A8_size, hLBl]; exact Tryz.sizeOf37 _) (fun w9 kk4 g4 s4 => ?_)
   have BD := D3.trans (grown_below g4 hg D3.size)
   refine z_nil ⟨hCe _ BD, ?_⟩
   refine c_nil (hK' _ _ ?_)
   have E4 : Below w8.heap.size w8 w9 := ((Below.refl w8.heap.size w8).drew).trans BD
   have F9 := hid kk4
   have Y9 := hid (Y8.out.below E4)
   have B9 := hid (B8.out.trans (E4.mono B8.out.size))
   clear hK' hC0 hCb hCe BD D3  hf bg g4 s4  kk4 h1 h2
   have rf := F9.out.rd8 16 (by rw [hLBl]; exact Nat.le_refl _) (by rw [hLBl]; unfold maxLen; omega)
   rw [List.take_of_length_le (by omega), hLBl] at rf
   have RF := hid rf
   have hsz9 := E4.size
   clear rf E4
   go_upto_region 6 with fail
   refine wp_region_plain [0,0,2,0] rfl (fun ops' K4 hK4 => ?_)
   repeat
    (first
     | (with_reducible refine z_move (a' := ?_) ?_ ?_); rotate_left
     | (with_reducible refine z_assign (a' := ?_) ?_ ?_); rotate_left
     | (with_reducible refine z_obl (v := ?_) (a' := ?_) rfl (fun _ => ?_) ?_ ?_); rotate_left 2; (focus (go_simp; (try go_bits); exact rfl))
     | (with_reducible refine z_read (v := ?_) (a' := ?_) rfl ?_ ?_ ?_); rotate_left 2; (focus (go_simp; (try go_bits); exact rfl)))
    focus (simp only [Act.put, zz1, zz2, zz3, Act.eval, zz4, zz5, zz6, zz7, zz8]; exact rfl)
   have oo := Y9.out
   skip
   refine z_append8 oo RF.out rfl rfl Tryz.underlying23 info8 (by rw [hbll]; omega) (Nat.le_trans HBY.out hsz9) (fun wc vc oc gc bc => ?_)
   simp only [Act.put, zz1, zz2, zz3]
   repeat
    (first
     | (with_reducible refine z_move (a' := ?_) ?_ ?_); rotate_left
     | (with_reducible refine z_assign (a' := ?_) ?_ ?_); rotate_left
     | (with_reducible refine z_obl (v := ?_) (a' := ?_) rfl (fun _ => ?_) ?_ ?_); rotate_left 2; (focus (go_simp; (try go_bits); exact rfl))
     | (with_reducible refine z_read (v := ?_) (a' := ?_) rfl ?_ ?_ ?_); rotate_left 2; (focus (go_simp; (try go_bits); exact rfl)))
    focus (simp only [Act.put, zz1, zz2, zz3, Act.eval, zz4, zz5, zz6, zz7, zz8]; exact rfl)
   refine z_nil (hK4 _ _ ?_)
   have OO := hid (oc.base HWY.out)
   have BB := hid (B9.out.trans (bc.mono HWY.out))
   clear oc gc bc hK4 oo
   go_wp2
   go_ret
   exact ⟨_, rfl, OO.out, BB.out⟩
theorem refDec17_any (X TT KT key T M : List (BitVec 8)) (g cr hh ch : Nat) (a b : Option Addr) (n c m d : Nat) (w : World) (hBX : BoxL X TT KT) (hXl : X.length = 512) (hkl : key.length = 32) (hR : RdS w 16 (some ⟨g, 0, none⟩) 15 cr (aesA key)) (hH : Rd8 w (some ⟨hh, 32, none⟩) 1104 ch (hashA key)) (hT : Rd8 w a n c T) (hM : Rd8 w b m d M) (hn : n ≤ 300) (h16 : 16 ≤ m) (hm : m ≤ 520) :
  Calls Tryz.prog 22 #[.agg (C17 (X ++ key) (.slice (some ⟨g, 0, none⟩) 15 cr) (.slice (some ⟨hh, 32, none⟩) 1104 ch)), .slice a n c, .slice b m d] w fun e w' => ∃ v, e = .returned v ∧ Own8 w' w.heap.size 5 v (decA key T M) ∧ Below w.heap.size w w' := by
 have hMl := hM.1
 have hTl := hT.1
 obtain ⟨N, hN⟩ : ∃ N, N = m - 16 := ⟨_, rfl⟩
 obtain ⟨CC, hCC⟩ : ∃ z, z = C17 (X ++ key) (.slice (some ⟨g, 0, none⟩) 15 cr) (.slice (some ⟨hh, 32, none⟩) 1104 ch) := ⟨_, rfl⟩
 have hXK : (X ++ key).length = 544 := by rw [List.length_append, hXl, hkl]
 have k1 : CC.size = 546 := by rw [hCC]; exact C17_size hXK _ _
 have k2 : CC.extract 0 512 = A8 X := by rw [hCC]; exact C17_box hXl _ _
 have k3 : CC[544]? = some (.slice (some ⟨g, 0, none⟩) 15 cr) := by rw [hCC]; exact C17_r hXK _ _
 have k4 : CC[545]? = some (.slice (some ⟨hh, 32, none⟩) 1104 ch) := by rw [hCC]; exact C17_h hXK _ _
 have k5 : CC.extract 0 546 = CC := by rw [← k1]; simp
 obtain ⟨L, hL⟩ : ∃ z, z = aesA key := ⟨_, rfl⟩
 obtain ⟨HK, hHK⟩ : ∃ z, z = hashA key := ⟨_, rfl⟩
 obtain ⟨bu, hbu⟩ : ∃ z, z = bulkA M := ⟨_, rfl⟩
 have hbu2 : M.take N = bu := by rw [hbu, bulkA, hMl, hN]
 have hbl : bu.length = N := by rw [← hbu2, List.length_take]; omega
 obtain ⟨rt, hrt⟩ : ∃ z, z = rightA M := ⟨_, rfl⟩
 obtain ⟨RB, hRB⟩ : ∃ z, z = bytesW rt := ⟨_, rfl⟩
 have hRBl : RB.length = 16 := by rw [hRB]; rfl
 have hRB2 : M.drop N = RB := by rw [hRB, hrt, rightA, bytesW_wideN _ (by rw [List.length_drop]; omega), hMl, hN]
 obtain ⟨s1, hs1⟩ : ∃ z, z = sumN HK T bu := ⟨_, rfl⟩
 obtain ⟨S1, hS1⟩ : ∃ z, z = bytesW s1 := ⟨_, rfl⟩
 obtain ⟨p1, hp1⟩ : ∃ z, z = addW2 rt s1 := ⟨_, rfl⟩
 obtain ⟨P1, hP1⟩ : ∃ z, z = bytesW p1 := ⟨_, rfl⟩
 have hP1l : P1.length = 16 := by rw [hP1]; rfl
 obtain ⟨fst, hfst⟩ : ∃ z, z = wideN (decS L 15 P1) := ⟨_, rfl⟩
 obtain ⟨FB, hFB⟩ : ∃ z, z = bytesW fst := ⟨_, rfl⟩
 have hFB2 : decS L 15 P1 = FB := by rw [hFB, hfst, bytesW_wideN _ (decS_length _ _ _)]
 have hFBl : FB.length = 16 := by rw [hFB]; rfl
 obtain ⟨bl, hbl_⟩ : ∃ z, z = cryptOf key (nonceW p1) 12 bu := ⟨_, rfl⟩
 have hbll : bl.length = N := by rw [hbl_, cryA_length, hbl]
 obtain ⟨s2, hs2⟩ : ∃ z, z = sumN HK T bl := ⟨_, rfl⟩
 obtain ⟨S2, hS2⟩ : ∃ z, z = bytesW s2 := ⟨_, rfl⟩
 obtain ⟨ls, hls⟩ : ∃ z, z = subW2 fst s2 := ⟨_, rfl⟩
 obtain ⟨LB, hLB⟩ : ∃ z, z = bytesW ls := ⟨_, rfl⟩
 have hLBl : LB.length = 16 := by rw [hLB]; rfl
 have hmE : p1 = midD key T M := by rw [hp1, hs1, hrt, hbu, hHK]; rfl
 have hfE : fst = wideN (decS (aesA key) 15 (bytesW (midD key T M))) := by rw [hfst, hP1, hmE, hL]
 have hdo : decA key T M = bl ++ LB := by rw [decA, ← hfE, ← hmE, joinA, hLB, hls, hs2, hbl_, hbu, hHK]
 rw [hdo]
 obtain ⟨bk, bo, rfl, hbk, _⟩ := hM.2.2.2 (by omega)
 have hcap := hM.2.1
 have hD : Rd8 w (some ⟨bk, bo + N, none⟩) 16 (d - N) RB := by
  have h := hM.cut (j := N) (k := m) (by omega) (Nat.le_refl _)
  simp only [Option.map_some, Addr.add_lit] at h
  rw [if_neg (by omega), List.take_of_length_le (by omega), hRB2, show m - N = 16 by omega] at h
  exact h
 have hG : Rd8 w (some ⟨bk, bo, none⟩) N d bu := by
  have h := hM.pre (j := N) (by omega)
  rw [hbu2] at h
  exact h
 rw [← hL] at hR
 rw [← hHK] at hH
 have cb := fun sp w1 h => refBlock16_any RB sp 16 (d - N) w1 h (by omega)
 rw [blk_same RB hRBl] at cb
 have cs1 := fun w1 (h1 : Rd8 w1 (some ⟨hh, 32, none⟩) 1104 ch HK) (h2 : Rd8 w1 a n c T) (h3 : Rd8 w1 (some ⟨bk, bo, none⟩) N d bu) => refSumW_any HK T bu (some ⟨hh, 32, none⟩) a (some ⟨bk, bo, none⟩) ch n c N d w1 h1 h2 (by omega) h3 (by omega)
 rw [← hs1, ← hS1] at cs1
 have cp := fun w1 => refPlusW_any rt s1 w1
 rw [← hp1, ← hRB, ← hS1, ← hP1] at cp
 have cst := fun w1 (h3 : Rd8 w1 (some ⟨bk, bo, none⟩) N d bu) => refStream17_any X key bu (.slice (some ⟨g, 0, none⟩) 15 cr) (.slice (some ⟨hh, 32, none⟩) 1104 ch) p1 (some ⟨bk, bo, none⟩) N d w1 hXl hkl h3 (by omega)
 rw [← hCC, ← hP1, ← hbl_] at cst
 have cs2 := fun ay cy w1 (h1 : Rd8 w1 (some ⟨hh, 32, none⟩) 1104 ch HK) (h2 : Rd8 w1 a n c T) (h3 : Rd8 w1 ay N cy bl) => refSumW_any HK T bl (some ⟨hh, 32, none⟩) a ay ch n c N cy w1 h1 h2 (by omega) h3 (by omega)
 rw [← hs2, ← hS2] at cs2
 have cm := fun w1 => refMinusW_any fst s2 w1
 rw [← hls, ← hFB, ← hS2, ← hLB] at cm
 have ce := fun w1 (h : RdS w1 16 (some ⟨g, 0, none⟩) 15 cr L) => refDecrypt_any X TT KT L P1 g cr 15 w1 hBX h hP1l (by omega) (by omega)
 rw [hFB2] at ce
 rw [← hCC]
 obtain ⟨W, hW⟩ : ∃ W, w.alloc (.cells CC 51) = W := ⟨_, rfl⟩
 obtain ⟨b0, hb, hz⟩ := new1 _ _ _ _ hW
 have P0 := hid b0
 have B0 := hid hb
 have T0 := hid (hT.below hb)
 have D0 := hid (hD.below hb)
 have G0 := hid (hG.below hb)
 have R0 := hid (hR.below hb)
 have H0 := hid (hH.below hb)
 have C3 := hid k3
 have C4 := hid k4
 have CB := hid cb
 have CS1 := hid cs1
 have CP := hid cp
 have CE := hid ce
 have CST := hid cst
 have CS2 := hid cs2
 have CM := hid cm
 have i1 : (m : Int) - 16 = (N : Int) := by omega
 have i2 : IntKind.i64.wrap (N : Int) = (N : Int) := by rw [IntKind.wrap_i64]; omega
 have i3 : (N : Int) ≤ (m : Int) := by omega
 have i4 : (m : Int) ≤ (d : Int) := by omega
 have i5 : (N : Int) ≤ (d : Int) := by omega
 have i6 : (0 : Int) ≤ (N : Int) := by omega
 have i7 : m - N = 16 := by omega
 have i8 : (m : Int) - (N : Int) = 16 := by omega
 have i9 : ¬ d = N := by omega
 clear b0 hb hz hT hM hD hG hR hH hBX k3 k4 hN hCC hL hHK hbu hbu2 hrt hRB hRB2 hs1 hS1 hp1 hP1 hbl_ hs2 hS2 hls hLB hdo hmE cb cs1 cp ce cst cs2 cm hbk hcap
 clear hfst hFB hFB2 hfE
 go_enter Tryz.func22, Tryz.ntmps22
 go_upto_region 2 with fail
 clear hW
 refine wp_region_order [0,0,0,2,0,5,0,0,0,0,2,2,2,3] [0,1,2,4,5,6,7,8,9] [(3, 2, _), (10, 2, _), (11, 2, _), (12, 2, _)] (fun i => if i = 10 then [3] else if i = 11 then [10] else []) [13] [_, _, _, _, _, _, _, _, _] [_] [0,0,0,0,5,0,0,0,0] [3] 4 rfl rfl rfl (by kernel_rfl) (by kernel_rfl) (by kernel_rfl) rfl rfl rfl (fun C0 hC0 hCb hCe K' hK' => ?_)
 have Q1 : ∀ w1, C0 w1 → rowAt w1 w.heap.size = CC := fun w1 hw => (P0.out.drew.belowAll (hCb w1 hw)).row
 have Q8 : ∀ w1, C0 w1 → w1.cell? ⟨w.heap.size, 544, none⟩ = some (.slice (some ⟨g, 0, none⟩) 15 cr) := fun w1 hw => by rw [(P0.out.drew.belowAll (hCb w1 hw)).cell]; exact C3.out
 have Q9 : ∀ w1, C0 w1 → w1.cell? ⟨w.heap.size, 545, none⟩ = some (.slice (some ⟨hh, 32, none⟩) 1104 ch) := fun w1 hw => by rw [(P0.out.drew.belowAll (hCb w1 hw)).cell]; exact C4.out
 repeat
  (first
   | (with_reducible refine h_pure (v := ?_) (a' := ?_) ?_ (fun _ => ?_) ?_ ?_); rotate_left 2; (focus (exact rfl)); (focus (go_simp; (try go_bits); exact rfl))
   | (with_reducible refine h_obl (v := ?_) (a' := ?_) ?_ (fun _ hcw => ?_) ?_ ?_); rotate_left 2; (focus (exact rfl)); (focus (have fQ1 := Q1 _ hcw; have fQ8 := Q8 _ hcw; have fQ9 := Q9 _ hcw; go_simp; (try go_bits); exact rfl))
   | (with_reducible refine h_read (v := ?_) (a' := ?_) ?_ (fun _ hbw => ?_) ?_ ?_); rotate_left 2; (focus (exact rfl)); (focus (go_simp; (try go_bits); exact rfl)))
  focus (simp only [Act.put, zz1, zz2, zz3, Act.eval, zz4, zz5, zz6, zz7, zz8]; exact rfl)
 refine h_nil ?_
 clear Q1 Q8 Q9
 generalize hAct : Act.mk _ _ = act
 obtain ⟨u, rfl⟩ : ∃ u : Nat → Value, act = { tmps := (fun u : Nat → Value => (u 0 :: Value.slice a n c :: Value.slice (some ⟨bk, bo, none⟩) m d :: Value.pointer (some ⟨w.heap.size, 0, none⟩) :: u 4 :: u 5 :: Value.slice none 0 0 :: Value.int .i64 N :: u 8 :: u 9 :: u 10 :: u 11 :: u 12 :: u 13 :: u 14 :: u 15 :: u 16 :: Value.slice (some ⟨bk, bo + N, none⟩) 16 (d - N) :: u 18 :: u 19 :: Value.slice (some ⟨hh, 32, none⟩) 1104 ch :: Value.slice a n c :: u 22 :: u 23 :: Value.slice (some ⟨bk, bo, none⟩) N d :: u 25 :: u 26 :: u 27 :: u 28 :: u 29 :: u 30 :: u 31 :: u 32 :: u 33 :: u 34 :: u 35 :: u 36 :: u 37 :: u 38 :: u 39 :: u 40 :: u 41 :: u 42 :: u 43 :: u 44 :: u 45 :: u 46 :: u 47 :: u 48 :: []).toArray) u, defers := [] } := by
  subst hAct; exact ex_frame _ rfl
 clear hAct
 obtain ⟨St, hSt⟩ : ∃ St : Nat → Bool → Act → World → Prop, ∀ kk fr a' w', St kk fr a' w' ↔ (∃ x18 x25 x26 x8 : Value, a' = { tmps := (u 0 :: Value.slice a n c :: Value.slice (some ⟨bk, bo, none⟩) m d :: Value.pointer (some ⟨w.heap.size, 0, none⟩) :: u 4 :: u 5 :: Value.slice none 0 0 :: Value.int .i64 N :: x8 :: u 9 :: u 10 :: u 11 :: u 12 :: u 13 :: u 14 :: u 15 :: u 16 :: Value.slice (some ⟨bk, bo + N, none⟩) 16 (d - N) :: x18 :: u 19 :: Value.slice (some ⟨hh, 32, none⟩) 1104 ch :: Value.slice a n c :: u 22 :: u 23 :: Value.slice (some ⟨bk, bo, none⟩) N d :: x25 :: x26 :: u 27 :: u 28 :: u 29 :: u 30 :: u 31 :: u 32 :: u 33 :: u 34 :: u 35 :: u 36 :: u 37 :: u 38 :: u 39 :: u 40 :: u 41 :: u 42 :: u 43 :: u 44 :: u 45 :: u 46 :: u 47 :: u 48 :: []).toArray, defers := [] } ∧ Below W.drew.heap.size W.drew w' ∧ (1 ≤ kk → x18 = .agg (A8 RB)) ∧ (2 ≤ kk → x25 = .agg (A8 S1)) ∧ (3 ≤ kk → x26 = .agg (A8 P1)) ∧ (fr = true → ∃ g, x8 = .pointer (some ⟨g, 0, none⟩) ∧ W.heap.size ≤ g ∧ Blk w' g 37 (A8 (zeros 8 16)))) := ⟨_, fun _ _ _ _ => Iff.rfl⟩
 refine permHO_chain (St := St) [_, _, _] _ 0 ⟨?as1, ?as2, ?as3, trivial⟩ ?af ?ach ?and ?aR _ _ ?a0
 case a0 => exact (hSt _ _ _ _).2 ⟨_, _, _, _, rfl, Below.refl _ _, fun h => by omega, fun h => by omega, fun h => by omega, fun h => by cases h⟩
 case ach => exact ⟨by decide, by decide, trivial⟩
 case and => decide
 case as1 =>
  intro fr a3 w3 hs
  obtain ⟨x18, x25, x26, x8, rfl, D3, h1, h2, h3, hf⟩ := (hSt _ _ _ _).1 hs
  clear hs
  refine opH_of_wpH ?_
  (with_reducible refine h_call ?_ ?_)
  ·exact rfl
  go_simp
  refine entersW_of ?_
  refine (CB.out (some ⟨bk, bo + N, none⟩) w3 (D0.out.drew.below D3)).mono ?_
  rintro e w4 ⟨rfl, d4⟩
  refine ⟨_, rfl, d4, ?_⟩
  try simp only [Act.put, zz1, zz2, zz3]
  refine h_nil ((hSt _ _ _ _).2 ⟨_, _, _, _, rfl, D3.trans (d4.mono D3.size), fun _ => rfl, fun h => by omega, fun h => by omega, fun e => ?_⟩)
  obtain ⟨g, e1, e2, e3⟩ := hf e
  exact ⟨g, e1, e2, e3.belowAll d4⟩
 case as2 =>
  intro fr a3 w3 hs
  obtain ⟨x18, x25, x26, x8, rfl, D3, h1, h2, h3, hf⟩ := (hSt _ _ _ _).1 hs
  clear hs
  obtain rfl := h1 (by omega)
  refine opH_of_wpH ?_
  (with_reducible refine h_call ?_ ?_)
  ·exact rfl
  go_simp
  refine entersW_of ?_
  refine (CS1.out w3 (H0.out.drew.below D3) (T0.out.drew.below D3) (G0.out.drew.below D3)).mono ?_
  rintro e w4 ⟨rfl, d4⟩
  refine ⟨_, rfl, d4, ?_⟩
  try simp only [Act.put, zz1, zz2, zz3]
  refine h_nil ((hSt _ _ _ _).2 ⟨_, _, _, _, rfl, D3.trans (d4.mono D3.size), fun _ => rfl, fun _ => rfl, fun h => by omega, fun e => ?_⟩)
  obtain ⟨g, e1, e2, e3⟩ := hf e
  exact ⟨g, e1, e2, e3.belowAll d4⟩
 case as3 =>
  intro fr a3 w3 hs
  obtain ⟨x18, x25, x26, x8, rfl, D3, h1, h2, h3, hf⟩ := (hSt _ _ _ _).1 hs
  clear hs
  obtain rfl := h1 (by omega)
  obtain rfl := h2 (by omega)
  refine opH_of_wpH ?_
  (with_reducible refine h_call ?_ ?_)
  ·exact rfl
  go_simp
  refine entersW_of ?_
  refine (CP.out w3).mono ?_
  rintro e w4 ⟨rfl, d4⟩
  refine ⟨_, rfl, d4, ?_⟩
  try simp only [Act.put, zz1, zz2, zz3]
  refine h_nil ((hSt _ _ _ _).2 ⟨_, _, _, _, rfl, D3.trans (d4.mono D3.size), fun _ => rfl, fun _ => rfl, fun _ => rfl, fun e => ?_⟩)
  obtain ⟨g, e1, e2, e3⟩ := hf e
  exact ⟨g, e1, e2, e3.belowAll d4⟩
 case af =>
  intro j hj a3 w3 hs
  obtain ⟨x18, x25, x26, x8, rfl, D3, h1, h2, h3, hf⟩ := (hSt _ _ _ _).1 hs
  clear hs
  refine opH_of_wpH ?_
  obtain ⟨u3, eu3⟩ : ∃ u, w3.alloc (.cells (A8 (zeros 8 16)) 37) = u := ⟨_, rfl⟩
  obtain ⟨bf, du, zu⟩ := new1 _ _ _ _ eu3
  obtain ⟨pf, hpf⟩ : ∃ g, g = w3.heap.size := ⟨_, rfl⟩
  refine h_made (v := .pointer (some ⟨pf, 0, none⟩)) (w' := u3) rfl (by rw [hpf]; go_simp; exact eu3) du ?_
  simp only [Act.put, zz1, zz2, zz3]
  rw [← hpf] at bf
  exact h_nil ((hSt _ _ _ _).2 ⟨_, _, _, _, rfl, D3.trans (du.mono D3.size), h1, h2, h3, fun _ => ⟨pf, rfl, by rw [hpf]; exact D3.size, bf⟩⟩)
 case aR =>
  intro a3 w3 hs
  obtain ⟨x18, x25, x26, x8, rfl, D3, h1, h2, h3, hf⟩ := (hSt _ _ _ _).1 hs
  clear hs hSt
  obtain rfl := h1 (by decide)
  obtain rfl := h2 (by decide)
  obtain rfl := h3 (by decide)
  obtain ⟨g8, rfl, hg, bg⟩ := hf rfl
  refine c_act ?_
  refine z_storeRow bg rfl rfl (by rw [A8_size, A8_size, hP1l, zeros_length]) (A8_ones _) (by rw [A8_size, hP1l]; exact Tryz.sizeOf37 _) (fun w6 kk4 g4 s4 => ?_)
  have BD := D3.trans (grown_below g4 hg D3.size)
  refine z_nil ⟨hCe _ BD, ?_⟩
  refine c_nil (hK' _ _ ?_)
  have E4 : Below W.heap.size W w6 := ((Below.refl W.heap.size W).drew).trans BD
  have I6 := hid kk4
  have P6 := hid (P0.out.belowAll E4)
  have B6 := hid (B0.out.trans (E4.mono B0.out.size))
  have T6 := hid (T0.out.below E4)
  have D6 := hid (D0.out.below E4)
  have G6 := hid (G0.out.below E4)
  have R6 := hid (R0.out.below E4)
  have H6 := hid (H0.out.below E4)
  clear hK' hC0 hCb hCe BD D3  hf bg g4 s4 E4 kk4 h1 h2 h3 P0 B0 T0 D0 G0 R0 H0
  go_upto_region 3 with fail
  refine wp_region_tail [5,5,0,0,0,2,0] (by kernel_rfl) (by kernel_rfl) (fun C0 hC0 hCb K' hK' => ?_)
  have Q1 : ∀ w1, C0 w1 → rowAt w1 w.heap.size = CC := fun w1 hw => (P6.out.drew.belowAll (hCb w1 hw)).row
  have Q2 : ∀ w1, C0 w1 → rowAt w1 g8 = A8 P1 := fun w1 hw => (I6.out.drew.belowAll (hCb w1 hw)).row
  repeat
   (first
    | (with_reducible refine h_pure (v := ?_) (a' := ?_) ?_ (fun _ => ?_) ?_ ?_); rotate_left 2; (focus (exact rfl)); (focus (go_simp; (try go_bits); exact rfl))
    | (with_reducible refine h_obl (v := ?_) (a' := ?_) ?_ (fun _ hcw => ?_) ?_ ?_); rotate_left 2; (focus (exact rfl)); (focus (have f1 := Q1 _ hcw; have f2 := Q2 _ hcw; go_simp; (try go_bits); exact rfl))
    | (with_reducible refine h_read (v := ?_) (a' := ?_) ?_ (fun _ hbw => ?_) ?_ ?_); rotate_left 2; (focus (exact rfl)); (focus (go_simp; (try go_bits); exact rfl)))
   focus (simp only [Act.put, zz1, zz2, zz3, Act.eval, zz4, zz5, zz6, zz7, zz8]; exact rfl)
  (with_reducible refine h_call ?_ ?_)
  ·exact rfl
  go_simp
  refine entersW_of ?_
  refine (CST.out w6.drew G6.out.drew).mono ?_
  rintro e w7 ⟨vt, rfl, ot, dt⟩
  refine ⟨_, rfl, dt, ?_⟩
  try simp only [Act.put, zz1, zz2, zz3]
  obtain ⟨ay, cy, rfl, rt_, _⟩ := ot.rd
  rw [hbll] at rt_ ot ⊢
  repeat
   (first
    | (with_reducible refine h_pure (v := ?_) (a' := ?_) ?_ (fun _ => ?_) ?_ ?_); rotate_left 2; (focus (exact rfl)); (focus (go_simp; (try go_bits); exact rfl))
    | (with_reducible refine h_obl (v := ?_) (a' := ?_) ?_ (fun _ hcw => ?_) ?_ ?_); rotate_left 2; (focus (exact rfl)); (focus (go_simp; (try go_bits); exact rfl))
    | (with_reducible refine h_read (v := ?_) (a' := ?_) ?_ (fun _ hbw => ?_) ?_ ?_); rotate_left 2; (focus (exact rfl)); (focus (go_simp; (try go_bits); exact rfl)))
   focus (simp only [Act.put, zz1, zz2, zz3, Act.eval, zz4, zz5, zz6, zz7, zz8]; exact rfl)
  refine h_tail [] rfl (by simp) (z_nil (hK' _ _ ?_))
  have E7 : Below w6.heap.size w6 w7 := ((Below.refl w6.heap.size w6).drew).trans dt
  have Y7 := hid ot
  have hY7 := rt_
  have HBY := hid (show w6.drew.heap.size ≤ w7.heap.size from dt.size)
  have HWY := hid (show w.heap.size ≤ w6.drew.heap.size from B6.out.size)
  have P7 := hid (P6.out.belowAll E7)
  have B7 := hid (B6.out.trans (E7.mono B6.out.size))
  have T7 := hid (T6.out.below E7)
  have D7 := hid (D6.out.below E7)
  have G7 := hid (G6.out.below E7)
  have R7 := hid (R6.out.below E7)
  have H7 := hid (H6.out.below E7)
  have I7 := hid (I6.out.belowAll E7)
  clear Q1 Q2 hC0 hCb hK' ot rt_ dt E7 P6 B6 T6 D6 G6 R6 H6 I6
  have r1 := P7.out.row
  have r2 := I7.out.row
  have cc : w7.cell? ⟨w.heap.size, 544, none⟩ = some (.slice (some ⟨g, 0, none⟩) 15 cr) := by rw [P7.out.cell]; exact C3.out
  go_wp2_with fail
  refine (CE.out w7 R7.out).mono ?_
  rintro e wz ⟨rfl, dz⟩
  clear r1 r2 cc
  obtain ⟨w8, hw8⟩ : ∃ U, U = wz.alloc (.cells (A8 FB) 37) := ⟨_, rfl⟩
  have E5 : Below w7.heap.size w7 w8 := by rw [hw8]; exact dz.alloc dz.size _
  have J0 := Blk.new wz 37 (A8 FB)
  rw [← hw8] at J0
  have J8 := hid J0
  have HW8 := hid hw8
  have q1 := (Blk.new wz 37 (A8 (zeros 8 16))).row
  have q2 := (Blk.new wz 37 (A8 (zeros 8 16))).whole
  have Y8 := hid (Y7.out.below E5)
  have hY8 := hY7.below E5
  have HBY8 := hid (Nat.le_trans HBY.out E5.size)
  have P8 := hid (P7.out.belowAll E5)
  have B8 := hid (B7.out.trans (E5.mono B7.out.size))
  have T8 := hid (T7.out.below E5)
  have D8 := hid (D7.out.below E5)
  have G8 := hid (G7.out.below E5)
  have R8 := hid (R7.out.below E5)
  have H8 := hid (H7.out.below E5)
  clear dz E5 J0 hw8 Y7 hY7 HBY I7 P7 B7 T7 D7 G7 R7 H7
  have HBY := HBY8
  clear HBY8
  go_upto_region 5 with fail
  clear q1 q2
  rw [← HW8.out]
  clear HW8
  obtain ⟨g10_, hg8⟩ : ∃ z, z = wz.heap.size := ⟨_, rfl⟩
  rw [← hg8] at J8 ⊢
  clear hg8
  refine wp_region_order [5,0,5,0,0,2,2,2,3] [0,1,2,3,4] [(5, 2, _), (6, 2, _), (7, 2, _)] (fun i => if i = 6 then [5] else []) [8] [_, _, _, _, _] [_] [5,0,5,0,0] [3] 3 rfl rfl rfl (by kernel_rfl) (by kernel_rfl) (by kernel_rfl) rfl rfl rfl (fun C0 hC0 hCb hCe K' hK' => ?_)
  have Q1 : ∀ w1, C0 w1 → rowAt w1 w.heap.size = CC := fun w1 hw => (P8.out.drew.belowAll (hCb w1 hw)).row
  have Q8 : ∀ w1, C0 w1 → w1.cell? ⟨w.heap.size, 544, none⟩ = some (.slice (some ⟨g, 0, none⟩) 15 cr) := fun w1 hw => by rw [(P8.out.drew.belowAll (hCb w1 hw)).cell]; exact C3.out
  have Q9 : ∀ w1, C0 w1 → w1.cell? ⟨w.heap.size, 545, none⟩ = some (.slice (some ⟨hh, 32, none⟩) 1104 ch) := fun w1 hw => by rw [(P8.out.drew.belowAll (hCb w1 hw)).cell]; exact C4.out
  have Q2 : ∀ w1, C0 w1 → rowAt w1 g10_ = A8 FB := fun w1 hw => (J8.out.drew.belowAll (hCb w1 hw)).row
  repeat
   (first
    | (with_reducible refine h_pure (v := ?_) (a' := ?_) ?_ (fun _ => ?_) ?_ ?_); rotate_left 2; (focus (exact rfl)); (focus (go_simp; (try go_bits); exact rfl))
    | (with_reducible refine h_obl (v := ?_) (a' := ?_) ?_ (fun _ hcw => ?_) ?_ ?_); rotate_left 2; (focus (exact rfl)); (focus (have fQ1 := Q1 _ hcw; have fQ8 := Q8 _ hcw; have fQ9 := Q9 _ hcw; have fQ2 := Q2 _ hcw; go_simp; (try go_bits); exact rfl))
    | (with_reducible refine h_read (v := ?_) (a' := ?_) ?_ (fun _ hbw => ?_) ?_ ?_); rotate_left 2; (focus (exact rfl)); (focus (go_simp; (try go_bits); exact rfl)))
   focus (simp only [Act.put, zz1, zz2, zz3, Act.eval, zz4, zz5, zz6, zz7, zz8]; exact rfl)
  refine h_nil ?_
  clear Q1 Q8 Q9 Q2
  generalize hAct : Act.mk _ _ = act
  obtain ⟨u, rfl⟩ : ∃ u : Nat → Value, act = { tmps := (fun u : Nat → Value => (u 0 :: Value.slice a n c :: Value.slice (some ⟨bk, bo, none⟩) m d :: Value.pointer (some ⟨w.heap.size, 0, none⟩) :: u 4 :: u 5 :: Value.slice none 0 0 :: Value.int .i64 N :: Value.pointer (some ⟨g8, 0, none⟩) :: Value.slice ay N cy :: Value.pointer (some ⟨g10_, 0, none⟩) :: u 11 :: u 12 :: u 13 :: u 14 :: u 15 :: u 16 :: u 17 :: u 18 :: u 19 :: u 20 :: u 21 :: u 22 :: u 23 :: u 24 :: u 25 :: u 26 :: u 27 :: u 28 :: u 29 :: u 30 :: u 31 :: u 32 :: u 33 :: u 34 :: u 35 :: u 36 :: u 37 :: u 38 :: Value.agg (A8 FB) :: u 40 :: Value.slice (some ⟨hh, 32, none⟩) 1104 ch :: Value.slice a n c :: Value.slice ay N cy :: u 44 :: u 45 :: u 46 :: u 47 :: u 48 :: []).toArray) u, defers := [] } := by
   subst hAct; exact ex_frame _ rfl
  clear hAct
  obtain ⟨St, hSt⟩ : ∃ St : Nat → Bool → Act → World → Prop, ∀ kk fr a' w', St kk fr a' w' ↔ (∃ x44 x45 x11 : Value, a' = { tmps := (u 0 :: Value.slice a n c :: Value.slice (some ⟨bk, bo, none⟩) m d :: Value.pointer (some ⟨w.heap.size, 0, none⟩) :: u 4 :: u 5 :: Value.slice none 0 0 :: Value.int .i64 N :: Value.pointer (some ⟨g8, 0, none⟩) :: Value.slice ay N cy :: Value.pointer (some ⟨g10_, 0, none⟩) :: x11 :: u 12 :: u 13 :: u 14 :: u 15 :: u 16 :: u 17 :: u 18 :: u 19 :: u 20 :: u 21 :: u 22 :: u 23 :: u 24 :: u 25 :: u 26 :: u 27 :: u 28 :: u 29 :: u 30 :: u 31 :: u 32 :: u 33 :: u 34 :: u 35 :: u 36 :: u 37 :: u 38 :: Value.agg (A8 FB) :: u 40 :: Value.slice (some ⟨hh, 32, none⟩) 1104 ch :: Value.slice a n c :: Value.slice ay N cy :: x44 :: x45 :: u 46 :: u 47 :: u 48 :: []).toArray, defers := [] } ∧ Below w8.drew.heap.size w8.drew w' ∧ (1 ≤ kk → x44 = .agg (A8 S2)) ∧ (2 ≤ kk → x45 = .agg (A8 LB)) ∧ (fr = true → ∃ g, x11 = .pointer (some ⟨g, 0, none⟩) ∧ w8.heap.size ≤ g ∧ Blk w' g 37 (A8 (zeros 8 16)))) := ⟨_, fun _ _ _ _ => Iff.rfl⟩
  refine permHO_chain (St := St) [_, _] _ 0 ⟨?cs1, ?cs2, trivial⟩ ?cf ?cch ?cnd ?cR _ _ ?c0
  case c0 => exact (hSt _ _ _ _).2 ⟨_, _, _, rfl, Below.refl _ _, fun h => by omega, fun h => by omega, fun h => by cases h⟩
  case cch => exact ⟨by decide, trivial⟩
  case cnd => decide
  case cs1 =>
   intro fr a3 w3 hs
   obtain ⟨x44, x45, x11, rfl, D3, h1, h2, hf⟩ := (hSt _ _ _ _).1 hs
   clear hs
   refine opH_of_wpH ?_
   (with_reducible refine h_call ?_ ?_)
   ·exact rfl
   go_simp
   refine entersW_of ?_
   refine (CS2.out ay cy w3 (H8.out.drew.below D3) (T8.out.drew.below D3) ((hY8.drew).below D3)).mono ?_
   rintro e w4 ⟨rfl, d4⟩
   refine ⟨_, rfl, d4, ?_⟩
   try simp only [Act.put, zz1, zz2, zz3]
   refine h_nil ((hSt _ _ _ _).2 ⟨_, _, _, rfl, D3.trans (d4.mono D3.size), fun _ => rfl, fun h => by omega, fun e => ?_⟩)
   obtain ⟨g, e1, e2, e3⟩ := hf e
   exact ⟨g, e1, e2, e3.belowAll d4⟩
  case cs2 =>
   intro fr a3 w3 hs
   obtain ⟨x44, x45, x11, rfl, D3, h1, h2, hf⟩ := (hSt _ _ _ _).1 hs
   clear hs
   obtain rfl := h1 (by omega)
   refine opH_of_wpH ?_
   (with_reducible refine h_call ?_ ?_)
   ·exact rfl
   go_simp
   refine entersW_of ?_
   refine (CM.out w3).mono ?_
   rintro e w4 ⟨rfl, d4⟩
   refine ⟨_, rfl, d4, ?_⟩
   try simp only [Act.put, zz1, zz2, zz3]
   refine h_nil ((hSt _ _ _ _).2 ⟨_, _, _, rfl, D3.trans (d4.mono D3.size), fun _ => rfl, fun _ => rfl, fun e => ?_⟩)
   obtain ⟨g, e1, e2, e3⟩ := hf e
   exact ⟨g, e1, e2, e3.belowAll d4⟩
  case cf =>
   intro j hj a3 w3 hs
   obtain ⟨x44, x45, x11, rfl, D3, h1, h2, hf⟩ := (hSt _ _ _ _).1 hs
   clear hs
   refine opH_of_wpH ?_
   obtain ⟨u3, eu3⟩ : ∃ u, w3.alloc (.cells (A8 (zeros 8 16)) 37) = u := ⟨_, rfl⟩
   obtain ⟨bf, du, zu⟩ := new1 _ _ _ _ eu3
   obtain ⟨pf, hpf⟩ : ∃ g, g = w3.heap.size := ⟨_, rfl⟩
   refine h_made (v := .pointer (some ⟨pf, 0, none⟩)) (w' := u3) rfl (by rw [hpf]; go_simp; exact eu3) du ?_
   simp only [Act.put, zz1, zz2, zz3]
   rw [← hpf] at bf
   exact h_nil ((hSt _ _ _ _).2 ⟨_, _, _, rfl, D3.trans (du.mono D3.size), h1, h2, fun _ => ⟨pf, rfl, by rw [hpf]; exact D3.size, bf⟩⟩)
  case cR =>
   intro a3 w3 hs
   obtain ⟨x44, x45, x11, rfl, D3, h1, h2, hf⟩ := (hSt _ _ _ _).1 hs
   clear hs hSt
   obtain rfl := h1 (by decide)
   obtain rfl := h2 (by decide)
   obtain ⟨g11, rfl, hg, bg⟩ := hf rfl
   refine c_act ?_
   refine z_storeRow bg rfl rfl (by rw [A8_size, A8_size, hLBl, zeros_length]) (A8_ones _) (by rw [A8_size, hLBl]; exact Tryz.sizeOf37 _) (fun w9 kk4 g4 s4 => ?_)
   have BD := D3.trans (grown_below g4 hg D3.size)
   refine z_nil ⟨hCe _ BD, ?_⟩
   refine c_nil (hK' _ _ ?_)
   have E4 : Below w8.heap.size w8 w9 := ((Below.refl w8.heap.size w8).drew).trans BD
   have F9 := hid kk4
   have Y9 := hid (Y8.out.below E4)
   have B9 := hid (B8.out.trans (E4.mono B8.out.size))
   clear hK' hC0 hCb hCe BD D3  hf bg g4 s4  kk4 h1 h2
   have rf := F9.out.rd8 16 (by rw [hLBl]; exact Nat.le_refl _) (by rw [hLBl]; unfold maxLen; omega)
   rw [List.take_of_length_le (by omega), hLBl] at rf
   have RF := hid rf
   have hsz9 := E4.size
   clear rf E4
   go_upto_region 6 with fail
   refine wp_region_plain [0,0,2,0] rfl (fun ops' K4 hK4 => ?_)
   repeat
    (first
     | (with_reducible refine z_move (a' := ?_) ?_ ?_); rotate_left
     | (with_reducible refine z_assign (a' := ?_) ?_ ?_); rotate_left
     | (with_reducible refine z_obl (v := ?_) (a' := ?_) rfl (fun _ => ?_) ?_ ?_); rotate_left 2; (focus (go_simp; (try go_bits); exact rfl))
     | (with_reducible refine z_read (v := ?_) (a' := ?_) rfl ?_ ?_ ?_); rotate_left 2; (focus (go_simp; (try go_bits); exact rfl)))
    focus (simp only [Act.put, zz1, zz2, zz3, Act.eval, zz4, zz5, zz6, zz7, zz8]; exact rfl)
   have oo := Y9.out
   skip
   refine z_append8 oo RF.out rfl rfl Tryz.underlying23 info8 (by rw [hbll]; omega) (Nat.le_trans HBY.out hsz9) (fun wc vc oc gc bc => ?_)
   simp only [Act.put, zz1, zz2, zz3]
   repeat
    (first
     | (with_reducible refine z_move (a' := ?_) ?_ ?_); rotate_left
     | (with_reducible refine z_assign (a' := ?_) ?_ ?_); rotate_left
     | (with_reducible refine z_obl (v := ?_) (a' := ?_) rfl (fun _ => ?_) ?_ ?_); rotate_left 2; (focus (go_simp; (try go_bits); exact rfl))
     | (with_reducible refine z_read (v := ?_) (a' := ?_) rfl ?_ ?_ ?_); rotate_left 2; (focus (go_simp; (try go_bits); exact rfl)))
    focus (simp only [Act.put, zz1, zz2, zz3, Act.eval, zz4, zz5, zz6, zz7, zz8]; exact rfl)
   refine z_nil (hK4 _ _ ?_)
   have OO := hid (oc.base HWY.out)
   have BB := hid (B9.out.trans (bc.mono HWY.out))
   clear oc gc bc hK4 oo
   go_wp2
   go_ret
   exact ⟨_, rfl, OO.out, BB.out⟩
end Go.Proofs.YtfdkmjegcghieaaGreatDoor
