/- gf by definition: Inverse, Box, Table; turn by definition: Make -/
import Derived.Test.YtfdkmjegcghieaaGreatDoorMId
import Derived.Test.YtfdkmjegcghieaaGreatDoorMGc
import Derived.Test.YtfdkmjegcghieaaGreatDoorMAes3
import Derived.Test.YtfdkmjegcghieaaGreatDoorMGo
namespace Go.Proofs.YtfdkmjegcghieaaGreatDoor
open Lib (hid)
set_option linter.unusedSimpArgs false
set_option maxRecDepth 100000
set_option maxHeartbeats 1600000
open Go.RowKit
theorem invS_range (a : BitVec 8) (h : ¬ a = 0#8) : 1 ≤ (invS a).toNat := by
 rcases inv_one a with h0 | h1
 ·exact absurd h0 h
 ·rcases Nat.eq_zero_or_pos (invS a).toNat with hz | hz
  ·have : invS a = 0#8 := BitVec.eq_of_toNat_eq hz
   rw [this, show gmul a 0#8 = 0#8 from gmul_zero a] at h1
   exact absurd h1 (by decide)
  ·exact hz
theorem refInverse_any (a : BitVec 8) (w : World) :
  Calls Tryz.prog 116 #[v8 a] w fun e w' => e = .returned (v8 (invS a)) ∧ w = w' := by
 go_enter Tryz.func116, Tryz.ntmps116
 go_wp2_with fail
 go_loopw [3] (fun i wr => ∃ j : Nat, 1 ≤ j ∧ j ≤ 256 ∧ i = .int .i64 j ∧ Hid (∀ k, 1 ≤ k → k < j → ¬ gmul a (BitVec.ofNat 8 k) = 1#8) ∧ wr = w) (fun i _ => 256 - (intOf i).toNat)
 case atStart => exact ⟨1, by omega, by omega, rfl, hid (fun k h1 h2 => by omega), rfl⟩
 case round =>
  obtain ⟨j, hj1, hj, rfl, H, rfl⟩ := hrel
  by_cases hj256 : j < 256
  ·have j1 : (j : Int) < 256 := by omega
   go_wp2_with fail
   refine (refTimes_any a (BitVec.ofNat 8 j) wr).mono ?_
   rintro e w1 ⟨rfl, rfl⟩
   by_cases hg : gmul a (BitVec.ofNat 8 j) = 1#8
   ·have hi := inv_only a _ hg
    have hb : (gmul a (BitVec.ofNat 8 j) == 1#8) = true := by rw [hg]; rfl
    have HI := hid hi
    clear hi hg
    go_wp2
    go_ret
    rw [← HI.out]
    exact ⟨rfl, rfl⟩
   ·have hb : (gmul a (BitVec.ofNat 8 j) == 1#8) = false := by simpa using hg
    have H2 : Hid (∀ k, 1 ≤ k → k < j + 1 → ¬ gmul a (BitVec.ofNat 8 k) = 1#8) := hid (fun k h1 h2 => by
     by_cases hk : k = j
     ·rw [hk]; exact hg
     ·exact H.out k h1 (by omega))
    clear H hg
    go_wp2
    exact ⟨⟨j + 1, by omega, by omega, by go_num, H2, trivial⟩, by simp [intOf]; omega⟩
  ·obtain rfl : j = 256 := by omega
   have h0 : invS a = 0#8 := by
    by_cases ha : a = 0#8
    ·rw [ha]; kernel_rfl
    ·have h1 := invS_range a ha
     have h2 := (invS a).isLt
     have h3 := H.out (invS a).toNat h1 (by omega)
     rw [BitVec.ofNat_toNat, BitVec.setWidth_eq] at h3
     rcases inv_one a with h | h
     ·exact absurd h ha
     ·exact absurd h h3
   have H0 := hid h0
   clear h0 H
   go_wp2
   go_ret
   rw [H0.out]
   exact ⟨rfl, rfl⟩
theorem refbit_any (a : BitVec 8) (k : Nat) (w : World) (hk : k ≤ 1000) :
  Calls Tryz.prog 117 #[v8 a, .int .i64 k] w fun e w' => e = .returned (v8 (bitS a k)) ∧ w = w' := by
 obtain ⟨r, hr⟩ : ∃ r, r = k % 8 := ⟨_, rfl⟩
 have r1 : (k : Int) % 8 = (r : Int) := by omega
 have e0 := amt_nat r (by omega)
 have hb : bitS a k = a >>> r % 2#8 := by rw [bitS, ← hr]
 rw [hb]
 have k0 : (0 : Int) ≤ (k : Int) := by omega
 clear hr hb
 go_enter Tryz.func117, Tryz.ntmps117
 go_wp2
 go_ret
 exact ⟨rfl, rfl⟩
theorem refBox_any (a : BitVec 8) (w : World) :
  Calls Tryz.prog 70 #[v8 a] w fun e w' => e = .returned (v8 (box a)) ∧ Below w.heap.size w w' := by
 go_enter Tryz.func70, Tryz.ntmps70
 go_wp2_with fail
 refine (refInverse_any a w).mono ?_
 rintro e w1 ⟨rfl, rfl⟩
 obtain ⟨x, hx⟩ : ∃ x, x = invS a := ⟨_, rfl⟩
 rw [← hx]
 have HX := hid hx
 clear hx
 go_wp2_with fail
 go_loopw [4, 5] (fun o i wr => ∃ j : Nat, j ≤ 8 ∧ i = .int .i64 j ∧ o = v8 (boxU x j) ∧ Below w.heap.size w wr) (fun _ i _ => 8 - (intOf i).toNat)
 case atStart => exact ⟨0, by omega, rfl, rfl, Below.refl _ _⟩
 case round =>
  obtain ⟨j, hj, rfl, rfl, hB⟩ := hrel
  have B0 := hid hB
  clear hB
  by_cases hj8 : j < 8
  ·have j1 : (j : Int) < 8 := by omega
   have j0 : (0 : Int) ≤ (j : Int) := by omega
   have e0 := amt_nat j (by omega)
   have hB : boxU x j ||| boxB x j <<< j = boxU x (j + 1) := rfl
   have HB := hid hB
   have hbb : bitS x j ^^^ bitS x (j + 7) ^^^ bitS x (j + 6) ^^^ bitS x (j + 5) ^^^ bitS x (j + 4) ^^^ bitS 99#8 j = boxB x j := rfl
   have HBB := hid hbb
   obtain ⟨j7, h7⟩ : ∃ q, q = j + 7 := ⟨_, rfl⟩
   obtain ⟨j6, h6⟩ : ∃ q, q = j + 6 := ⟨_, rfl⟩
   obtain ⟨j5, h5⟩ : ∃ q, q = j + 5 := ⟨_, rfl⟩
   obtain ⟨j4, h4⟩ : ∃ q, q = j + 4 := ⟨_, rfl⟩
   rw [← h7, ← h6, ← h5, ← h4] at HBB
   have a7 : (j : Int) + 7 = (j7 : Int) := by omega
   have a6 : (j : Int) + 6 = (j6 : Int) := by omega
   have a5 : (j : Int) + 5 = (j5 : Int) := by omega
   have a4 : (j : Int) + 4 = (j4 : Int) := by omega
   have b7 : IntKind.i64.wrap (j7 : Int) = (j7 : Int) := by rw [IntKind.wrap_i64]; omega
   have b6 : IntKind.i64.wrap (j6 : Int) = (j6 : Int) := by rw [IntKind.wrap_i64]; omega
   have b5 : IntKind.i64.wrap (j5 : Int) = (j5 : Int) := by rw [IntKind.wrap_i64]; omega
   have b4 : IntKind.i64.wrap (j4 : Int) = (j4 : Int) := by rw [IntKind.wrap_i64]; omega
   have l7 : j7 ≤ 1000 := by omega
   have l6 : j6 ≤ 1000 := by omega
   have l5 : j5 ≤ 1000 := by omega
   have l4 : j4 ≤ 1000 := by omega
   clear h7 h6 h5 h4 hB hbb
   go_wp2_with fail
   refine (refbit_any x j wr (by omega)).mono ?_
   rintro e w1 ⟨rfl, rfl⟩
   go_wp2_with fail
   refine (refbit_any x j7 wr (by omega)).mono ?_
   rintro e w1 ⟨rfl, rfl⟩
   go_wp2_with fail
   refine (refbit_any x j6 wr (by omega)).mono ?_
   rintro e w1 ⟨rfl, rfl⟩
   go_wp2_with fail
   refine (refbit_any x j5 wr (by omega)).mono ?_
   rintro e w1 ⟨rfl, rfl⟩
   go_wp2_with fail
   refine (refbit_any x j4 wr (by omega)).mono ?_
   rintro e w1 ⟨rfl, rfl⟩
   go_wp2_with fail
   refine (refbit_any 99#8 j wr (by omega)).mono ?_
   rintro e w1 ⟨rfl, rfl⟩
   go_wp2
   exact ⟨⟨j + 1, by omega, by go_num, by rw [HBB.out, HB.out], B0.out⟩, by simp [intOf]; omega⟩
  ·obtain rfl : j = 8 := by omega
   have hf : boxU x 8 = box a := by rw [HX.out]; exact boxU_box a
   have HF := hid hf
   clear hf
   go_wp2
   go_ret
   rw [HF.out]
   exact ⟨rfl, B0.out⟩
theorem refTable_any (w : World) :
  Calls Tryz.prog 32 #[] w fun e w' => e = .returned (.agg (A8 boxT)) ∧ Below w.heap.size w w' := by
 obtain ⟨W, hW⟩ : ∃ W, (w.alloc (.cells (A8 (zeros 8 256)) 33)).alloc (.cells (A8 (zeros 8 256)) 33) = W := ⟨_, rfl⟩
 obtain ⟨b0, z0, hb, hz⟩ := new2 _ _ _ _ _ _ hW
 have K0 := hid b0
 have Z0 := hid z0
 have B0 := hid hb
 clear b0 z0 hb hz
 go_enter Tryz.func32, Tryz.ntmps32
 go_wp2_with fail
 go_loopw [2] (fun i wr => ∃ j : Nat, j ≤ 256 ∧ i = .int .i64 j ∧ Blk wr w.heap.size 33 (A8 (zeros 8 256)) ∧ Blk wr (w.heap.size + 1) 33 (A8 (fillN 256 boxT j)) ∧ Below w.heap.size w wr) (fun i _ => 256 - (intOf i).toNat)
 case atStart => exact ⟨0, Nat.zero_le _, rfl, K0.out, by rw [fillN_zero]; exact Z0.out, B0.out⟩
 case round =>
  obtain ⟨j, hj, rfl, hK, hZ, hB⟩ := hrel
  have K1 := hid hK
  have Z1 := hid hZ
  have B1 := hid hB
  clear hK hZ hB K0 Z0 B0 hW
  by_cases hj256 : j < 256
  ·have j1 : (j : Int) < 256 := by omega
   have j0 : (0 : Int) ≤ (j : Int) := by omega
   go_wp2_with fail
   refine (refBox_any (BitVec.ofNat 8 j) wr).mono ?_
   rintro e w1 ⟨rfl, d1⟩
   have hx : box (BitVec.ofNat 8 j) = nth boxT j := by rw [box, BitVec.toNat_ofNat, Nat.mod_eq_of_lt hj256]
   have Z2 := Z1.out.belowAll d1
   have K2 := K1.out.belowAll d1
   have B2 := B1.out.trans (d1.mono B1.out.size)
   have c1 := Z2.cell8 (fillN_length 256 boxT j) j hj256
   have fo := Z2.frozen j
   have kk := Z2.set_ j (v8 (nth boxT j))
   rw [A8_set, fillN_set 256 boxT j hj256] at kk
   have Z3 := hid kk
   have K3 := hid (K2.far (p := ⟨w.heap.size + 1, j, none⟩) (by simp) (v8 (nth boxT j)))
   have B3 := hid (B2.setCell (p := ⟨w.heap.size + 1, j, none⟩) (by simp) (v8 (nth boxT j)))
   rw [hx]
   obtain ⟨bx, hbx⟩ : ∃ bx, bx = nth boxT j := ⟨_, rfl⟩
   rw [← hbx] at Z3 K3 B3 ⊢
   clear kk K1 Z1 B1 Z2 K2 B2 d1 hx hbx
   go_wp2
   exact ⟨⟨j + 1, by omega, by go_num, K3.out, Z3.out, B3.out⟩, by simp [intOf]; omega⟩
  ·obtain rfl : j = 256 := by omega
   have zz := Z1.out
   rw [fillN_full 256 boxT boxT_length] at zz
   have r1 := zz.row
   have r2 := K1.out.row
   have r3 := K1.out.whole
   obtain ⟨bx, hbx⟩ : ∃ bx, bx = boxT := ⟨_, rfl⟩
   have hbl : bx.length = 256 := by rw [hbx]; exact boxT_length
   rw [← hbx] at r1
   have HBX := hid hbx
   clear zz hbx
   go_wp2
   refine bodyPost_row (A8 bx) rfl rfl rfl (Tryz.isAgg33 _) (Tryz.sizeOf33 _) (by rw [A8_size]; exact hbl) (rowAt_setRow _ r3) ⟨by rw [HBX.out], below_setRow B1.out (by omega) _⟩
open Go.RowKit
def bkTo : Nat → List (BitVec 8)
 | 0 => zeros 8 256
 | j + 1 => (bkTo j).set (nth boxT j).toNat (BitVec.ofNat 8 j)
theorem bkTo_length : ∀ j, (bkTo j).length = 256
 | 0 => zeros_length 8 256
 | j + 1 => by rw [bkTo, List.length_set, bkTo_length j]
theorem bkTo_box : ∀ (j k : Nat), k < j → j ≤ 256 → nth (bkTo j) (box (BitVec.ofNat 8 k)).toNat = BitVec.ofNat 8 k
 | 0, _, h, _ => by omega
 | j + 1, k, h, hj => by
  have hx : box (BitVec.ofNat 8 k) = nth boxT k := by rw [box, BitVec.toNat_ofNat, Nat.mod_eq_of_lt (show k < 2 ^ 8 by omega)]
  have hxj : box (BitVec.ofNat 8 j) = nth boxT j := by rw [box, BitVec.toNat_ofNat, Nat.mod_eq_of_lt (show j < 2 ^ 8 by omega)]
  rw [bkTo, nth_set _ _ _ _ (by rw [bkTo_length]; exact (nth boxT j).isLt)]
  by_cases hkj : j = k
  ·subst hkj; rw [hxj, if_pos rfl]
  ·rw [if_neg, bkTo_box j k (by omega) (by omega)]
   intro e
   have e2 : box (BitVec.ofNat 8 j) = box (BitVec.ofNat 8 k) := by rw [hxj]; exact BitVec.eq_of_toNat_eq e
   have e3 := congrArg unbox e2
   rw [unbox_box, unbox_box] at e3
   have e4 := congrArg BitVec.toNat e3
   rw [BitVec.toNat_ofNat, BitVec.toNat_ofNat, Nat.mod_eq_of_lt (show j < 2 ^ 8 by omega), Nat.mod_eq_of_lt (show k < 2 ^ 8 by omega)] at e4
   exact hkj e4
theorem bkTo_full : bkTo 256 = backT := by
 apply ext_nth
 ·rw [bkTo_length, backT_length]
 ·intro i hi
  rw [bkTo_length] at hi
  have h1 : (BitVec.ofNat 8 i).toNat = i := by rw [BitVec.toNat_ofNat, Nat.mod_eq_of_lt (show i < 2 ^ 8 by omega)]
  have h := bkTo_box 256 (unbox (BitVec.ofNat 8 i)).toNat (unbox (BitVec.ofNat 8 i)).isLt (Nat.le_refl _)
  rw [BitVec.ofNat_toNat, BitVec.setWidth_eq, box_unbox, h1] at h
  rw [h, unbox, h1]
theorem fold_part : ∀ (xs : List Value) (k : Nat) (cs : Array Value), k + xs.length ≤ cs.size → (xs.zipIdx k).foldl (fun cs x => cs.setIfInBounds x.2 x.1) cs = (cs.toList.take k ++ xs ++ cs.toList.drop (k + xs.length)).toArray
 | [], k, cs, h => by
  apply Array.ext'
  simp
 | v :: xs, k, cs, h => by
  rw [List.zipIdx_cons, List.foldl_cons, fold_part xs (k + 1) _ (by simp at h ⊢; omega)]
  apply Array.ext'
  have hk : k < cs.toList.length := by simp at h ⊢; omega
  simp only [Array.toList_setIfInBounds]
  rw [List.take_add_one, List.take_set_of_le (Nat.le_refl k), List.getElem?_set_self hk, List.drop_set_of_lt (by omega), show k + 1 + xs.length = k + (v :: xs).length by simp; omega]
  simp
theorem fold_partA (xs cs : Array Value) (n : Nat) (hn : xs.size = n) (h : n ≤ cs.size) : Array.foldl (fun cs x => cs.setIfInBounds x.2 x.1) cs xs.zipIdx 0 n = xs ++ cs.extract n cs.size := by
 subst hn
 have e : Array.foldl (fun cs x => cs.setIfInBounds x.2 x.1) cs xs.zipIdx 0 xs.size = (xs.toList.zipIdx 0).foldl (fun cs x => cs.setIfInBounds x.2 x.1) cs := by
  rw [← Array.toList_zipIdx, Array.foldl_toList]
  congr 1
  simp
 rw [e, fold_part _ _ _ (by simpa using h)]
 apply Array.ext'
 simp
 rw [List.take_of_length_le (by simp)]
def bxTo (j : Nat) : List (BitVec 8) := boxT ++ bkTo j
theorem bxTo_length (j : Nat) : (bxTo j).length = 512 := by rw [bxTo, List.length_append, boxT_length, bkTo_length]
theorem bxTo_to (j i : Nat) (h : i < 256) : nth (bxTo j) i = nth boxT i := by rw [bxTo, nth_append, if_pos (by rw [boxT_length]; exact h)]
theorem bxTo_set (j : Nat) : (bxTo j).set (256 + (nth boxT j).toNat) (BitVec.ofNat 8 j) = bxTo (j + 1) := by
 rw [bxTo, List.set_append_right _ _ (by rw [boxT_length]; omega), boxT_length, Nat.add_sub_cancel_left]; rfl
theorem zeros_box : Tryz.zeroCells35 = A8 (zeros 8 512) := by kernel_rfl
theorem fold_box : Array.foldl (fun cs x => cs.setIfInBounds x.snd x.fst) Tryz.zeroCells35 (A8 boxT).zipIdx 0 256 = A8 (boxT ++ zeros 8 256) := by
 rw [zeros_box, fold_partA _ _ 256 (by rw [A8_size, boxT_length]) (by rw [A8_size, zeros_length]; omega), A8_size, zeros_length, A8_extract]
 apply Array.ext'
 rw [Array.toList_append, A8_toList, A8_toList, A8_toList, List.map_append, zeros, zeros, List.drop_replicate, List.take_replicate, show min (512 - 256) (512 - 256) = 256 from rfl]
@[go_sem] theorem cellsOf35 : Tryz.prog.cellsOf 35 = 512 := by kernel_rfl
theorem zero35 (w : World) : (zeroValue 35).run Tryz.prog w = .ok (.agg (A8 (zeros 8 512))) w := by kernel_rfl
@[go_sem ↓ high] theorem alloc35 (w : World) : (Instr.alloc 35 true (.tuple #[])).run Tryz.prog w = .ok (.pointer (some ⟨w.heap.size, 0, none⟩)) (w.alloc (.cells (A8 (zeros 8 512)) 35)) := alloc_of_zero zero35 w
theorem refMake_any (w : World) :
  Calls Tryz.prog 11 #[] w fun e w' => e = .returned (.agg (A8 boxesL)) ∧ Below w.heap.size w w' := by
 obtain ⟨W, hW⟩ : ∃ W, w.alloc (.cells (A8 (zeros 8 512)) 35) = W := ⟨_, rfl⟩
 obtain ⟨b0, hb, hz⟩ := new1 _ _ _ _ hW
 have K0 := hid b0
 have B0 := hid hb
 clear b0 hb hz
 go_enter Tryz.func11, Tryz.ntmps11
 go_wp2_with fail
 refine (refTable_any W).mono ?_
 rintro e w1 ⟨rfl, d1⟩
 have hbb := fold_box
 obtain ⟨bx, hbx⟩ : ∃ bx, bx = boxT := ⟨_, rfl⟩
 rw [← hbx] at hbb ⊢
 have hbl : bx.length = 256 := by rw [hbx]; exact boxT_length
 have HBX := hid hbx
 have D1 := B0.out.trans (d1.mono B0.out.size)
 have K1 := hid (K0.out.belowAll d1)
 obtain ⟨W1, hW1⟩ : ∃ W1, w1.alloc (.cells (A8 (bx ++ zeros 8 256)) 35) = W1 := ⟨_, rfl⟩
 obtain ⟨z1, hb1, hz1⟩ := new1 _ _ _ _ hW1
 have Z1 := hid z1
 have B1 := hid (D1.trans (hb1.mono D1.size))
 have K2 := hid (K1.out.belowAll hb1)
 have hpx : w.heap.size < w1.heap.size := by have := K1.out.lt; omega
 clear hbx d1 D1 K0 B0 K1 hW z1 hb1 hz1
 go_wp2_with fail
 obtain ⟨px, hp⟩ : ∃ px, px = w1.heap.size := ⟨_, rfl⟩
 rw [← hp] at hpx Z1 ⊢
 have Z2 : Hid (Blk W1 px 35 (A8 (bxTo 0))) := by rw [bxTo, bkTo, ← HBX.out]; exact Z1
 clear hp hbb Z1 hW1
 go_loopw [2] (fun i wr => ∃ j : Nat, j ≤ 256 ∧ i = .int .i64 j ∧ Blk wr w.heap.size 35 (A8 (zeros 8 512)) ∧ Blk wr px 35 (A8 (bxTo j)) ∧ Below w.heap.size w wr) (fun i _ => 256 - (intOf i).toNat)
 case atStart => exact ⟨0, Nat.zero_le _, rfl, K2.out, Z2.out, B1.out⟩
 case round =>
  obtain ⟨j, hj, rfl, hK, hZ, hB⟩ := hrel
  have K3 := hid hK
  have Z3 := hid hZ
  have B3 := hid hB
  clear hK hZ hB Z2 B1 K2
  by_cases hj256 : j < 256
  ·have j1 : (j : Int) < 256 := by omega
   have j0 : (0 : Int) ≤ (j : Int) := by omega
   have c1 := Z3.out.cell8 (bxTo_length j) j (by omega)
   rw [bxTo_to j j hj256] at c1
   obtain ⟨y, hy⟩ : ∃ y, y = nth boxT j := ⟨_, rfl⟩
   have hyl := y.isLt
   have fo := Z3.out.frozen (256 + y.toNat)
   have c2 := Z3.out.cell8 (bxTo_length j) (256 + y.toNat) (by omega)
   have kk := Z3.out.set_ (256 + y.toNat) (v8 (BitVec.ofNat 8 j))
   rw [A8_set, hy, bxTo_set j, ← hy] at kk
   rw [← hy] at c1
   have Z4 := hid kk
   have K4 := hid (K3.out.far (p := ⟨px, 256 + y.toNat, none⟩) (by simp; omega) (v8 (BitVec.ofNat 8 j)))
   have B4 := hid (B3.out.setCell (p := ⟨px, 256 + y.toNat, none⟩) (by simp; omega) (v8 (BitVec.ofNat 8 j)))
   clear kk K3 Z3 B3 hy
   go_wp2
   exact ⟨⟨j + 1, by omega, by go_num, K4.out, Z4.out, B4.out⟩, by simp [intOf]; omega⟩
  ·obtain rfl : j = 256 := by omega
   have zz := Z3.out
   rw [bxTo, bkTo_full, show boxT ++ backT = boxesL from rfl] at zz
   have r1 := zz.row
   have r2 := K3.out.row
   have r3 := K3.out.whole
   obtain ⟨X, hX⟩ : ∃ X, X = boxesL := ⟨_, rfl⟩
   have hXl : X.length = 512 := by rw [hX]; exact boxesL_length
   rw [← hX] at r1
   have HXX := hid hX
   clear zz hX
   go_wp2
   refine bodyPost_row (A8 X) rfl rfl rfl (Tryz.isAgg35 _) (Tryz.sizeOf35 _) (by rw [A8_size]; exact hXl) (rowAt_setRow _ r3) ⟨by rw [HXX.out], below_setRow B3.out (by omega) _⟩
open Go.RowKit
theorem refSixteen_any (a b : List (BitVec 8)) (w : World) (ha : a.length = 16) (hb16 : b.length = 16) :
  Calls Tryz.prog 33 #[.agg (A8 a), .agg (A8 b)] w fun e w' => e = .returned (.agg (A8 (xor16 a b))) ∧ Below w.heap.size w w' := by
 obtain ⟨W, hW⟩ : ∃ W, (((w.alloc (.cells (A8 a) 37)).alloc (.cells (A8 b) 37)).alloc (.cells (A8 (zeros 8 16)) 37)).alloc (.cells (A8 (zeros 8 16)) 37) = W := ⟨_, rfl⟩
 obtain ⟨b0, b1, b2, b3, hb, hz⟩ := new4 _ _ _ _ _ _ _ _ _ _ hW
 have P0 := hid b0
 have Q0 := hid b1
 have K0 := hid b2
 have Z0 := hid b3
 have B0 := hid hb
 clear b0 b1 b2 b3 hb hz
 go_enter Tryz.func33, Tryz.ntmps33
 go_wp2_with fail
 clear hW
 go_loopw [6] (fun i wr => ∃ j : Nat, j ≤ 16 ∧ i = .int .i64 j ∧ Blk wr w.heap.size 37 (A8 a) ∧ Blk wr (w.heap.size + 1) 37 (A8 b) ∧ Blk wr (w.heap.size + 2) 37 (A8 (zeros 8 16)) ∧ Blk wr (w.heap.size + 3) 37 (A8 (fillN 16 (xor16 a b) j)) ∧ Below w.heap.size w wr) (fun i _ => 16 - (intOf i).toNat)
 case atStart => exact ⟨0, by omega, rfl, P0.out, Q0.out, K0.out, by rw [fillN_zero]; exact Z0.out, B0.out⟩
 case round =>
  obtain ⟨j, hj, rfl, hP, hQ, hK, hZ, hB⟩ := hrel
  have P1 := hid hP
  have Q1 := hid hQ
  have K1 := hid hK
  have Z1 := hid hZ
  have B1 := hid hB
  clear hP hQ hK hZ hB P0 Q0 K0 Z0 B0
  by_cases hj16 : j < 16
  ·have j1 : (j : Int) < 16 := by omega
   have j0 : (0 : Int) ≤ (j : Int) := by omega
   have c1 := P1.out.drew.cell8 ha j hj16
   have c2 := Q1.out.drew.cell8 hb16 j hj16
   have hv : nth (xor16 a b) j = nth a j ^^^ nth b j := nth_r16 _ j hj16
   have HV := hid hv
   clear hv
   go_upto_region 5 with fail
   refine wp_region_text3' [0,0,0,1,0,0,1,0,0,2] (by kernel_rfl) (by kernel_rfl) (fun ops' K2 hK2 => ?_)
   repeat
    (first
     | (with_reducible refine z_move (a' := ?_) ?_ ?_); rotate_left
     | (with_reducible refine z_assign (a' := ?_) ?_ ?_); rotate_left
     | (with_reducible refine z_obl (v := ?_) (a' := ?_) rfl (fun _ => ?_) ?_ ?_); rotate_left 2; (focus (go_simp; (try go_bits); exact rfl))
     | (with_reducible refine z_read (v := ?_) (a' := ?_) rfl ?_ ?_ ?_); rotate_left 2; (focus (go_simp; (try go_bits); exact rfl)))
    focus (simp only [Act.put, zz1, zz2, zz3, Act.eval, zz4, zz5, zz6, zz7, zz8]; exact rfl)
   refine z_store8 Z1.out.drew rfl rfl (by rw [fillN_length]; omega) (Tryz.sizeOf5 _) (fun w1 k1 g1 s1 => ?_)
   refine z_nil (hK2 _ _ ?_)
   rw [← HV.out, fillN_set 16 _ j hj16] at k1
   have P2 := hid (P1.out.drew.grown g1 (by simp))
   have Q2 := hid (Q1.out.drew.grown g1 (by simp))
   have K2' := hid (K1.out.drew.grown g1 (by simp))
   have Z2 := hid k1
   have B2 := hid (B1.out.drew.trans (grown_below g1 (by omega) B1.out.drew.size))
   clear c1 c2 k1 g1 s1 hK2
   go_wp2
   exact ⟨⟨j + 1, by omega, by go_num, P2.out, Q2.out, K2'.out, Z2.out, B2.out⟩, by simp [intOf]; omega⟩
  ·obtain rfl : j = 16 := by omega
   have zz := Z1.out
   rw [fillN_full 16 _ (xor16_length a b)] at zz
   have r1 := zz.row
   have r2 := K1.out.row
   have r3 := K1.out.whole
   clear zz
   go_wp2
   refine bodyPost_row (A8 (xor16 a b)) rfl rfl rfl (Tryz.isAgg37 _) (Tryz.sizeOf37 _) (by rw [A8_size]; exact xor16_length a b) (rowAt_setRow _ r3) ⟨rfl, below_setRow B1.out (by omega) _⟩
theorem upd_sub (f : BitVec 8 → BitVec 8) (b : List (BitVec 8)) (h : b.length = 16) : upd (fun i => f (nth b i)) b 16 = sub16 f b := by
 apply ext_nth
 ·rw [sub16_length]; simp [upd, h]
 ·intro i hi
  have hi16 : i < 16 := by simpa [upd, h] using hi
  rw [nth_upd _ _ _ _ (by omega), if_pos hi16, sub16, nth_r16 _ i hi16]
theorem refsub_any (f : BitVec 8 → BitVec 8) (T b : List (BitVec 8)) (w : World) (hTl : T.length = 256) (hT : ∀ v : BitVec 8, nth T v.toNat = f v) (hb16 : b.length = 16) :
  Calls Tryz.prog 115 #[.agg (A8 T), .agg (A8 b)] w fun e w' => e = .returned (.agg (A8 (sub16 f b))) ∧ Below w.heap.size w w' := by
 obtain ⟨W, hW⟩ : ∃ W, ((w.alloc (.cells (A8 T) 33)).alloc (.cells (A8 b) 37)).alloc (.cells (A8 (zeros 8 16)) 37) = W := ⟨_, rfl⟩
 obtain ⟨b0, b1, b2, hb, hz⟩ := new3 _ _ _ _ _ _ _ _ hW
 have P0 := hid b0
 have Q0 := hid b1
 have K0 := hid b2
 have B0 := hid hb
 have HT := hid hT
 clear b0 b1 b2 hb hz hT
 go_enter Tryz.func115, Tryz.ntmps115
 go_wp2_with fail
 clear hW
 go_loopw [5] (fun i wr => ∃ j : Nat, j ≤ 16 ∧ i = .int .i64 j ∧ Blk wr w.heap.size 33 (A8 T) ∧ Blk wr (w.heap.size + 1) 37 (A8 (upd (fun i => f (nth b i)) b j)) ∧ Blk wr (w.heap.size + 2) 37 (A8 (zeros 8 16)) ∧ Below w.heap.size w wr) (fun i _ => 16 - (intOf i).toNat)
 case atStart => exact ⟨0, by omega, rfl, P0.out, by rw [upd_zero]; exact Q0.out, K0.out, B0.out⟩
 case round =>
  obtain ⟨j, hj, rfl, hP, hQ, hK, hB⟩ := hrel
  have P1 := hid hP
  have Q1 := hid hQ
  have K1 := hid hK
  have B1 := hid hB
  clear hP hQ hK hB P0 Q0 K0 B0
  have hul : (upd (fun i => f (nth b i)) b j).length = 16 := by simp [upd, hb16]
  by_cases hj16 : j < 16
  ·have j1 : (j : Int) < 16 := by omega
   have j0 : (0 : Int) ≤ (j : Int) := by omega
   obtain ⟨y, hy⟩ : ∃ y, y = nth b j := ⟨_, rfl⟩
   have c1 := Q1.out.cell8 hul j hj16
   rw [upd_at _ _ _ (by omega), ← hy] at c1
   have hyl := y.isLt
   have c2 := P1.out.cell8 hTl y.toNat (by omega)
   rw [HT.out y] at c2
   have fo := Q1.out.frozen j
   have kk := Q1.out.set_ j (v8 (f y))
   rw [A8_set, hy, upd_set (fun i => f (nth b i)) b j (by omega), ← hy] at kk
   have P2 := hid (P1.out.far (p := ⟨w.heap.size + 1, j, none⟩) (by simp) (v8 (f y)))
   have Q2 := hid kk
   have K2 := hid (K1.out.far (p := ⟨w.heap.size + 1, j, none⟩) (by simp) (v8 (f y)))
   have B2 := hid (B1.out.setCell (p := ⟨w.heap.size + 1, j, none⟩) (by simp) (v8 (f y)))
   obtain ⟨z, hz⟩ : ∃ z, z = f y := ⟨_, rfl⟩
   rw [← hz] at c2 P2 Q2 K2 B2
   clear kk P1 Q1 K1 B1 hy hz
   go_wp2
   exact ⟨⟨j + 1, by omega, by go_num, P2.out, Q2.out, K2.out, B2.out⟩, by simp [intOf]; omega⟩
  ·obtain rfl : j = 16 := by omega
   have zz := Q1.out
   rw [upd_sub f b hb16] at zz
   have r1 := zz.row
   have r2 := K1.out.row
   have r3 := K1.out.whole
   clear zz
   go_wp2
   refine bodyPost_row (A8 (sub16 f b)) rfl rfl rfl (Tryz.isAgg37 _) (Tryz.sizeOf37 _) (by rw [A8_size]; exact sub16_length f b) (rowAt_setRow _ r3) ⟨rfl, below_setRow B1.out (by omega) _⟩
theorem refshiftL_any (b : List (BitVec 8)) (w : World) (hb16 : b.length = 16) :
  Calls Tryz.prog 114 #[.agg (A8 b), .bool false] w fun e w' => e = .returned (.agg (A8 (shift16 b))) ∧ Below w.heap.size w w' := by
 obtain ⟨W, hW⟩ : ∃ W, ((w.alloc (.cells (A8 b) 37)).alloc (.cells (A8 (zeros 8 16)) 37)).alloc (.cells (A8 (zeros 8 16)) 37) = W := ⟨_, rfl⟩
 obtain ⟨b0, b1, b2, hb, hz⟩ := new3 _ _ _ _ _ _ _ _ hW
 have P0 := hid b0
 have K0 := hid b1
 have Z0 := hid b2
 have B0 := hid hb
 clear b0 b1 b2 hb hz
 go_enter Tryz.func114, Tryz.ntmps114
 go_wp2_with fail
 clear hW
 go_loopw [6] (fun i wr => ∃ j : Nat, j ≤ 16 ∧ i = .int .i64 j ∧ Blk wr w.heap.size 37 (A8 b) ∧ Blk wr (w.heap.size + 1) 37 (A8 (zeros 8 16)) ∧ Blk wr (w.heap.size + 2) 37 (A8 (fillN 16 (shift16 b) j)) ∧ Below w.heap.size w wr) (fun i _ => 16 - (intOf i).toNat)
 case atStart => exact ⟨0, by omega, rfl, P0.out, K0.out, by rw [fillN_zero]; exact Z0.out, B0.out⟩
 case round =>
  obtain ⟨j, hj, rfl, hP, hK, hZ, hB⟩ := hrel
  have P1 := hid hP
  have K1 := hid hK
  have Z1 := hid hZ
  have B1 := hid hB
  clear hP hK hZ hB P0 K0 Z0 B0
  by_cases hj16 : j < 16
  ·have j1 : (j : Int) < 16 := by omega
   have j0 : (0 : Int) ≤ (j : Int) := by omega
   obtain ⟨r, hr⟩ : ∃ r, r = j % 4 := ⟨_, rfl⟩
   obtain ⟨q, hq⟩ : ∃ q, q = j / 4 := ⟨_, rfl⟩
   obtain ⟨s4, hs4⟩ : ∃ s, s = q + 4 := ⟨_, rfl⟩
   obtain ⟨s, hs⟩ : ∃ s, s = q + r := ⟨_, rfl⟩
   obtain ⟨d, hd⟩ : ∃ s, s = q + 4 - r := ⟨_, rfl⟩
   obtain ⟨t, ht⟩ : ∃ s, s = (q + r) % 4 := ⟨_, rfl⟩
   obtain ⟨t', ht'⟩ : ∃ s, s = (q + 4 - r) % 4 := ⟨_, rfl⟩
   obtain ⟨u, hu⟩ : ∃ s, s = 4 * ((q + r) % 4) := ⟨_, rfl⟩
   obtain ⟨u', hu'⟩ : ∃ s, s = 4 * ((q + 4 - r) % 4) := ⟨_, rfl⟩
   obtain ⟨p, hp⟩ : ∃ s, s = 4 * ((q + r) % 4) + r := ⟨_, rfl⟩
   obtain ⟨p', hp'⟩ : ∃ s, s = 4 * ((q + 4 - r) % 4) + r := ⟨_, rfl⟩
   have f1 : (j : Int) % 4 = (r : Int) := by omega
   have f2 : (j : Int) / 4 = (q : Int) := by omega
   have f3 : (q : Int) + (r : Int) = (s : Int) := by omega
   have f4 : (q : Int) + 4 = (s4 : Int) := by omega
   have f5 : (s4 : Int) - (r : Int) = (d : Int) := by omega
   have f6 : (s : Int) % 4 = (t : Int) := by omega
   have f7 : (d : Int) % 4 = (t' : Int) := by omega
   have f8 : (4 : Int) * (t : Int) = (u : Int) := by omega
   have f9 : (4 : Int) * (t' : Int) = (u' : Int) := by omega
   have g1 : (u : Int) + (r : Int) = (p : Int) := by omega
   have g2 : (u' : Int) + (r : Int) = (p' : Int) := by omega
   have i1 : IntKind.i64.wrap (q : Int) = (q : Int) := by rw [IntKind.wrap_i64]; omega
   have i2 : IntKind.i64.wrap (s : Int) = (s : Int) := by rw [IntKind.wrap_i64]; omega
   have i3 : IntKind.i64.wrap (s4 : Int) = (s4 : Int) := by rw [IntKind.wrap_i64]; omega
   have i4 : IntKind.i64.wrap (d : Int) = (d : Int) := by rw [IntKind.wrap_i64]; omega
   have i5 : IntKind.i64.wrap (u : Int) = (u : Int) := by rw [IntKind.wrap_i64]; omega
   have i6 : IntKind.i64.wrap (u' : Int) = (u' : Int) := by rw [IntKind.wrap_i64]; omega
   have i7 : IntKind.i64.wrap (p : Int) = (p : Int) := by rw [IntKind.wrap_i64]; omega
   have i8 : IntKind.i64.wrap (p' : Int) = (p' : Int) := by rw [IntKind.wrap_i64]; omega
   have pl : p < 16 := by omega
   have pl' : p' < 16 := by omega
   have pi : (p : Int) < 16 := by omega
   have pi' : (p' : Int) < 16 := by omega
   have pz : (0 : Int) ≤ (p : Int) := by omega
   have pz' : (0 : Int) ≤ (p' : Int) := by omega
   have c1 := P1.out.cell8 hb16 p pl
   have c2 := P1.out.cell8 hb16 p' pl'
   have hsh : shp j = p := by rw [hp, hq, hr]; rfl
   have hun : unshp j = p' := by rw [hp', hq, hr]; rfl
   have hv : nth (shift16 b) j = nth b (shp j) := nth_r16 _ j hj16
   have fo := Z1.out.frozen j
   have c3 := Z1.out.cell8 (fillN_length 16 _ j) j hj16
   have kk := Z1.out.set_ j (v8 (nth (shift16 b) j))
   rw [A8_set, fillN_set 16 _ j hj16] at kk
   have P2 := hid (P1.out.far (p := ⟨w.heap.size + 2, j, none⟩) (by simp) (v8 (nth (shift16 b) j)))
   have K2 := hid (K1.out.far (p := ⟨w.heap.size + 2, j, none⟩) (by simp) (v8 (nth (shift16 b) j)))
   have Z2 := hid kk
   have B2 := hid (B1.out.setCell (p := ⟨w.heap.size + 2, j, none⟩) (by simp) (v8 (nth (shift16 b) j)))
   rw [hv] at P2 K2 Z2 B2
   simp only [hsh, hun] at P2 K2 Z2 B2
   clear kk P1 K1 Z1 B1 hr hq hs4 hs hd ht ht' hu hu' hp hp' hv hsh hun
   go_wp2
   exact ⟨⟨j + 1, by omega, by go_num, P2.out, K2.out, Z2.out, B2.out⟩, by simp [intOf]; omega⟩
  ·obtain rfl : j = 16 := by omega
   have zz := Z1.out
   rw [fillN_full 16 _ (shift16_length b)] at zz
   have r1 := zz.row
   have r2 := K1.out.row
   have r3 := K1.out.whole
   clear zz
   go_wp2
   refine bodyPost_row (A8 (shift16 b)) rfl rfl rfl (Tryz.isAgg37 _) (Tryz.sizeOf37 _) (by rw [A8_size]; exact shift16_length b) (rowAt_setRow _ r3) ⟨rfl, below_setRow B1.out (by omega) _⟩
theorem refshiftR_any (b : List (BitVec 8)) (w : World) (hb16 : b.length = 16) :
  Calls Tryz.prog 114 #[.agg (A8 b), .bool true] w fun e w' => e = .returned (.agg (A8 (unshift16 b))) ∧ Below w.heap.size w w' := by
 obtain ⟨W, hW⟩ : ∃ W, ((w.alloc (.cells (A8 b) 37)).alloc (.cells (A8 (zeros 8 16)) 37)).alloc (.cells (A8 (zeros 8 16)) 37) = W := ⟨_, rfl⟩
 obtain ⟨b0, b1, b2, hb, hz⟩ := new3 _ _ _ _ _ _ _ _ hW
 have P0 := hid b0
 have K0 := hid b1
 have Z0 := hid b2
 have B0 := hid hb
 clear b0 b1 b2 hb hz
 go_enter Tryz.func114, Tryz.ntmps114
 go_wp2_with fail
 clear hW
 go_loopw [6] (fun i wr => ∃ j : Nat, j ≤ 16 ∧ i = .int .i64 j ∧ Blk wr w.heap.size 37 (A8 b) ∧ Blk wr (w.heap.size + 1) 37 (A8 (zeros 8 16)) ∧ Blk wr (w.heap.size + 2) 37 (A8 (fillN 16 (unshift16 b) j)) ∧ Below w.heap.size w wr) (fun i _ => 16 - (intOf i).toNat)
 case atStart => exact ⟨0, by omega, rfl, P0.out, K0.out, by rw [fillN_zero]; exact Z0.out, B0.out⟩
 case round =>
  obtain ⟨j, hj, rfl, hP, hK, hZ, hB⟩ := hrel
  have P1 := hid hP
  have K1 := hid hK
  have Z1 := hid hZ
  have B1 := hid hB
  clear hP hK hZ hB P0 K0 Z0 B0
  by_cases hj16 : j < 16
  ·have j1 : (j : Int) < 16 := by omega
   have j0 : (0 : Int) ≤ (j : Int) := by omega
   obtain ⟨r, hr⟩ : ∃ r, r = j % 4 := ⟨_, rfl⟩
   obtain ⟨q, hq⟩ : ∃ q, q = j / 4 := ⟨_, rfl⟩
   obtain ⟨s4, hs4⟩ : ∃ s, s = q + 4 := ⟨_, rfl⟩
   obtain ⟨s, hs⟩ : ∃ s, s = q + r := ⟨_, rfl⟩
   obtain ⟨d, hd⟩ : ∃ s, s = q + 4 - r := ⟨_, rfl⟩
   obtain ⟨t, ht⟩ : ∃ s, s = (q + r) % 4 := ⟨_, rfl⟩
   obtain ⟨t', ht'⟩ : ∃ s, s = (q + 4 - r) % 4 := ⟨_, rfl⟩
   obtain ⟨u, hu⟩ : ∃ s, s = 4 * ((q + r) % 4) := ⟨_, rfl⟩
   obtain ⟨u', hu'⟩ : ∃ s, s = 4 * ((q + 4 - r) % 4) := ⟨_, rfl⟩
   obtain ⟨p, hp⟩ : ∃ s, s = 4 * ((q + r) % 4) + r := ⟨_, rfl⟩
   obtain ⟨p', hp'⟩ : ∃ s, s = 4 * ((q + 4 - r) % 4) + r := ⟨_, rfl⟩
   have f1 : (j : Int) % 4 = (r : Int) := by omega
   have f2 : (j : Int) / 4 = (q : Int) := by omega
   have f3 : (q : Int) + (r : Int) = (s : Int) := by omega
   have f4 : (q : Int) + 4 = (s4 : Int) := by omega
   have f5 : (s4 : Int) - (r : Int) = (d : Int) := by omega
   have f6 : (s : Int) % 4 = (t : Int) := by omega
   have f7 : (d : Int) % 4 = (t' : Int) := by omega
   have f8 : (4 : Int) * (t : Int) = (u : Int) := by omega
   have f9 : (4 : Int) * (t' : Int) = (u' : Int) := by omega
   have g1 : (u : Int) + (r : Int) = (p : Int) := by omega
   have g2 : (u' : Int) + (r : Int) = (p' : Int) := by omega
   have i1 : IntKind.i64.wrap (q : Int) = (q : Int) := by rw [IntKind.wrap_i64]; omega
   have i2 : IntKind.i64.wrap (s : Int) = (s : Int) := by rw [IntKind.wrap_i64]; omega
   have i3 : IntKind.i64.wrap (s4 : Int) = (s4 : Int) := by rw [IntKind.wrap_i64]; omega
   have i4 : IntKind.i64.wrap (d : Int) = (d : Int) := by rw [IntKind.wrap_i64]; omega
   have i5 : IntKind.i64.wrap (u : Int) = (u : Int) := by rw [IntKind.wrap_i64]; omega
   have i6 : IntKind.i64.wrap (u' : Int) = (u' : Int) := by rw [IntKind.wrap_i64]; omega
   have i7 : IntKind.i64.wrap (p : Int) = (p : Int) := by rw [IntKind.wrap_i64]; omega
   have i8 : IntKind.i64.wrap (p' : Int) = (p' : Int) := by rw [IntKind.wrap_i64]; omega
   have pl : p < 16 := by omega
   have pl' : p' < 16 := by omega
   have pi : (p : Int) < 16 := by omega
   have pi' : (p' : Int) < 16 := by omega
   have pz : (0 : Int) ≤ (p : Int) := by omega
   have pz' : (0 : Int) ≤ (p' : Int) := by omega
   have c1 := P1.out.cell8 hb16 p pl
   have c2 := P1.out.cell8 hb16 p' pl'
   have hsh : shp j = p := by rw [hp, hq, hr]; rfl
   have hun : unshp j = p' := by rw [hp', hq, hr]; rfl
   have hv : nth (unshift16 b) j = nth b (unshp j) := nth_r16 _ j hj16
   have fo := Z1.out.frozen j
   have c3 := Z1.out.cell8 (fillN_length 16 _ j) j hj16
   have kk := Z1.out.set_ j (v8 (nth (unshift16 b) j))
   rw [A8_set, fillN_set 16 _ j hj16] at kk
   have P2 := hid (P1.out.far (p := ⟨w.heap.size + 2, j, none⟩) (by simp) (v8 (nth (unshift16 b) j)))
   have K2 := hid (K1.out.far (p := ⟨w.heap.size + 2, j, none⟩) (by simp) (v8 (nth (unshift16 b) j)))
   have Z2 := hid kk
   have B2 := hid (B1.out.setCell (p := ⟨w.heap.size + 2, j, none⟩) (by simp) (v8 (nth (unshift16 b) j)))
   rw [hv] at P2 K2 Z2 B2
   simp only [hsh, hun] at P2 K2 Z2 B2
   clear kk P1 K1 Z1 B1 hr hq hs4 hs hd ht ht' hu hu' hp hp' hv hsh hun
   go_wp2
   exact ⟨⟨j + 1, by omega, by go_num, P2.out, K2.out, Z2.out, B2.out⟩, by simp [intOf]; omega⟩
  ·obtain rfl : j = 16 := by omega
   have zz := Z1.out
   rw [fillN_full 16 _ (unshift16_length b)] at zz
   have r1 := zz.row
   have r2 := K1.out.row
   have r3 := K1.out.whole
   clear zz
   go_wp2
   refine bodyPost_row (A8 (unshift16 b)) rfl rfl rfl (Tryz.isAgg37 _) (Tryz.sizeOf37 _) (by rw [A8_size]; exact unshift16_length b) (rowAt_setRow _ r3) ⟨rfl, below_setRow B1.out (by omega) _⟩
end Go.Proofs.YtfdkmjegcghieaaGreatDoor
