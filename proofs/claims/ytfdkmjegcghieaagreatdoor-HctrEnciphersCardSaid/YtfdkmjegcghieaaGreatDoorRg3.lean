/- turn by definition: Make -/
import Derived.Test.YtfdkmjegcghieaaGreatDoorRg2
namespace Go.Proofs.YtfdkmjegcghieaaGreatDoor
open Go.RowKit
/-- the way back, so many of them laid -/
def bkTo : Nat → List (BitVec 8)
  | 0 => zeros 8 256
  | j + 1 => (bkTo j).set (nth boxT j).toNat (BitVec.ofNat 8 j)
theorem bkTo_length : ∀ j, (bkTo j).length = 256
  | 0 => zeros_length 8 256
  | j + 1 => by rw [bkTo, List.length_set, bkTo_length j]
theorem bkTo_box : ∀ (j k : Nat), k < j → j ≤ 256 → nth (bkTo j) (box (BitVec.ofNat 8 k)).toNat = BitVec.ofNat 8 k
  | 0, _, h, _ => by omega
  | j + 1, k, h, hj => by
    have hx : box (BitVec.ofNat 8 k) = nth boxT k := by rw [box, BitVec.toNat_ofNat, Nat.mod_eq_of_lt (show k < 2 ^ 8 by omega)]
    have hxj : box (BitVec.ofNat 8 j) = nth boxT j := by rw [box, BitVec.toNat_ofNat, Nat.mod_eq_of_lt (show j < 2 ^ 8 by omega)]
    rw [bkTo, nth_set _ _ _ _ (by rw [bkTo_length]; exact (nth boxT j).isLt)]
    by_cases hkj : j = k
    · subst hkj; rw [hxj, if_pos rfl]
    · rw [if_neg, bkTo_box j k (by omega) (by omega)]
      intro e
      have e2 : box (BitVec.ofNat 8 j) = box (BitVec.ofNat 8 k) := by rw [hxj]; exact BitVec.eq_of_toNat_eq e
      have e3 := congrArg unbox e2
      rw [unbox_box, unbox_box] at e3
      have e4 := congrArg BitVec.toNat e3
      rw [BitVec.toNat_ofNat, BitVec.toNat_ofNat, Nat.mod_eq_of_lt (show j < 2 ^ 8 by omega), Nat.mod_eq_of_lt (show k < 2 ^ 8 by omega)] at e4
      exact hkj e4
theorem bkTo_full : bkTo 256 = backT := by
  apply ext_nth
  · rw [bkTo_length, backT_length]
  · intro i hi
    rw [bkTo_length] at hi
    have h1 : (BitVec.ofNat 8 i).toNat = i := by rw [BitVec.toNat_ofNat, Nat.mod_eq_of_lt (show i < 2 ^ 8 by omega)]
    have h := bkTo_box 256 (unbox (BitVec.ofNat 8 i)).toNat (unbox (BitVec.ofNat 8 i)).isLt (Nat.le_refl _)
    rw [BitVec.ofNat_toNat, BitVec.setWidth_eq, box_unbox, h1] at h
    rw [h, unbox, h1]
theorem fold_part : ∀ (xs : List Value) (k : Nat) (cs : Array Value), k + xs.length ≤ cs.size → (xs.zipIdx k).foldl (fun cs x => cs.setIfInBounds x.2 x.1) cs = (cs.toList.take k ++ xs ++ cs.toList.drop (k + xs.length)).toArray
  | [], k, cs, h => by
    apply Array.ext'
    simp
  | v :: xs, k, cs, h => by
    rw [List.zipIdx_cons, List.foldl_cons, fold_part xs (k + 1) _ (by simp at h ⊢; omega)]
    apply Array.ext'
    have hk : k < cs.toList.length := by simp at h ⊢; omega
    simp only [Array.toList_setIfInBounds]
    rw [List.take_add_one, List.take_set_of_le (Nat.le_refl k), List.getElem?_set_self hk, List.drop_set_of_lt (by omega), show k + 1 + xs.length = k + (v :: xs).length by simp; omega]
    simp
theorem fold_partA (xs cs : Array Value) (n : Nat) (hn : xs.size = n) (h : n ≤ cs.size) : Array.foldl (fun cs x => cs.setIfInBounds x.2 x.1) cs xs.zipIdx 0 n = xs ++ cs.extract n cs.size := by
  subst hn
  have e : Array.foldl (fun cs x => cs.setIfInBounds x.2 x.1) cs xs.zipIdx 0 xs.size = (xs.toList.zipIdx 0).foldl (fun cs x => cs.setIfInBounds x.2 x.1) cs := by
    rw [← Array.toList_zipIdx, Array.foldl_toList]
    congr 1
    simp
  rw [e, fold_part _ _ _ (by simpa using h)]
  apply Array.ext'
  simp
  rw [List.take_of_length_le (by simp)]
def bxTo (j : Nat) : List (BitVec 8) := boxT ++ bkTo j
theorem bxTo_length (j : Nat) : (bxTo j).length = 512 := by rw [bxTo, List.length_append, boxT_length, bkTo_length]
theorem bxTo_to (j i : Nat) (h : i < 256) : nth (bxTo j) i = nth boxT i := by rw [bxTo, nth_append, if_pos (by rw [boxT_length]; exact h)]
theorem bxTo_set (j : Nat) : (bxTo j).set (256 + (nth boxT j).toNat) (BitVec.ofNat 8 j) = bxTo (j + 1) := by
  rw [bxTo, List.set_append_right _ _ (by rw [boxT_length]; omega), boxT_length, Nat.add_sub_cancel_left]; rfl
theorem zeros_box : Tryz.zeroCells35 = A8 (zeros 8 512) := by kernel_rfl
theorem fold_box : Array.foldl (fun cs x => cs.setIfInBounds x.snd x.fst) Tryz.zeroCells35 (A8 boxT).zipIdx 0 256 = A8 (boxT ++ zeros 8 256) := by
  rw [zeros_box, fold_partA _ _ 256 (by rw [A8_size, boxT_length]) (by rw [A8_size, zeros_length]; omega), A8_size, zeros_length, A8_extract]
  apply Array.ext'
  rw [Array.toList_append, A8_toList, A8_toList, A8_toList, List.map_append, zeros, zeros, List.drop_replicate, List.take_replicate, show min (512 - 256) (512 - 256) = 256 from rfl]
@[go_sem] theorem cellsOf35 : Tryz.prog.cellsOf 35 = 512 := by kernel_rfl
theorem zero35 (w : World) : (zeroValue 35).run Tryz.prog w = .ok (.agg (A8 (zeros 8 512))) w := by kernel_rfl
@[go_sem ↓ high] theorem alloc35 (w : World) : (Instr.alloc 35 true (.tuple #[])).run Tryz.prog w = .ok (.pointer (some ⟨w.heap.size, 0, none⟩)) (w.alloc (.cells (A8 (zeros 8 512)) 35)) := alloc_of_zero zero35 w
set_option linter.unusedSimpArgs false in
set_option maxRecDepth 100000 in
set_option maxHeartbeats 1600000 in
theorem refMake_any (w : World) :
    Calls Tryz.prog 11 #[] w fun e w' => e = .returned (.agg (A8 boxesL)) ∧ Below w.heap.size w w' := by
  obtain ⟨W, hW⟩ : ∃ W, w.alloc (.cells (A8 (zeros 8 512)) 35) = W := ⟨_, rfl⟩
  obtain ⟨b0, hb, hz⟩ := new1 _ _ _ _ hW
  have K0 := Lib.hid b0
  have B0 := Lib.hid hb
  clear b0 hb hz
  go_enter Tryz.func11, Tryz.ntmps11
  go_wp2_with fail
  refine (refTable_any W).mono ?_
  rintro e w1 ⟨rfl, d1⟩
  have hbb := fold_box
  obtain ⟨bx, hbx⟩ : ∃ bx, bx = boxT := ⟨_, rfl⟩
  rw [← hbx] at hbb ⊢
  have hbl : bx.length = 256 := by rw [hbx]; exact boxT_length
  have HBX := Lib.hid hbx
  have D1 := B0.out.trans (d1.mono B0.out.size)
  have K1 := Lib.hid (K0.out.belowAll d1)
  obtain ⟨W1, hW1⟩ : ∃ W1, w1.alloc (.cells (A8 (bx ++ zeros 8 256)) 35) = W1 := ⟨_, rfl⟩
  obtain ⟨z1, hb1, hz1⟩ := new1 _ _ _ _ hW1
  have Z1 := Lib.hid z1
  have B1 := Lib.hid (D1.trans (hb1.mono D1.size))
  have K2 := Lib.hid (K1.out.belowAll hb1)
  have hpx : w.heap.size < w1.heap.size := by have := K1.out.lt; omega
  clear hbx d1 D1 K0 B0 K1 hW z1 hb1 hz1
  go_wp2_with fail
  obtain ⟨px, hp⟩ : ∃ px, px = w1.heap.size := ⟨_, rfl⟩
  rw [← hp] at hpx Z1 ⊢
  have Z2 : Hid (Blk W1 px 35 (A8 (bxTo 0))) := by rw [bxTo, bkTo, ← HBX.out]; exact Z1
  clear hp hbb Z1 hW1
  go_loopw [2] (fun i wr => ∃ j : Nat, j ≤ 256 ∧ i = .int .i64 j ∧ Blk wr w.heap.size 35 (A8 (zeros 8 512)) ∧ Blk wr px 35 (A8 (bxTo j)) ∧ Below w.heap.size w wr) (fun i _ => 256 - (intOf i).toNat)
  case atStart => exact ⟨0, Nat.zero_le _, rfl, K2.out, Z2.out, B1.out⟩
  case round =>
    obtain ⟨j, hj, rfl, hK, hZ, hB⟩ := hrel
    have K3 := Lib.hid hK
    have Z3 := Lib.hid hZ
    have B3 := Lib.hid hB
    clear hK hZ hB Z2 B1 K2
    by_cases hj256 : j < 256
    · have j1 : (j : Int) < 256 := by omega
      have j0 : (0 : Int) ≤ (j : Int) := by omega
      have c1 := Z3.out.cell8 (bxTo_length j) j (by omega)
      rw [bxTo_to j j hj256] at c1
      obtain ⟨y, hy⟩ : ∃ y, y = nth boxT j := ⟨_, rfl⟩
      have hyl := y.isLt
      have fo := Z3.out.frozen (256 + y.toNat)
      have c2 := Z3.out.cell8 (bxTo_length j) (256 + y.toNat) (by omega)
      have kk := Z3.out.set_ (256 + y.toNat) (v8 (BitVec.ofNat 8 j))
      rw [A8_set, hy, bxTo_set j, ← hy] at kk
      rw [← hy] at c1
      have Z4 := Lib.hid kk
      have K4 := Lib.hid (K3.out.far (p := ⟨px, 256 + y.toNat, none⟩) (by simp; omega) (v8 (BitVec.ofNat 8 j)))
      have B4 := Lib.hid (B3.out.setCell (p := ⟨px, 256 + y.toNat, none⟩) (by simp; omega) (v8 (BitVec.ofNat 8 j)))
      clear kk K3 Z3 B3 hy
      go_wp2
      exact ⟨⟨j + 1, by omega, by go_num, K4.out, Z4.out, B4.out⟩, by simp [intOf]; omega⟩
    · obtain rfl : j = 256 := by omega
      have zz := Z3.out
      rw [bxTo, bkTo_full, show boxT ++ backT = boxesL from rfl] at zz
      have r1 := zz.row
      have r2 := K3.out.row
      have r3 := K3.out.whole
      obtain ⟨X, hX⟩ : ∃ X, X = boxesL := ⟨_, rfl⟩
      have hXl : X.length = 512 := by rw [hX]; exact boxesL_length
      rw [← hX] at r1
      have HXX := Lib.hid hX
      clear zz hX
      go_wp2
      refine bodyPost_row (A8 X) rfl rfl rfl (Tryz.isAgg35 _) (Tryz.sizeOf35 _) (by rw [A8_size]; exact hXl) (rowAt_setRow _ r3) ⟨by rw [HXX.out], below_setRow B3.out (by omega) _⟩
end Go.Proofs.YtfdkmjegcghieaaGreatDoor
