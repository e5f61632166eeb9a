/- chacha by definition: Start -/
import Derived.Test.YtfdkmjegcghieaaGreatDoorMRef6
import Derived.Test.YtfdkmjegcghieaaGreatDoorMGb
import Derived.Test.YtfdkmjegcghieaaGreatDoorMJj
import Derived.Test.YtfdkmjegcghieaaGreatDoorMJh
import Derived.OneCell
import Derived.Test.YtfdkmjegcghieaaGreatDoorMHb
import Derived.Test.YtfdkmjegcghieaaGreatDoorMGu
namespace Go.Proofs.YtfdkmjegcghieaaGreatDoor
open Lib (hid)
set_option linter.unusedSimpArgs false
set_option maxRecDepth 100000
set_option maxHeartbeats 1600000
open Go.RowKit
theorem le32_nat (x : BitVec 32) : x.toNat = ((nth (le32 x) 3).toNat * 256 + (nth (le32 x) 2).toNat) * 65536 + (nth (le32 x) 1).toNat * 256 + (nth (le32 x) 0).toNat := by
 simp only [le32, nth, List.getD_eq_getElem?_getD]
 simp [Nat.shiftRight_eq_div_pow]
 have := x.isLt
 omega
theorem le32_inj {x y : BitVec 32} (h : le32 x = le32 y) : x = y := by
 apply BitVec.eq_of_toNat_eq
 rw [le32_nat x, le32_nat y, h]
theorem start_word (key inp : List (BitVec 8)) (hk : key.length = 32) (hi : inp.length = 16) (j : Nat) (hj : j < 16) : word (letters ++ key ++ inp) (4 * j) = nth (startTo key inp 4) j := by
 apply le32_inj
 rw [start_bytes key inp hk hi j hj, le32_word, take4]
 simp [hk, hi, letters]; omega
def fillTo (S : List (BitVec 32)) (j : Nat) : List (BitVec 32) := (List.range 16).map fun i => if i < j then nth S i else 0
theorem fillTo_length (S : List (BitVec 32)) (j : Nat) : (fillTo S j).length = 16 := by simp [fillTo]
theorem nth_fillTo (S : List (BitVec 32)) (j i : Nat) (hi : i < 16) : nth (fillTo S j) i = if i < j then nth S i else 0 := by
 simp [nth, fillTo, List.getD_eq_getElem?_getD, hi]
theorem fillTo_zero (S : List (BitVec 32)) : fillTo S 0 = zeros 32 16 := by
 apply ext_nth
 ·simp [fillTo_length]
 ·intro i hi
  rw [fillTo_length] at hi
  rw [nth_fillTo _ _ _ hi, nth_zeros]; simp
theorem fillTo_set (S : List (BitVec 32)) (j : Nat) (hj : j < 16) : (fillTo S j).set j (nth S j) = fillTo S (j + 1) := by
 apply ext_nth
 ·simp [fillTo_length]
 ·intro i hi
  rw [List.length_set, fillTo_length] at hi
  rw [nth_set _ _ _ _ (by rw [fillTo_length]; exact hj), nth_fillTo _ _ _ hi, nth_fillTo _ _ _ hi]
  by_cases h : j = i
  ·subst h; simp
  ·by_cases h2 : i < j
   ·rw [if_neg h, if_pos h2, if_pos (by omega)]
   ·rw [if_neg h, if_neg h2, if_neg (by omega)]
theorem fillTo_full (S : List (BitVec 32)) (h : S.length = 16) : fillTo S 16 = S := by
 apply ext_nth
 ·rw [fillTo_length, h]
 ·intro i hi
  rw [fillTo_length] at hi
  rw [nth_fillTo _ _ _ hi, if_pos hi]
theorem Rd8.far {w : World} {b o n c g j : Nat} {l : List (BitVec 8)} (h : Rd8 w (some ⟨b, o, none⟩) n c l) (hb : b ≠ g) (v : Value) : Rd8 (w.setCell ⟨g, j, none⟩ v) (some ⟨b, o, none⟩) n c l :=
 ⟨h.1, h.2.1, h.2.2.1, fun hn => by
  obtain ⟨b', o', he, hlt, hc⟩ := h.2.2.2 hn
  cases he
  exact ⟨b, o, rfl, by simpa using hlt, fun i hi => (World.cell?_setCell_other _ _ _ _ (by intro e; exact hb (congrArg Addr.block e).symm)).trans (hc i hi)⟩⟩
theorem refStart_any (key inp : List (BitVec 8)) (w : World) (hk : key.length = 32) (hi : inp.length = 16) :
  Calls Tryz.prog 135 #[.agg (A8 key), .agg (A8 inp)] w fun e w' => e = .returned (.agg (A32 (startTo key inp 4))) ∧ Below w.heap.size w w' := by
 obtain ⟨W, hW⟩ : ∃ W, ((w.alloc (.cells (A8 key) 22)).alloc (.cells (A8 inp) 37)).alloc (.cells (A32 (zeros 32 16)) 180) = W := ⟨_, rfl⟩
 obtain ⟨b0, b1, b2, hb, hz⟩ := new3 _ _ _ _ _ _ _ _ hW
 have B0' := hid b0
 have B1' := hid b1
 have BZ := hid b2
 have B2 := hid hb
 obtain ⟨S, hS⟩ : ∃ S, S = startTo key inp 4 := ⟨_, rfl⟩
 have hSl : S.length = 16 := by rw [hS, startTo_length]
 have hsw : ∀ j, j < 16 → word (letters ++ key ++ inp) (4 * j) = nth S j := fun j hj => by rw [hS]; exact start_word key inp hk hi j hj
 have HSW := hid hsw
 have HSL := hid hSl
 rw [← hS]
 clear hz hb b0 b1 b2 hS hSl hsw
 go_enter Tryz.func135, Tryz.ntmps135
 go_upto_region 1 with fail
 clear hW
 refine wp_region_plain [2,2,0,2,0] rfl (fun ops' K2 hK2 => ?_)
 refine z_run (v := .slice (some ⟨W.heap.size, 0, none⟩) 16 16) (w1 := W.alloc (.cells (A8 letters) 5)) rfl ?_ ?_
 ·go_simp
  rfl
 simp only [Act.put, zz1, zz2, zz3]
 have hcv := convert_same (P := Tryz.prog) W 23 5 (A8 letters) 16 16 Tryz.underlying23 Tryz.underlying5
 refine z_run (v := .slice (some ⟨W.heap.size, 0, none⟩) 16 16) (w1 := W.alloc (.cells (A8 letters) 5 ((A8 letters).size, (A8 letters).size + 1))) rfl ?_ ?_
 ·go_simp
 simp only [Act.put, zz1, zz2, zz3]
 have R0 := letters_rd W 5 ((A8 letters).size, (A8 letters).size + 1) _ (show _ = A8 letters from rfl)
 have B0a := B0'.out.alloc (.cells (A8 letters) 5 ((A8 letters).size, (A8 letters).size + 1))
 have B1a := B1'.out.alloc (.cells (A8 letters) 5 ((A8 letters).size, (A8 letters).size + 1))
 have BZa := BZ.out.alloc (.cells (A8 letters) 5 ((A8 letters).size, (A8 letters).size + 1))
 have B2a := B2.out.alloc B2.out.size (.cells (A8 letters) 5 ((A8 letters).size, (A8 letters).size + 1))
 generalize W.alloc (.cells (A8 letters) 5 ((A8 letters).size, (A8 letters).size + 1)) = W2 at *
 generalize W.heap.size = pL at *
 clear hcv
 have RK := B0a.rd8 32 (by omega) (by rw [hk]; decide)
 rw [List.take_of_length_le (by omega), hk] at RK
 have RI := B1a.rd8 16 (by omega) (by rw [hi]; decide)
 rw [List.take_of_length_le (by omega), hi] at RI
 repeat
  (first
   | (with_reducible refine z_move (a' := ?_) ?_ ?_); rotate_left
   | (with_reducible refine z_assign (a' := ?_) ?_ ?_); rotate_left
   | (with_reducible refine z_obl (v := ?_) (a' := ?_) rfl (fun _ => ?_) ?_ ?_); rotate_left 2; (focus (go_simp; (try go_bits); exact rfl))
   | (with_reducible refine z_read (v := ?_) (a' := ?_) rfl ?_ ?_ ?_); rotate_left 2; (focus (go_simp; (try go_bits); exact rfl)))
  focus (simp only [Act.put, zz1, zz2, zz3, Act.eval, zz4, zz5, zz6, zz7, zz8]; exact rfl)
 refine z_append8g R0 RK rfl rfl Tryz.underlying23 info8 (by omega) (by omega) (by omega) (by omega) (fun w3 v3 o3 hb3 => ?_)
 simp only [Act.put, zz1, zz2, zz3]
 repeat
  (first
   | (with_reducible refine z_move (a' := ?_) ?_ ?_); rotate_left
   | (with_reducible refine z_assign (a' := ?_) ?_ ?_); rotate_left
   | (with_reducible refine z_obl (v := ?_) (a' := ?_) rfl (fun _ => ?_) ?_ ?_); rotate_left 2; (focus (go_simp; (try go_bits); exact rfl))
   | (with_reducible refine z_read (v := ?_) (a' := ?_) rfl ?_ ?_ ?_); rotate_left 2; (focus (go_simp; (try go_bits); exact rfl)))
  focus (simp only [Act.put, zz1, zz2, zz3, Act.eval, zz4, zz5, zz6, zz7, zz8]; exact rfl)
 refine z_nil (hK2 _ _ ?_)
 have O3 := hid o3
 have BZb := hid (BZa.belowAll hb3)
 have B3 := hid (B2a.trans (hb3.mono B2a.size))
 have RI3 := hid (RI.below hb3)
 have hgt := (B2a.size)
 have hsz3 := hb3.size
 have hpS := BZa.lt
 clear o3 R0 RK RI B0a B1a BZa B2a hb3 hK2
 go_upto_region 2 with fail
 refine wp_region_plain [0,0,2,0] rfl (fun ops' K2 hK2 => ?_)
 repeat
  (first
   | (with_reducible refine z_move (a' := ?_) ?_ ?_); rotate_left
   | (with_reducible refine z_assign (a' := ?_) ?_ ?_); rotate_left
   | (with_reducible refine z_obl (v := ?_) (a' := ?_) rfl (fun _ => ?_) ?_ ?_); rotate_left 2; (focus (go_simp; (try go_bits); exact rfl))
   | (with_reducible refine z_read (v := ?_) (a' := ?_) rfl ?_ ?_ ?_); rotate_left 2; (focus (go_simp; (try go_bits); exact rfl)))
  focus (simp only [Act.put, zz1, zz2, zz3, Act.eval, zz4, zz5, zz6, zz7, zz8]; exact rfl)
 refine z_append8 O3.out RI3.out rfl rfl Tryz.underlying23 info8 (by simp [hk, letters]) hsz3 (fun w4 v4 o4 g4 b4 => ?_)
 simp only [Act.put, zz1, zz2, zz3]
 repeat
  (first
   | (with_reducible refine z_move (a' := ?_) ?_ ?_); rotate_left
   | (with_reducible refine z_assign (a' := ?_) ?_ ?_); rotate_left
   | (with_reducible refine z_obl (v := ?_) (a' := ?_) rfl (fun _ => ?_) ?_ ?_); rotate_left 2; (focus (go_simp; (try go_bits); exact rfl))
   | (with_reducible refine z_read (v := ?_) (a' := ?_) rfl ?_ ?_ ?_); rotate_left 2; (focus (go_simp; (try go_bits); exact rfl)))
  focus (simp only [Act.put, zz1, zz2, zz3, Act.eval, zz4, zz5, zz6, zz7, zz8]; exact rfl)
 refine z_nil (hK2 _ _ ?_)
 obtain ⟨ALL, hALL⟩ : ∃ ALL, ALL = letters ++ key ++ inp := ⟨_, rfl⟩
 have hal : ALL.length = 64 := by rw [hALL]; simp [hk, hi, letters]
 rw [← hALL] at o4
 have hsb := HSW.out
 rw [← hALL] at hsb
 have HSB2 := hid hsb
 clear hsb
 obtain ⟨a4, c4, rfl, hr4, _⟩ := o4.rd
 rw [hal] at hr4 ⊢
 obtain ⟨b4', o4', rfl, hb4', _⟩ := hr4.2.2.2 (by omega)
 have R4 := hid (hr4.alloc (.cells (A32 (zeros 32 16)) 180))
 have BS4 := hid ((BZb.out.grown g4 (O3.out.apart hpS)).alloc (.cells (A32 (zeros 32 16)) 180))
 have hB4 := B3.out.trans (b4.mono hgt)
 have B4 := hid (hB4.alloc hB4.size (.cells (A32 (zeros 32 16)) 180))
 have SS4 := hid (Blk.new w4 180 (A32 (zeros 32 16)))
 have hps := (BZb.out.grown g4 (O3.out.apart hpS)).lt
 clear o4 hr4 g4 b4 hK2 hALL hal hsz3 hgt hpS O3 RI3 BZb B3 HSW hB4
 go_wp2_with fail
 generalize w4.alloc (.cells (A32 (zeros 32 16)) 180) = W4 at *
 generalize w4.heap.size = pS at *
 go_loopw [7] (fun i wr => ∃ j : Nat, j ≤ 16 ∧ i = .int .i64 j ∧ Blk wr pS 180 (A32 (fillTo S j)) ∧ Blk wr (w.heap.size + 2) 180 (A32 (zeros 32 16)) ∧ Rd8 wr (some ⟨b4', o4', none⟩) 64 c4 ALL ∧ Below w.heap.size w wr) (fun i _ => 16 - (intOf i).toNat)
 case atStart => exact ⟨0, Nat.zero_le _, rfl, by rw [fillTo_zero]; exact SS4.out, BS4.out, R4.out, B4.out⟩
 case round =>
  obtain ⟨j, hj, rfl, hS, hZ, hR, hB⟩ := hrel
  have S5 := hid hS
  have Z5 := hid hZ
  have R5 := hid hR
  have B5 := hid hB
  clear hS hZ hR hB BS4 R4 B4 SS4
  by_cases hj16 : j < 16
  ·have j0 : (0 : Int) ≤ (j : Int) := by omega
   have j1 : (j : Int) < 16 := by omega
   obtain ⟨J0, hJ0⟩ : ∃ q, q = 4 * j := ⟨_, rfl⟩
   have f1 : (4 : Int) * (j : Int) = (J0 : Int) := by omega
   have f2 : IntKind.i64.wrap (J0 : Int) = (J0 : Int) := by rw [IntKind.wrap_i64]; omega
   have hw := numTo_word ALL J0
   rw [hJ0, HSB2.out j hj16] at hw
   rw [← hJ0] at hw
   have c1 := S5.out.cell32 (fillTo_length S j) j hj16
   have fo := S5.out.frozen j
   have hJb : J0 ≤ 1000000000 := by omega
   clear hJ0
   go_wp2_with fail
   refine (refNumber4_any ALL _ 64 c4 J0 wr R5.out hJb).mono ?_
   rintro e w5 ⟨rfl, rfl⟩
   have kk := S5.out.set_ j (v32 (nth S j))
   rw [A32_set, fillTo_set S j hj16] at kk
   have S6 := hid kk
   have Z6 := hid (Z5.out.far (p := ⟨pS, j, none⟩) (by simp; omega) (v32 (nth S j)))
   have R6 := hid (R5.out.far (g := pS) (j := j) (by omega) (v32 (nth S j)))
   have B6 := hid (B5.out.setCell (p := ⟨pS, j, none⟩) (by simp; omega) (v32 (nth S j)))
   clear kk S5 Z5 R5 B5
   go_wp2
   exact ⟨⟨j + 1, by omega, by go_num, S6.out, Z6.out, R6.out, B6.out⟩, by simp [intOf]; omega⟩
  ·obtain rfl : j = 16 := by omega
   have zz := S5.out
   rw [fillTo_full S HSL.out] at zz
   have r1 := zz.row
   have r2 := Z5.out.row
   have r3 := Z5.out.whole
   have hl := HSL.out
   clear zz
   go_wp2
   refine bodyPost_row (A32 S) rfl rfl rfl (Tryz.isAgg180 _) (Tryz.sizeOf180 _) (by rw [A32_size]; exact hl) (rowAt_setRow _ r3) ⟨rfl, below_setRow B5.out (by omega) _⟩
open Go.RowKit
theorem putR_le32 (x : BitVec 32) : putR (x.setWidth 64) 4 = le32 x := by
 have h : ∀ k, k ≤ 24 → ((x.setWidth 64) >>> k).setWidth 8 = (x >>> k).setWidth 8 := by
  intro k hk
  apply BitVec.eq_of_toNat_eq
  have := x.isLt
  simp only [BitVec.toNat_setWidth, BitVec.toNat_ushiftRight]
  rw [Nat.mod_eq_of_lt (show x.toNat < 2 ^ 64 by omega)]
 show [_, _, _, _] = [_, _, _, _]
 simp only [List.cons.injEq, and_true]
 exact ⟨h 0 (by omega), h 8 (by omega), h 16 (by omega), h 24 (by omega)⟩
theorem sum_nth (S : List (BitVec 32)) (n j : Nat) (hS : S.length = 16) (hj : j < 16) : nth (chsumTo (mixTo S n) S 16) j = nth (mixTo S n) j + nth S j := by
 rw [nth_sumTo _ _ _ (by rw [mixTo_length, hS]; exact hj) 16 (by rw [mixTo_length, hS]; omega), if_pos hj]
theorem bytes_take (l : List (BitVec 32)) (j : Nat) (h : j < l.length) : bytes32 (l.take j) ++ le32 (nth l j) = bytes32 (l.take (j + 1)) := by
 rw [take_succ_nth l j h, bytes32_append]
 refine congrArg _ ?_
 simp [bytes32]
theorem refBlock_any (key inp : List (BitVec 8)) (r : Int) (w : World) (hk : key.length = 32) (hi : inp.length = 16) (hr0 : 0 ≤ r) (hr : r ≤ 20) :
  Calls Tryz.prog 87 #[.agg (A8 key), .agg (A8 inp), .int .i64 r] w fun e w' => ∃ v, e = .returned v ∧ Own8 w' w.heap.size 5 v (blockOf (startTo key inp 4) (r.toNat / 2)) ∧ Below w.heap.size w w' := by
 obtain ⟨W, hW⟩ : ∃ W, (w.alloc (.cells (A8 key) 22)).alloc (.cells (A8 inp) 37) = W := ⟨_, rfl⟩
 obtain ⟨b0, b1, hb, hz⟩ := new2 _ _ _ _ _ _ hW
 have r0 := b0.row
 have r1 := b1.row
 have B := hid hb
 obtain ⟨S, hS⟩ : ∃ S, S = startTo key inp 4 := ⟨_, rfl⟩
 have hSl : S.length = 16 := by rw [hS, startTo_length]
 have hst := fun w => refStart_any key inp w hk hi
 rw [← hS] at hst ⊢
 have HSL := hid hSl
 clear b0 b1 hb hz hS
 go_enter Tryz.func87, Tryz.ntmps87
 go_wp2_with fail
 refine (hst W).mono ?_
 rintro e w1 ⟨rfl, hb1⟩
 have S1 := hid (Blk.new w1 180 (A32 S))
 have hB1 := B.out.trans (hb1.mono B.out.size)
 have B1 := hid (hB1.alloc hB1.size (.cells (A32 S) 180))
 have hlt1 := hB1.size
 clear r0 r1 hW hb1 hB1 B hst
 go_upto_region 2 with fail
 generalize w1.alloc (.cells (A32 S) 180) = W1 at *
 generalize w1.heap.size = pS at *
 have r1 := S1.out.row
 go_wp2_with fail
 refine (refMix_any S r W1 hSl hr0 hr).mono ?_
 rintro e w2 ⟨rfl, hb2⟩
 obtain ⟨T, hT⟩ : ∃ T, T = mixTo S (r.toNat / 2) := ⟨_, rfl⟩
 have hTl : T.length = 16 := by rw [hT, mixTo_length, hSl]
 rw [← hT]
 have HT := hid hT
 have HTL := hid hTl
 have S2 := hid ((S1.out.belowAll hb2).alloc (.cells (A32 T) 180))
 have T2 := hid (Blk.new w2 180 (A32 T))
 have hB2 := B1.out.trans (hb2.mono B1.out.size)
 have B2 := hid (hB2.alloc hB2.size (.cells (A32 T) 180))
 have hST : pS < w2.heap.size := (S1.out.belowAll hb2).lt
 clear r1 hb2 hB2 S1 B1 hT
 go_wp2_with fail
 clear hTl hSl
 generalize w2.alloc (.cells (A32 T) 180) = W2 at *
 generalize w2.heap.size = pT at *
 obtain ⟨U, hU⟩ : ∃ U, U = chsumTo T S 16 := ⟨_, rfl⟩
 have hUl : U.length = 16 := by rw [hU, chsumTo_length, HTL.out]
 have hUn : ∀ j, j < 16 → nth U j = nth T j + nth S j := fun j hj => by rw [hU, HT.out]; exact sum_nth S _ j HSL.out hj
 have HU := hid hU
 have HUL := hid hUl
 have HUN := hid hUn
 clear hU hUl hUn
 go_loopw [9, 10] (fun v i wr => ∃ j : Nat, j ≤ 16 ∧ i = .int .i64 j ∧ Blk wr pS 180 (A32 S) ∧ Blk wr pT 180 (A32 T) ∧ Own8 wr (pT + 1) 5 v (bytes32 (U.take j)) ∧ Below w.heap.size w wr) (fun _ i _ => 16 - (intOf i).toNat)
 case atStart => exact ⟨0, Nat.zero_le _, rfl, S2.out, T2.out, Own8.nil_ _ _ _, B2.out⟩
 case round =>
  obtain ⟨j, hj, rfl, hS, hT, hO, hB⟩ := hrel
  have S3 := hid hS
  have T3 := hid hT
  have O3 := hid hO
  have B3 := hid hB
  clear hS hT hO hB S2 T2 B2
  by_cases hj16 : j < 16
  ·have j0 : (0 : Int) ≤ (j : Int) := by omega
   have j1 : (j : Int) < 16 := by omega
   have c1 := S3.out.drew.cell32 HSL.out j hj16
   have c2 := T3.out.drew.cell32 HTL.out j hj16
   go_upto_region 7 with fail
   refine wp_region_text3' [0,0,0,1,0,0,1,0,0,2,2,0] (by kernel_rfl) (by kernel_rfl) (fun ops' K2 hK2 => ?_)
   repeat
    (first
     | (with_reducible refine z_move (a' := ?_) ?_ ?_); rotate_left
     | (with_reducible refine z_assign (a' := ?_) ?_ ?_); rotate_left
     | (with_reducible refine z_obl (v := ?_) (a' := ?_) rfl (fun _ => ?_) ?_ ?_); rotate_left 2; (focus (go_simp; (try go_bits); exact rfl))
     | (with_reducible refine z_read (v := ?_) (a' := ?_) rfl ?_ ?_ ?_); rotate_left 2; (focus (go_simp; (try go_bits); exact rfl)))
    focus (simp only [Act.put, zz1, zz2, zz3, Act.eval, zz4, zz5, zz6, zz7, zz8]; exact rfl)
   (with_reducible refine z_callw rfl ?_)
   go_simp
   refine entersW_of ?_
   refine (refPut_any ((nth S j + nth T j).setWidth 64) 4 wr.drew (by omega)).mono ?_
   rintro e w3 ⟨v3, rfl, ho3, hb3⟩
   refine ⟨_, rfl, ?_⟩
   try simp only [Act.put, zz1, zz2, zz3]
   rw [putR_le32] at ho3
   obtain ⟨a3, c3, rfl, hr3, _⟩ := ho3.rd
   rw [le32_length] at hr3 ⊢
   refine z_append8 (O3.out.drew.below hb3) hr3 rfl rfl Tryz.underlying23 info8 (by rw [bytes32_length, List.length_take, HUL.out]; omega) (by have h1 : pT < wr.drew.heap.size := T3.out.lt; have h2 := hb3.size; omega) (fun w4 v4 o4 g4 b4 => ?_)
   simp only [Act.put, zz1, zz2, zz3]
   repeat
    (first
     | (with_reducible refine z_move (a' := ?_) ?_ ?_); rotate_left
     | (with_reducible refine z_assign (a' := ?_) ?_ ?_); rotate_left
     | (with_reducible refine z_obl (v := ?_) (a' := ?_) rfl (fun _ => ?_) ?_ ?_); rotate_left 2; (focus (go_simp; (try go_bits); exact rfl))
     | (with_reducible refine z_read (v := ?_) (a' := ?_) rfl ?_ ?_ ?_); rotate_left 2; (focus (go_simp; (try go_bits); exact rfl)))
    focus (simp only [Act.put, zz1, zz2, zz3, Act.eval, zz4, zz5, zz6, zz7, zz8]; exact rfl)
   refine z_nil (hK2 _ _ ?_)
   rw [BitVec.add_comm, ← HUN.out j hj16, bytes_take U j (by rw [HUL.out]; exact hj16)] at o4
   have O4 := hid o4
   have S4 := hid ((S3.out.drew.belowAll hb3).grown g4 ((O3.out.drew.below hb3).apart (by omega)))
   have T4 := hid ((T3.out.drew.belowAll hb3).grown g4 ((O3.out.drew.below hb3).apart (by omega)))
   have d4 := B3.out.drew.trans (hb3.mono B3.out.size)
   have B4 := hid (d4.trans (b4.mono (by omega)))
   clear o4 g4 b4 d4 hb3 hr3 ho3 c1 c2 hK2
   go_wp2
   exact ⟨⟨j + 1, by omega, by go_num, S4.out, T4.out, O4.out, B4.out⟩, by simp [intOf]; omega⟩
  ·obtain rfl : j = 16 := by omega
   have hO := O3.out
   rw [List.take_of_length_le (by rw [HUL.out]; omega)] at hO
   have hfin : bytes32 U = blockOf S (r.toNat / 2) := by rw [HU.out, HT.out]; rfl
   rw [hfin] at hO
   have O4 := hid (hO.base (show w.heap.size ≤ pT + 1 by omega))
   clear hO hfin O3
   go_wp2
   go_ret
   exact ⟨_, rfl, O4.out, B3.out⟩
open Go.RowKit
def shortTo (T : List (BitVec 32)) (j : Nat) : List (BitVec 8) := bytes32 ((T.take j).take 4) ++ bytes32 ((T.take j).drop 12)
theorem shortTo_full (T : List (BitVec 32)) (h : T.length = 16) : shortTo T 16 = shortOf T := by
 have e : T.take 16 = T := List.take_of_length_le (by omega)
 rw [shortTo, e]; rfl
theorem shortTo_low (T : List (BitVec 32)) (j : Nat) (h : j < T.length) (hj : j < 4) : shortTo T j ++ le32 (nth T j) = shortTo T (j + 1) := by
 have e : ∀ k, k ≤ 4 → shortTo T k = bytes32 (T.take k) := by
  intro k hk
  rw [shortTo, List.take_of_length_le (by rw [List.length_take]; omega), List.drop_of_length_le (by rw [List.length_take]; omega)]
  simp [bytes32]
 rw [e j (by omega), e (j + 1) (by omega), bytes_take T j h]
theorem shortTo_mid (T : List (BitVec 32)) (j : Nat) (hj : 4 ≤ j) (hj2 : j < 12) : shortTo T (j + 1) = shortTo T j := by
 rw [shortTo, shortTo, List.take_take, List.take_take, List.drop_of_length_le (by rw [List.length_take]; omega), List.drop_of_length_le (by rw [List.length_take]; omega), show min 4 (j + 1) = min 4 j by omega]
theorem shortTo_high (T : List (BitVec 32)) (j : Nat) (h : j < T.length) (hj : 12 ≤ j) : shortTo T j ++ le32 (nth T j) = shortTo T (j + 1) := by
 rw [shortTo, shortTo, List.take_take, List.take_take, show min 4 (j + 1) = min 4 j by omega, List.append_assoc, take_succ_nth T j h, List.drop_append_of_le_length (by rw [List.length_take]; omega), bytes32_append]
 refine congrArg _ (congrArg _ ?_)
 simp [bytes32]
theorem shortTo_length (T : List (BitVec 32)) (j : Nat) : (shortTo T j).length ≤ 4 * T.length + 64 := by
 rw [shortTo, List.length_append, bytes32_length, bytes32_length, List.length_take, List.length_take, List.length_drop, List.length_take]
 omega
def fill8 (m : Nat) (l : List (BitVec 8)) (j : Nat) : List (BitVec 8) := (List.range m).map fun i => if i < j then nth l i else 0
theorem fill8_length (m : Nat) (l : List (BitVec 8)) (j : Nat) : (fill8 m l j).length = m := by simp [fill8]
theorem nth_fill8 (m : Nat) (l : List (BitVec 8)) (j i : Nat) (hi : i < m) : nth (fill8 m l j) i = if i < j then nth l i else 0 := by
 simp [nth, fill8, List.getD_eq_getElem?_getD, hi]
theorem fill8_zero (m : Nat) (l : List (BitVec 8)) : fill8 m l 0 = zeros 8 m := by
 apply ext_nth
 ·simp [fill8_length, zeros]
 ·intro i hi
  rw [fill8_length] at hi
  rw [nth_fill8 _ _ _ _ hi, nth_zeros]; simp
theorem fill8_set (m : Nat) (l : List (BitVec 8)) (j : Nat) (hj : j < m) : (fill8 m l j).set j (nth l j) = fill8 m l (j + 1) := by
 apply ext_nth
 ·simp [fill8_length]
 ·intro i hi
  rw [List.length_set, fill8_length] at hi
  rw [nth_set _ _ _ _ (by rw [fill8_length]; exact hj), nth_fill8 _ _ _ _ hi, nth_fill8 _ _ _ _ hi]
  by_cases h : j = i
  ·subst h; simp
  ·by_cases h2 : i < j
   ·rw [if_neg h, if_pos h2, if_pos (by omega)]
   ·rw [if_neg h, if_neg h2, if_neg (by omega)]
theorem fill8_full (m : Nat) (l : List (BitVec 8)) (h : l.length = m) : fill8 m l m = l := by
 apply ext_nth
 ·rw [fill8_length, h]
 ·intro i hi
  rw [fill8_length] at hi
  rw [nth_fill8 _ _ _ _ hi, if_pos hi]
theorem Own8.far8 {w : World} {B g cap b j : Nat} {e : TypeId} {l : List (BitVec 8)} (h : Own8 w B e (.slice (some ⟨g, 0, none⟩) l.length cap) l) (hb : g ≠ b) (v : Value) : Own8 (w.setCell ⟨b, j, none⟩ v) B e (.slice (some ⟨g, 0, none⟩) l.length cap) l :=
 ownsRow_setCell_other h (by simp [Value.ownBlock, hb]) v
theorem refShort_any (key inp : List (BitVec 8)) (r : Int) (w : World) (hk : key.length = 32) (hi : inp.length = 16) (hr0 : 0 ≤ r) (hr : r ≤ 20) :
  Calls Tryz.prog 85 #[.agg (A8 key), .agg (A8 inp), .int .i64 r] w fun e w' => e = .returned (.agg (A8 (shortOf (mixTo (startTo key inp 4) (r.toNat / 2))))) ∧ Below w.heap.size w w' := by
 obtain ⟨W, hW⟩ : ∃ W, ((w.alloc (.cells (A8 key) 22)).alloc (.cells (A8 inp) 37)).alloc (.cells (A8 (zeros 8 32)) 22) = W := ⟨_, rfl⟩
 obtain ⟨b0, b1, b2, hb, hz⟩ := new3 _ _ _ _ _ _ _ _ hW
 have r0 := b0.row
 have r1 := b1.row
 have Z0 := hid b2
 have B := hid hb
 obtain ⟨S, hS⟩ : ∃ S, S = startTo key inp 4 := ⟨_, rfl⟩
 have hSl : S.length = 16 := by rw [hS, startTo_length]
 have hst := fun w => refStart_any key inp w hk hi
 rw [← hS] at hst ⊢
 clear b0 b1 b2 hb hz hS
 go_enter Tryz.func85, Tryz.ntmps85
 go_wp2_with fail
 refine (hst W).mono ?_
 rintro e w1 ⟨rfl, hb1⟩
 have hB1 := B.out.trans (hb1.mono B.out.size)
 have B1 := hid hB1
 have Z1 := hid (Z0.out.belowAll hb1)
 clear r0 r1 hW hb1 hB1 B Z0 hst
 go_wp2_with fail
 refine (refMix_any S r w1 hSl hr0 hr).mono ?_
 rintro e w2 ⟨rfl, hb2⟩
 obtain ⟨T, hT⟩ : ∃ T, T = mixTo S (r.toNat / 2) := ⟨_, rfl⟩
 have hTl : T.length = 16 := by rw [hT, mixTo_length, hSl]
 rw [← hT]
 have HTL := hid hTl
 have HT := hid hT
 have Z2 := hid ((Z1.out.belowAll hb2).alloc (.cells (A32 T) 180))
 have T2 := hid (Blk.new w2 180 (A32 T))
 have hB2 := B1.out.trans (hb2.mono B1.out.size)
 have B2 := hid (hB2.alloc hB2.size (.cells (A32 T) 180))
 have hST : w.heap.size + 2 < w2.heap.size := (Z1.out.belowAll hb2).lt
 clear hb2 hB2 Z1 B1 hT
 go_wp2_with fail
 clear hTl hSl
 generalize w2.alloc (.cells (A32 T) 180) = W2 at *
 generalize w2.heap.size = pT at *
 go_loopw [8, 9] (fun v i wr => ∃ j : Nat, j ≤ 16 ∧ i = .int .i64 j ∧ Blk wr (w.heap.size + 2) 22 (A8 (zeros 8 32)) ∧ Blk wr pT 180 (A32 T) ∧ Own8 wr (pT + 1) 5 v (shortTo T j) ∧ Below w.heap.size w wr) (fun _ i _ => 16 - (intOf i).toNat)
 case atStart => exact ⟨0, Nat.zero_le _, rfl, Z2.out, T2.out, Own8.nil_ _ _ _, B2.out⟩
 case round =>
  obtain ⟨j, hj, rfl, hZ, hT, hO, hB⟩ := hrel
  have Z3 := hid hZ
  have T3 := hid hT
  have O3 := hid hO
  have B3 := hid hB
  clear hZ hT hO hB Z2 T2 B2
  by_cases hj16 : j < 16
  ·have j0 : (0 : Int) ≤ (j : Int) := by omega
   have j1 : (j : Int) < 16 := by omega
   have c2 := T3.out.cell32 HTL.out j hj16
   by_cases hj4 : (j : Int) < 4
   rotate_left
   by_cases hj12 : (12 : Int) ≤ (j : Int)
   ·go_upto_region 7 with fail
    refine wp_region_plain2 [0,0,0,1,0,2,2,0] rfl (fun K2 hK2 => ?_)
    repeat
     (first
      | (with_reducible refine z_move (a' := ?_) ?_ ?_); rotate_left
      | (with_reducible refine z_assign (a' := ?_) ?_ ?_); rotate_left
      | (with_reducible refine z_obl (v := ?_) (a' := ?_) rfl (fun _ => ?_) ?_ ?_); rotate_left 2; (focus (go_simp; (try go_bits); exact rfl))
      | (with_reducible refine z_read (v := ?_) (a' := ?_) rfl ?_ ?_ ?_); rotate_left 2; (focus (go_simp; (try go_bits); exact rfl))
      | (with_reducible refine z_oblG (v := ?_) (a' := ?_) ?_ (fun _ => ?_) ?_ ?_); rotate_left 2; (focus (exact rfl)); (focus (go_simp; (try go_bits); exact rfl))
      | (with_reducible refine z_readG (v := ?_) (a' := ?_) ?_ ?_ ?_ ?_); rotate_left 2; (focus (exact rfl)); (focus (go_simp; (try go_bits); exact rfl)))
     focus (simp only [Act.put, zz1, zz2, zz3, Act.eval, zz4, zz5, zz6, zz7, zz8]; exact rfl)
    (with_reducible refine z_callwG ?_ ?_)
    ·exact rfl
    go_simp
    refine entersW_of ?_
    refine (refPut_any ((nth T j).setWidth 64) 4 wr (by omega)).mono ?_
    rintro e w3 ⟨v3, rfl, ho3, hb3⟩
    refine ⟨_, rfl, ?_⟩
    try simp only [Act.put, zz1, zz2, zz3]
    rw [putR_le32] at ho3
    obtain ⟨a3, c3, rfl, hr3, _⟩ := ho3.rd
    rw [le32_length] at hr3 ⊢
    refine z_append8 (O3.out.below hb3) hr3 rfl rfl Tryz.underlying23 info8 (by have := shortTo_length T j; rw [HTL.out] at this; omega) (by have h1 : pT < wr.heap.size := T3.out.lt; have h2 := hb3.size; omega) (fun w4 v4 o4 g4 b4 => ?_)
    simp only [Act.put, zz1, zz2, zz3]
    repeat
     (first
      | (with_reducible refine z_move (a' := ?_) ?_ ?_); rotate_left
      | (with_reducible refine z_assign (a' := ?_) ?_ ?_); rotate_left
      | (with_reducible refine z_obl (v := ?_) (a' := ?_) rfl (fun _ => ?_) ?_ ?_); rotate_left 2; (focus (go_simp; (try go_bits); exact rfl))
      | (with_reducible refine z_read (v := ?_) (a' := ?_) rfl ?_ ?_ ?_); rotate_left 2; (focus (go_simp; (try go_bits); exact rfl))
      | (with_reducible refine z_oblG (v := ?_) (a' := ?_) ?_ (fun _ => ?_) ?_ ?_); rotate_left 2; (focus (exact rfl)); (focus (go_simp; (try go_bits); exact rfl))
      | (with_reducible refine z_readG (v := ?_) (a' := ?_) ?_ ?_ ?_ ?_); rotate_left 2; (focus (exact rfl)); (focus (go_simp; (try go_bits); exact rfl)))
     focus (simp only [Act.put, zz1, zz2, zz3, Act.eval, zz4, zz5, zz6, zz7, zz8]; exact rfl)
    refine z_nil (hK2 _ _ ?_)
    rw [shortTo_high T j (by rw [HTL.out]; exact hj16) (by omega)] at o4
    have O4 := hid o4
    have Z4 := hid ((Z3.out.belowAll hb3).grown g4 ((O3.out.below hb3).apart (by omega)))
    have T4 := hid ((T3.out.belowAll hb3).grown g4 ((O3.out.below hb3).apart (by omega)))
    have d4 := B3.out.trans (hb3.mono B3.out.size)
    have B4 := hid (d4.trans (b4.mono (by omega)))
    clear o4 g4 b4 d4 hb3 hr3 ho3 c2 hK2
    go_wp2
    exact ⟨⟨j + 1, by omega, by go_num, Z4.out, T4.out, O4.out, B4.out⟩, by simp [intOf]; omega⟩
   ·have o4 := O3.out
    rw [← shortTo_mid T j (by omega) (by omega)] at o4
    have O4 := hid o4
    clear o4 c2
    go_wp2
    exact ⟨⟨j + 1, by omega, by go_num, Z3.out, T3.out, O4.out, B3.out⟩, by simp [intOf]; omega⟩
   ·go_upto_region 7 with fail
    refine wp_region_plain2 [0,0,0,1,0,2,2,0] rfl (fun K2 hK2 => ?_)
    repeat
     (first
      | (with_reducible refine z_move (a' := ?_) ?_ ?_); rotate_left
      | (with_reducible refine z_assign (a' := ?_) ?_ ?_); rotate_left
      | (with_reducible refine z_obl (v := ?_) (a' := ?_) rfl (fun _ => ?_) ?_ ?_); rotate_left 2; (focus (go_simp; (try go_bits); exact rfl))
      | (with_reducible refine z_read (v := ?_) (a' := ?_) rfl ?_ ?_ ?_); rotate_left 2; (focus (go_simp; (try go_bits); exact rfl))
      | (with_reducible refine z_oblG (v := ?_) (a' := ?_) ?_ (fun _ => ?_) ?_ ?_); rotate_left 2; (focus (exact rfl)); (focus (go_simp; (try go_bits); exact rfl))
      | (with_reducible refine z_readG (v := ?_) (a' := ?_) ?_ ?_ ?_ ?_); rotate_left 2; (focus (exact rfl)); (focus (go_simp; (try go_bits); exact rfl)))
     focus (simp only [Act.put, zz1, zz2, zz3, Act.eval, zz4, zz5, zz6, zz7, zz8]; exact rfl)
    (with_reducible refine z_callwG ?_ ?_)
    ·exact rfl
    go_simp
    refine entersW_of ?_
    refine (refPut_any ((nth T j).setWidth 64) 4 wr (by omega)).mono ?_
    rintro e w3 ⟨v3, rfl, ho3, hb3⟩
    refine ⟨_, rfl, ?_⟩
    try simp only [Act.put, zz1, zz2, zz3]
    rw [putR_le32] at ho3
    obtain ⟨a3, c3, rfl, hr3, _⟩ := ho3.rd
    rw [le32_length] at hr3 ⊢
    refine z_append8 (O3.out.below hb3) hr3 rfl rfl Tryz.underlying23 info8 (by have := shortTo_length T j; rw [HTL.out] at this; omega) (by have h1 : pT < wr.heap.size := T3.out.lt; have h2 := hb3.size; omega) (fun w4 v4 o4 g4 b4 => ?_)
    simp only [Act.put, zz1, zz2, zz3]
    repeat
     (first
      | (with_reducible refine z_move (a' := ?_) ?_ ?_); rotate_left
      | (with_reducible refine z_assign (a' := ?_) ?_ ?_); rotate_left
      | (with_reducible refine z_obl (v := ?_) (a' := ?_) rfl (fun _ => ?_) ?_ ?_); rotate_left 2; (focus (go_simp; (try go_bits); exact rfl))
      | (with_reducible refine z_read (v := ?_) (a' := ?_) rfl ?_ ?_ ?_); rotate_left 2; (focus (go_simp; (try go_bits); exact rfl))
      | (with_reducible refine z_oblG (v := ?_) (a' := ?_) ?_ (fun _ => ?_) ?_ ?_); rotate_left 2; (focus (exact rfl)); (focus (go_simp; (try go_bits); exact rfl))
      | (with_reducible refine z_readG (v := ?_) (a' := ?_) ?_ ?_ ?_ ?_); rotate_left 2; (focus (exact rfl)); (focus (go_simp; (try go_bits); exact rfl)))
     focus (simp only [Act.put, zz1, zz2, zz3, Act.eval, zz4, zz5, zz6, zz7, zz8]; exact rfl)
    refine z_nil (hK2 _ _ ?_)
    rw [shortTo_low T j (by rw [HTL.out]; exact hj16) (by omega)] at o4
    have O4 := hid o4
    have Z4 := hid ((Z3.out.belowAll hb3).grown g4 ((O3.out.below hb3).apart (by omega)))
    have T4 := hid ((T3.out.belowAll hb3).grown g4 ((O3.out.below hb3).apart (by omega)))
    have d4 := B3.out.trans (hb3.mono B3.out.size)
    have B4 := hid (d4.trans (b4.mono (by omega)))
    clear o4 g4 b4 d4 hb3 hr3 ho3 c2 hK2
    go_wp2
    exact ⟨⟨j + 1, by omega, by go_num, Z4.out, T4.out, O4.out, B4.out⟩, by simp [intOf]; omega⟩
  ·obtain rfl : j = 16 := by omega
   have hO := O3.out
   rw [shortTo_full T HTL.out] at hO
   obtain ⟨U, hU⟩ : ∃ U, U = shortOf T := ⟨_, rfl⟩
   have hUl : U.length = 32 := by rw [hU, shortOf_length T HTL.out]
   rw [← hU] at hO
   obtain ⟨g4, c4, rfl, hg4, hlt4⟩ := hO.form (by omega)
   have O4 := hid hO
   have UL := hid hUl
   have HU := hid hU
   clear hO O3 hU
   have hbt : pT + 1 ≤ g4 := hg4
   have Z4 := Z3.out
   have B4 := B3.out
   go_upto_region 9 with fail
   have O5 := hid (O4.out.alloc (.cells (A8 (zeros 8 32)) 22))
   have Z5 := hid (Z4.alloc (.cells (A8 (zeros 8 32)) 22))
   have B5 := hid (B4.alloc B4.size (.cells (A8 (zeros 8 32)) 22))
   have N5 := hid (Blk.new wr 22 (A8 (zeros 8 32)))
   have hz : w.heap.size + 2 < wr.heap.size := Z4.lt
   clear Z4 B4 O4 Z3 B3 T3
   generalize wr.alloc (.cells (A8 (zeros 8 32)) 22) = w5 at *
   generalize wr.heap.size = pO at *
   go_wp2_with fail
   go_loopw [11] (fun i wx => ∃ j : Nat, j ≤ 32 ∧ i = .int .i64 j ∧ Blk wx (w.heap.size + 2) 22 (A8 (zeros 8 32)) ∧ Blk wx pO 22 (A8 (fill8 32 U j)) ∧ Own8 wx (pT + 1) 5 (.slice (some ⟨g4, 0, none⟩) U.length c4) U ∧ Below w.heap.size w wx) (fun i _ => 32 - (intOf i).toNat)
   case atStart => exact ⟨0, Nat.zero_le _, rfl, Z5.out, by rw [fill8_zero]; exact N5.out, O5.out, B5.out⟩
   case round =>
    obtain ⟨j, hj, rfl, hZ, hN, hO, hB⟩ := hrel
    have Z6 := hid hZ
    have N6 := hid hN
    have O6 := hid hO
    have B6 := hid hB
    clear hZ hN hO hB Z5 N5 O5 B5
    by_cases hj16 : j < 32
    ·have j0 : (0 : Int) ≤ (j : Int) := by omega
     have j1 : (j : Int) < 32 := by omega
     have c1 := N6.out.cell8 (fill8_length 32 U j) j hj16
     have fo := N6.out.frozen j
     have c2 := O6.out.cell j (by rw [UL.out]; exact hj16)
     have hll : U.length = 32 := UL.out
     have kk := N6.out.set_ j (v8 (nth U j))
     rw [A8_set, fill8_set 32 U j hj16] at kk
     have N7 := hid kk
     have Z7 := hid (Z6.out.far (p := ⟨pO, j, none⟩) (by simp; omega) (v8 (nth U j)))
     have B7 := hid (B6.out.setCell (p := ⟨pO, j, none⟩) (by simp; omega) (v8 (nth U j)))
     have O7 := hid (O6.out.far8 (j := j) (show g4 ≠ pO by omega) (v8 (nth U j)))
     clear kk N6 Z6 B6 O6
     go_wp2
     exact ⟨⟨j + 1, by omega, by go_num, Z7.out, N7.out, O7.out, B7.out⟩, by simp [intOf]; omega⟩
    ·obtain rfl : j = 32 := by omega
     have zz := N6.out
     rw [fill8_full 32 U UL.out] at zz
     have r1 := zz.row
     have r2 := Z6.out.row
     have r3 := Z6.out.whole
     have hl := UL.out
     clear zz
     go_wp2
     rw [← HT.out, ← HU.out]
     refine bodyPost_row (A8 U) rfl rfl rfl (Tryz.isAgg22 _) (Tryz.sizeOf22 _) (by rw [A8_size]; exact hl) (rowAt_setRow _ r3) ⟨rfl, below_setRow B6.out (by omega) _⟩
open Go.RowKit
theorem putR_le64 (x : BitVec 64) : putR x 8 = le64 x := by
 show [_, _, _, _, _, _, _, _] = [_, _, _, _, _, _, _, _]
 simp
theorem numbered_length (own nonce : List (BitVec 8)) (n m : Nat) : (numbered own nonce n m).length = 64 := by
 rw [numbered, blockOf_length _ _ (startTo_length _ _ _)]
theorem blk_same (l : List (BitVec 8)) (h : l.length = 16) : blk l = l := by
 unfold blk
 rw [List.take_of_length_le (by omega), splc_full _ _ (by simp [h])]
theorem refCrypt_any (key nonce l : List (BitVec 8)) (r : Int) (a : Option Addr) (n c : Nat) (w : World) (hk : key.length = 32) (hn : nonce.length = 24) (hr0 : 0 ≤ r) (hr20 : r ≤ 20) (hr : Rd8 w a n c l) (hsz : n ≤ 2000) :
  Calls Tryz.prog 48 #[.agg (A8 key), .agg (A8 nonce), .int .i64 r, .slice a n c] w fun e w' => ∃ v, e = .returned v ∧ Own8 w' w.heap.size 5 v (cryptOf key nonce r.toNat l) ∧ Below w.heap.size w w' := by
 obtain ⟨W, hW⟩ : ∃ W, (w.alloc (.cells (A8 key) 22)).alloc (.cells (A8 nonce) 88) = W := ⟨_, rfl⟩
 obtain ⟨b0, b1, hb, hz⟩ := new2 _ _ _ _ _ _ hW
 have HR := hid hr
 obtain ⟨OUT, hOUT⟩ : ∃ OUT, OUT = cryptOf key nonce r.toNat l := ⟨_, rfl⟩
 rw [← hOUT]
 have HU := hid hOUT
 clear hOUT
 go_enter Tryz.func48, Tryz.ntmps48
 go_upto_region 1 with fail
 clear hW
 refine wp_region_made [1,0,1,0,1,9] [2] [(5, .cells (A8 (zeros 8 32)) 22)] (by kernel_rfl) (by kernel_rfl) (by kernel_rfl) (by kernel_rfl) ?_ (fun C hC0 hCb hCn K' hK' => ?_)
 ·intro p hp o ho
  simp only [List.mem_singleton] at hp
  subst hp
  simp at ho
  subst ho
  exact ⟨rfl, fun a w => by go_simp⟩
 have R0 : ∀ w1, C w1 → rowAt w1 w.heap.size = A8 key := fun w1 h => (b0.drew.belowAll (hCb w1 h)).row
 have R1 : ∀ w1, C w1 → Rd8 w1 (some ⟨w.heap.size + 1, 0, none⟩) 16 24 (nonce.take 16) := fun w1 h => by
  have rn := ((b1.drew.belowAll (hCb w1 h)).rd8 24 (by omega) (by rw [hn]; unfold maxLen; omega)).pre (j := 16) (by omega)
  rw [List.take_take, hn] at rn
  exact rn
 repeat
  first
   | (with_reducible refine y_made ?_)
   | ((with_reducible refine y_obl (v := ?_) (a' := ?_) ?_ (fun _ => ?_) ?_ ?_); rotate_left; rotate_left; (focus (exact rfl)); (focus (go_simp; (try go_bits); exact rfl)); (focus (simp only [Act.put, zz1, zz2, zz3, Act.eval, zz4, zz5, zz6, zz7, zz8]; exact rfl)))
   | ((with_reducible refine y_read (v := ?_) (a' := ?_) ?_ (fun _ hcw => ?_) ?_ ?_); rotate_left; rotate_left; (focus (exact rfl)); (focus (have f := R0 _ hcw; go_simp; (try go_bits); exact rfl)); (focus (simp only [Act.put, zz1, zz2, zz3, Act.eval, zz4, zz5, zz6, zz7, zz8]; exact rfl)))
   | ((with_reducible refine y_skip (a' := ?_) ?_ ?_ ?_); rotate_left; (focus (exact rfl)); (focus (simp only [Act.put, zz1, zz2, zz3, Act.eval, zz4, zz5, zz6, zz7, zz8]; exact rfl)))
   | ((with_reducible refine y_skip1 (a' := ?_) ?_ ?_ ?_); rotate_left; (focus (exact rfl)); (focus (simp only [Act.put, zz1, zz2, zz3, Act.eval, zz4, zz5, zz6, zz7, zz8]; exact rfl)))
 ((with_reducible refine y_call (v := ?_) (a' := ?_) ?_ (fun wq hcw => ?_) ?_ ?_); rotate_left; rotate_left)
 ·exact rfl
 ·go_simp
  refine entersB_of ?_
  exact refBlock16_any (nonce.take 16) _ 16 24 _ (R1 _ hcw) (by omega)
 ·(simp only [Act.put, zz1, zz2, zz3, Act.eval, zz4, zz5, zz6, zz7, zz8]; exact rfl)
 have hbk : blk (nonce.take 16) = nonce.take 16 := blk_same _ (by simp [hn])
 rw [hbk]
 repeat
  first
   | (with_reducible refine y_made ?_)
   | ((with_reducible refine y_obl (v := ?_) (a' := ?_) ?_ (fun _ => ?_) ?_ ?_); rotate_left; rotate_left; (focus (exact rfl)); (focus (go_simp; (try go_bits); exact rfl)); (focus (simp only [Act.put, zz1, zz2, zz3, Act.eval, zz4, zz5, zz6, zz7, zz8]; exact rfl)))
   | ((with_reducible refine y_read (v := ?_) (a' := ?_) ?_ (fun _ hcw => ?_) ?_ ?_); rotate_left; rotate_left; (focus (exact rfl)); (focus (have f := R0 _ hcw; go_simp; (try go_bits); exact rfl)); (focus (simp only [Act.put, zz1, zz2, zz3, Act.eval, zz4, zz5, zz6, zz7, zz8]; exact rfl)))
   | ((with_reducible refine y_skip (a' := ?_) ?_ ?_ ?_); rotate_left; (focus (exact rfl)); (focus (simp only [Act.put, zz1, zz2, zz3, Act.eval, zz4, zz5, zz6, zz7, zz8]; exact rfl)))
   | ((with_reducible refine y_skip1 (a' := ?_) ?_ ?_ ?_); rotate_left; (focus (exact rfl)); (focus (simp only [Act.put, zz1, zz2, zz3, Act.eval, zz4, zz5, zz6, zz7, zz8]; exact rfl)))
 ((with_reducible refine y_call (v := ?_) (a' := ?_) ?_ (fun wq hcw => ?_) ?_ ?_); rotate_left; rotate_left)
 ·exact rfl
 ·go_simp
  refine entersB_of ?_
  exact refShort_any key (nonce.take 16) r _ hk (by simp [hn]) hr0 hr20
 ·(simp only [Act.put, zz1, zz2, zz3, Act.eval, zz4, zz5, zz6, zz7, zz8]; exact rfl)
 repeat
  first
   | (with_reducible refine y_made ?_)
   | ((with_reducible refine y_obl (v := ?_) (a' := ?_) ?_ (fun _ => ?_) ?_ ?_); rotate_left; rotate_left; (focus (exact rfl)); (focus (go_simp; (try go_bits); exact rfl)); (focus (simp only [Act.put, zz1, zz2, zz3, Act.eval, zz4, zz5, zz6, zz7, zz8]; exact rfl)))
   | ((with_reducible refine y_read (v := ?_) (a' := ?_) ?_ (fun _ hcw => ?_) ?_ ?_); rotate_left; rotate_left; (focus (exact rfl)); (focus (have f := R0 _ hcw; go_simp; (try go_bits); exact rfl)); (focus (simp only [Act.put, zz1, zz2, zz3, Act.eval, zz4, zz5, zz6, zz7, zz8]; exact rfl)))
   | ((with_reducible refine y_skip (a' := ?_) ?_ ?_ ?_); rotate_left; (focus (exact rfl)); (focus (simp only [Act.put, zz1, zz2, zz3, Act.eval, zz4, zz5, zz6, zz7, zz8]; exact rfl)))
   | ((with_reducible refine y_skip1 (a' := ?_) ?_ ?_ ?_); rotate_left; (focus (exact rfl)); (focus (simp only [Act.put, zz1, zz2, zz3, Act.eval, zz4, zz5, zz6, zz7, zz8]; exact rfl)))
 refine y_nil (fin_one fun g w1 hgW hcw hg => ?_)
 simp only [Act.put, zz1, zz2, zz3, zz6, zz7, Option.bind_some]
 have hg' : Blk w1 g 22 (A8 (zeros 8 32)) := hg
 obtain ⟨own, hown⟩ : ∃ own, own = ownOf key nonce (r.toNat / 2) := ⟨_, rfl⟩
 have hol : own.length = 32 := by rw [hown]; exact shortOf_length _ (by rw [mixTo_length, startTo_length])
 rw [show shortOf (mixTo (startTo key (List.take 16 nonce) 4) (r.toNat / 2)) = own from hown.symm]
 refine z_storeRow hg' rfl rfl (by rw [A8_size, A8_size, hol, zeros_length]) (A8_ones _) (by rw [A8_size, hol]; exact Tryz.sizeOf22 _) (fun w2 hb2 hg2 hs2 => ?_)
 refine z_nil (hK' _ _ ?_)
 have c1 := hCb w1 hcw
 have n0 := (b1.drew.belowAll c1).grown hg2 (by simp; omega)
 have hB2 : Below w.heap.size w w2 := (hb.drew.trans (c1.mono (by simp; omega))).trans (grown_below hg2 (by omega) (by have := hb.size; have := c1.size; simp at this; omega))
 have G2 := hid hb2
 have N2 := hid n0
 have B2 := hid hB2
 have hgl : w.heap.size + 1 < g := by omega
 have hgz := hb2.lt
 have HO := hid hown
 have HL := hid hol
 clear hC0 hCb hCn R0 R1 hg hg' hg2 hs2 c1 b0 b1 hcw hb hb2 n0 hB2 hown hol hbk
 have hln := hr.1
 clear hr
 go_wp2_with fail
 have hOUT := HU.out
 have hOl : OUT.length = n := by rw [hOUT, cryptOf, streamOf_length]; exact hln
 have hON : ∀ j, j < n → nth OUT j = nth l j ^^^ nth (numbered own nonce (r.toNat / 2) (j / 64)) (j % 64) := fun j hj => by
  rw [hOUT, HO.out, cryptOf, nth_streamOf _ _ _ (by omega)]
 have OL := hid hOl
 have ON := hid hON
 clear hOUT hOl hON
 go_loopw [10, 11, 12] (fun v bv i wr => ∃ j : Nat, j ≤ n ∧ i = .int .i64 j ∧ Blk wr (w.heap.size + 1) 88 (A8 nonce) ∧ Blk wr g 22 (A8 own) ∧ Own8 wr (g + 1) 5 v (OUT.take j) ∧ (j % 64 ≠ 0 → Own8 wr (g + 1) 5 bv (numbered own nonce (r.toNat / 2) (j / 64)) ∧ ∀ k, v.ownBlock = some k → bv.ownBlock ≠ some k) ∧ Below w.heap.size w wr) (fun _ _ i _ => n - (intOf i).toNat)
 case atStart => exact ⟨0, Nat.zero_le _, rfl, N2.out, G2.out, Own8.nil_ _ _ _, fun h => absurd rfl h, B2.out⟩
 case round =>
  obtain ⟨j, hj, rfl, hN, hG, hO, hV, hB⟩ := hrel
  have N3 := hid hN
  have G3 := hid hG
  have O3 := hid hO
  have V3 := hid hV
  have B3 := hid hB
  clear hN hG hO hV hB N2 G2 B2
  by_cases hjn : j < n
  ·have j0 : (0 : Int) ≤ (j : Int) := by omega
   have j1 : (j : Int) < n := by omega
   obtain ⟨Q, hQ⟩ : ∃ Q, Q = j / 64 := ⟨_, rfl⟩
   have q1 : (j : Int) / 64 = (Q : Int) := by omega
   have HQ := hid hQ
   clear hQ
   by_cases hm : (j : Int) % 64 = 0
   ·go_upto_region 7 with fail
    refine wp_region_text3' [0,0,0,2,0,2,0] (by kernel_rfl) (by kernel_rfl) (fun ops' K2 hK2 => ?_)
    repeat
     (first
      | (with_reducible refine z_move (a' := ?_) ?_ ?_); rotate_left
      | (with_reducible refine z_assign (a' := ?_) ?_ ?_); rotate_left
      | (with_reducible refine z_obl (v := ?_) (a' := ?_) rfl (fun _ => ?_) ?_ ?_); rotate_left 2; (focus (go_simp; (try go_bits); exact rfl))
      | (with_reducible refine z_read (v := ?_) (a' := ?_) rfl ?_ ?_ ?_); rotate_left 2; (focus (go_simp; (try go_bits); exact rfl)))
     focus (simp only [Act.put, zz1, zz2, zz3, Act.eval, zz4, zz5, zz6, zz7, zz8]; exact rfl)
    (with_reducible refine z_callw rfl ?_)
    go_simp
    refine entersW_of ?_
    refine (refPut_any (BitVec.ofNat 64 Q) 8 wr.drew (by omega)).mono ?_
    rintro e w3 ⟨v3, rfl, ho3, hb3⟩
    refine ⟨_, rfl, ?_⟩
    try simp only [Act.put, zz1, zz2, zz3]
    rw [putR_le64] at ho3
    repeat
     (first
      | (with_reducible refine z_move (a' := ?_) ?_ ?_); rotate_left
      | (with_reducible refine z_assign (a' := ?_) ?_ ?_); rotate_left
      | (with_reducible refine z_obl (v := ?_) (a' := ?_) rfl (fun _ => ?_) ?_ ?_); rotate_left 2; (focus (go_simp; (try go_bits); exact rfl))
      | (with_reducible refine z_read (v := ?_) (a' := ?_) rfl ?_ ?_ ?_); rotate_left 2; (focus (go_simp; (try go_bits); exact rfl)))
     focus (simp only [Act.put, zz1, zz2, zz3, Act.eval, zz4, zz5, zz6, zz7, zz8]; exact rfl)
    have rn := ((N3.out.drew.belowAll hb3).rd8 24 (by omega) (by rw [hn]; unfold maxLen; omega)).cut (j := 16) (k := 24) (by omega) (by omega)
    rw [hn, if_neg (by omega)] at rn
    have rn2 : Rd8 w3 (some ⟨w.heap.size + 1, 16, none⟩) 8 8 (nonce.drop 16) := by
     rw [List.take_of_length_le (l := nonce) (by omega), List.take_of_length_le (l := nonce) (by omega)] at rn
     exact rn
    refine z_append8 ho3 rn2 rfl rfl Tryz.underlying23 info8 (by simp) hb3.size (fun w4 v4 o4 g4 b4 => ?_)
    simp only [Act.put, zz1, zz2, zz3]
    repeat
     (first
      | (with_reducible refine z_move (a' := ?_) ?_ ?_); rotate_left
      | (with_reducible refine z_assign (a' := ?_) ?_ ?_); rotate_left
      | (with_reducible refine z_obl (v := ?_) (a' := ?_) rfl (fun _ => ?_) ?_ ?_); rotate_left 2; (focus (go_simp; (try go_bits); exact rfl))
      | (with_reducible refine z_read (v := ?_) (a' := ?_) rfl ?_ ?_ ?_); rotate_left 2; (focus (go_simp; (try go_bits); exact rfl)))
     focus (simp only [Act.put, zz1, zz2, zz3, Act.eval, zz4, zz5, zz6, zz7, zz8]; exact rfl)
    refine z_nil (hK2 _ _ ?_)
    have b34 := hb3.trans (b4.mono (by simp))
    have N4 := hid (N3.out.drew.belowAll b34)
    have G4 := hid (G3.out.drew.belowAll b34)
    have O4 := hid (O3.out.drew.below b34)
    have B4 := hid (B3.out.drew.trans (b34.mono B3.out.size))
    have hlt3 := b34.size
    have hlw : g < wr.heap.size := G3.out.lt
    have W4 := hid o4
    clear rn rn2 b34 o4 g4 b4 ho3 hb3 hK2 N3 G3 B3 V3
    have gr := G4.out.drew.row
    have hol := HL.out
    have il : (le64 (BitVec.ofNat 64 Q) ++ nonce.drop 16).length = 16 := by simp [hn]
    obtain ⟨inn, hin⟩ : ∃ inn, inn = le64 (BitVec.ofNat 64 Q) ++ nonce.drop 16 := ⟨_, rfl⟩
    rw [← hin] at W4 il
    obtain ⟨a4, c4, rfl, hr4, _⟩ := W4.out.rd
    rw [il] at hr4 ⊢
    have HIN := hid hin
    clear hin hm
    go_upto_region 8 with fail
    refine wp_region_made [1,0,1,0] [2,0] [] (by kernel_rfl) (by kernel_rfl) (by kernel_rfl) (by kernel_rfl) (fun p hp => by cases hp) (fun C hC0 hCb hCn K2 hK2 => ?_)
    have RB : ∀ w1, C w1 → rowAt w1 g = A8 own := fun w1 h => (G4.out.drew.belowAll (hCb w1 h)).row
    have hbk : blk inn = inn := blk_same _ il
    repeat
     first
      | (with_reducible refine y_made ?_)
      | ((with_reducible refine y_obl (v := ?_) (a' := ?_) ?_ (fun _ => ?_) ?_ ?_); rotate_left; rotate_left; (focus (exact rfl)); (focus (go_simp; (try go_bits); exact rfl)); (focus (simp only [Act.put, zz1, zz2, zz3, Act.eval, zz4, zz5, zz6, zz7, zz8]; exact rfl)))
      | ((with_reducible refine y_read (v := ?_) (a' := ?_) ?_ (fun _ hcw => ?_) ?_ ?_); rotate_left; rotate_left; (focus (exact rfl)); (focus (have f := RB _ hcw; go_simp; (try go_bits); exact rfl)); (focus (simp only [Act.put, zz1, zz2, zz3, Act.eval, zz4, zz5, zz6, zz7, zz8]; exact rfl)))
      | ((with_reducible refine y_skip (a' := ?_) ?_ ?_ ?_); rotate_left; (focus (exact rfl)); (focus (simp only [Act.put, zz1, zz2, zz3, Act.eval, zz4, zz5, zz6, zz7, zz8]; exact rfl)))
      | ((with_reducible refine y_skip1 (a' := ?_) ?_ ?_ ?_); rotate_left; (focus (exact rfl)); (focus (simp only [Act.put, zz1, zz2, zz3, Act.eval, zz4, zz5, zz6, zz7, zz8]; exact rfl)))
    ((with_reducible refine y_call (v := ?_) (a' := ?_) ?_ (fun wq hcw => ?_) ?_ ?_); rotate_left; rotate_left)
    ·exact rfl
    ·go_simp
     refine entersB_of ?_
     exact refBlock16_any inn a4 16 c4 _ (hr4.drew.below (hCb _ hcw)) (by omega)
    ·(simp only [Act.put, zz1, zz2, zz3, Act.eval, zz4, zz5, zz6, zz7, zz8]; exact rfl)
    rw [hbk]
    repeat
     first
      | (with_reducible refine y_made ?_)
      | ((with_reducible refine y_obl (v := ?_) (a' := ?_) ?_ (fun _ => ?_) ?_ ?_); rotate_left; rotate_left; (focus (exact rfl)); (focus (go_simp; (try go_bits); exact rfl)); (focus (simp only [Act.put, zz1, zz2, zz3, Act.eval, zz4, zz5, zz6, zz7, zz8]; exact rfl)))
      | ((with_reducible refine y_read (v := ?_) (a' := ?_) ?_ (fun _ hcw => ?_) ?_ ?_); rotate_left; rotate_left; (focus (exact rfl)); (focus (have f := RB _ hcw; go_simp; (try go_bits); exact rfl)); (focus (simp only [Act.put, zz1, zz2, zz3, Act.eval, zz4, zz5, zz6, zz7, zz8]; exact rfl)))
      | ((with_reducible refine y_skip (a' := ?_) ?_ ?_ ?_); rotate_left; (focus (exact rfl)); (focus (simp only [Act.put, zz1, zz2, zz3, Act.eval, zz4, zz5, zz6, zz7, zz8]; exact rfl)))
      | ((with_reducible refine y_skip1 (a' := ?_) ?_ ?_ ?_); rotate_left; (focus (exact rfl)); (focus (simp only [Act.put, zz1, zz2, zz3, Act.eval, zz4, zz5, zz6, zz7, zz8]; exact rfl)))
    refine y_nil (show fin _ _ _ [] _ _ from fun w5 hc5 _ => ?_)
    have hb5 := hCb _ hc5
    (with_reducible refine z_callw rfl ?_)
    go_simp
    refine entersW_of ?_
    refine (refBlock_any own inn r w5 HL.out il hr0 hr20).mono ?_
    rintro e w6 ⟨v6, rfl, o6, b6⟩
    refine ⟨_, rfl, ?_⟩
    try simp only [Act.put, zz1, zz2, zz3]
    repeat
     (first
      | (with_reducible refine z_move (a' := ?_) ?_ ?_); rotate_left
      | (with_reducible refine z_assign (a' := ?_) ?_ ?_); rotate_left
      | (with_reducible refine z_obl (v := ?_) (a' := ?_) rfl (fun _ => ?_) ?_ ?_); rotate_left 2; (focus (go_simp; (try go_bits); exact rfl))
      | (with_reducible refine z_read (v := ?_) (a' := ?_) rfl ?_ ?_ ?_); rotate_left 2; (focus (go_simp; (try go_bits); exact rfl)))
     focus (simp only [Act.put, zz1, zz2, zz3, Act.eval, zz4, zz5, zz6, zz7, zz8]; exact rfl)
    refine z_nil (hK2 _ _ ?_)
    have b56 := hb5.trans (b6.mono hb5.size)
    have ev : blockOf (startTo own inn 4) (r.toNat / 2) = numbered own nonce (r.toNat / 2) (j / 64) := by rw [HIN.out, HQ.out]; rfl
    rw [ev] at o6
    have hl5 := hb5.size
    have hl4 : w4.drew.heap.size = w4.heap.size := rfl
    have N9 := hid (N4.out.drew.belowAll b56)
    have G9 := hid (G4.out.drew.belowAll b56)
    have O9 := hid (O4.out.drew.below b56)
    have V9 := hid (o6.base (show g + 1 ≤ w5.heap.size by simp at hl5 hlt3; omega))
    have S9 := hid (show ∀ k, u10.ownBlock = some k → v6.ownBlock ≠ some k from fun k h1 h2 => by
     have h3 := (World.ownsRow.lt O3.out k h1).2
     have h4 := (World.ownsRow.lt o6 k h2).1
     simp at hl5 hlt3
     omega)
    have B9 := hid (B4.out.drew.trans (b56.mono B4.out.size))
    clear b56 o6 b6 hb5 hr4 hC0 hCb hCn RB hc5 hK2 N4 G4 O4 B4 W4 O3 hbk ev
    obtain ⟨R, hR⟩ : ∃ R, R = j % 64 := ⟨_, rfl⟩
    have rr : (j : Int) % 64 = (R : Int) := by omega
    have r64 : (R : Int) < 64 := by omega
    have r00 : (0 : Int) ≤ (R : Int) := by omega
    obtain ⟨b', o', rfl, hlt', hc'⟩ := (HR.out.below B9.out).2.2.2 (by omega)
    have cc1 : w6.drew.cell? ⟨b', o' + j, none⟩ = some (v8 (nth l j)) := hc' j hjn
    have hnl := numbered_length own nonce (r.toNat / 2) (j / 64)
    obtain ⟨g9, c9, rfl, hg9, hlt9⟩ := V9.out.form (by rw [hnl]; omega)
    have cc2 : w6.drew.cell? ⟨g9, R, none⟩ = some (v8 (nth (numbered own nonce (r.toNat / 2) (j / 64)) R)) := V9.out.drew.cell R (by rw [hnl]; omega)
    rw [hnl]
    have HR9 := hid hR
    obtain ⟨BL, hBL⟩ : ∃ BL, BL = numbered own nonce (r.toNat / 2) (j / 64) := ⟨_, rfl⟩
    rw [← hBL] at cc2
    have HBL := hid hBL
    have HNL := hid hnl
    clear hc' hR hBL hnl q1
    go_upto_region 9 with fail
    refine wp_region_text3' [0,0,0,0,1,0,0,0,0,1,0,2,2,0] (by kernel_rfl) (by kernel_rfl) (fun ops' K2 hK2 => ?_)
    repeat
     (first
      | (with_reducible refine z_move (a' := ?_) ?_ ?_); rotate_left
      | (with_reducible refine z_assign (a' := ?_) ?_ ?_); rotate_left
      | (with_reducible refine z_obl (v := ?_) (a' := ?_) rfl (fun _ => ?_) ?_ ?_); rotate_left 2; (focus (go_simp; (try go_bits); exact rfl))
      | (with_reducible refine z_read (v := ?_) (a' := ?_) rfl ?_ ?_ ?_); rotate_left 2; (focus (go_simp; (try go_bits); exact rfl)))
     focus (simp only [Act.put, zz1, zz2, zz3, Act.eval, zz4, zz5, zz6, zz7, zz8]; exact rfl)
    refine z_build1 rfl Tryz.underlying23 info8 (fun w7 b7 hr7 hb7 => ?_)
    simp only [Act.put, zz1, zz2, zz3]
    refine z_append8p (O9.out.drew.below hb7) hr7 rfl rfl Tryz.underlying23 info8 (by rw [List.length_take, OL.out]; omega) (by have h1 : g < w6.drew.heap.size := G9.out.lt; have h2 := hb7.size; omega) (fun w8 v8' o8 g8 b8 p8 => ?_)
    simp only [Act.put, zz1, zz2, zz3]
    repeat
     (first
      | (with_reducible refine z_move (a' := ?_) ?_ ?_); rotate_left
      | (with_reducible refine z_assign (a' := ?_) ?_ ?_); rotate_left
      | (with_reducible refine z_obl (v := ?_) (a' := ?_) rfl (fun _ => ?_) ?_ ?_); rotate_left 2; (focus (go_simp; (try go_bits); exact rfl))
      | (with_reducible refine z_read (v := ?_) (a' := ?_) rfl ?_ ?_ ?_); rotate_left 2; (focus (go_simp; (try go_bits); exact rfl)))
     focus (simp only [Act.put, zz1, zz2, zz3, Act.eval, zz4, zz5, zz6, zz7, zz8]; exact rfl)
    refine z_nil (hK2 _ _ ?_)
    have e8 : OUT.take j ++ [nth l j ^^^ nth BL R] = OUT.take (j + 1) := by
     rw [take_succ_nth OUT j (by rw [OL.out]; exact hjn), ON.out j hjn, HBL.out, HR9.out]
    rw [e8] at o8
    have V10 : (j + 1) % 64 ≠ 0 → Own8 w8 (g + 1) 5 (.slice (some ⟨g9, 0, none⟩) 64 c9) (numbered own nonce (r.toNat / 2) ((j + 1) / 64)) ∧ ∀ k, v8'.ownBlock = some k → Value.ownBlock (.slice (some ⟨g9, 0, none⟩) 64 c9) ≠ some k := by
     intro hmod
     have hq : (j + 1) / 64 = j / 64 := by omega
     rw [hq]
     have hv := V9.out
     rw [HNL.out] at hv
     refine ⟨(hv.drew.below hb7).kept g8 ?_, fun k hk => ?_⟩
     ·refine .inr fun e => ?_
      have h1 := S9.out g9 e.symm
      exact h1 rfl
     ·rcases p8 k hk with h1 | h1
      ·have := S9.out k h1
       rw [HNL.out] at this
       exact this
      ·intro h2
       have h3 : g9 = k := by simpa [Value.ownBlock] using h2
       have h4 := hb7.size
       have h5 : g9 < w6.drew.heap.size := hlt9
       omega
    have N10 := hid ((N9.out.drew.belowAll hb7).grown g8 ((O9.out.drew.below hb7).apart (by omega)))
    have G10 := hid ((G9.out.drew.belowAll hb7).grown g8 ((O9.out.drew.below hb7).apart (by omega)))
    have O10 := hid o8
    have VV := hid V10
    have d10 := B9.out.drew.trans (hb7.mono B9.out.size)
    have B10 := hid (d10.trans (b8.mono (by omega)))
    clear o8 g8 b8 p8 e8 V10 hb7 hr7 cc1 cc2 d10 hK2 hlt' hlt9
    go_wp2
    exact ⟨⟨j + 1, by omega, by go_num, N10.out, G10.out, O10.out, VV.out, B10.out⟩, by simp [intOf]; omega⟩
   ·have hm' : j % 64 ≠ 0 := by omega
    obtain ⟨hv9, hs9⟩ := V3.out hm'
    have N9 := N3
    have G9 := G3
    have O9 := O3
    have V9 := hid hv9
    have S9 := hid hs9
    have B9 := B3
    clear hm' hv9 hs9 N3 G3 O3 V3 B3
    go_upto_region 9 with fail
    clear hm
    obtain ⟨R, hR⟩ : ∃ R, R = j % 64 := ⟨_, rfl⟩
    have rr : (j : Int) % 64 = (R : Int) := by omega
    have r64 : (R : Int) < 64 := by omega
    have r00 : (0 : Int) ≤ (R : Int) := by omega
    obtain ⟨b', o', rfl, hlt', hc'⟩ := (HR.out.below B9.out).2.2.2 (by omega)
    have cc1 : wr.drew.cell? ⟨b', o' + j, none⟩ = some (v8 (nth l j)) := hc' j hjn
    have hnl := numbered_length own nonce (r.toNat / 2) (j / 64)
    obtain ⟨g9, c9, rfl, hg9, hlt9⟩ := V9.out.form (by rw [hnl]; omega)
    have cc2 : wr.drew.cell? ⟨g9, R, none⟩ = some (v8 (nth (numbered own nonce (r.toNat / 2) (j / 64)) R)) := V9.out.drew.cell R (by rw [hnl]; omega)
    rw [hnl]
    have HR9 := hid hR
    obtain ⟨BL, hBL⟩ : ∃ BL, BL = numbered own nonce (r.toNat / 2) (j / 64) := ⟨_, rfl⟩
    rw [← hBL] at cc2
    have HBL := hid hBL
    have HNL := hid hnl
    clear hc' hR hBL hnl q1
    go_upto_region 9 with fail
    refine wp_region_text3' [0,0,0,0,1,0,0,0,0,1,0,2,2,0] (by kernel_rfl) (by kernel_rfl) (fun ops' K2 hK2 => ?_)
    repeat
     (first
      | (with_reducible refine z_move (a' := ?_) ?_ ?_); rotate_left
      | (with_reducible refine z_assign (a' := ?_) ?_ ?_); rotate_left
      | (with_reducible refine z_obl (v := ?_) (a' := ?_) rfl (fun _ => ?_) ?_ ?_); rotate_left 2; (focus (go_simp; (try go_bits); exact rfl))
      | (with_reducible refine z_read (v := ?_) (a' := ?_) rfl ?_ ?_ ?_); rotate_left 2; (focus (go_simp; (try go_bits); exact rfl)))
     focus (simp only [Act.put, zz1, zz2, zz3, Act.eval, zz4, zz5, zz6, zz7, zz8]; exact rfl)
    refine z_build1 rfl Tryz.underlying23 info8 (fun w7 b7 hr7 hb7 => ?_)
    simp only [Act.put, zz1, zz2, zz3]
    refine z_append8p (O9.out.drew.below hb7) hr7 rfl rfl Tryz.underlying23 info8 (by rw [List.length_take, OL.out]; omega) (by have h1 : g < wr.drew.heap.size := G9.out.lt; have h2 := hb7.size; omega) (fun w8 v8' o8 g8 b8 p8 => ?_)
    simp only [Act.put, zz1, zz2, zz3]
    repeat
     (first
      | (with_reducible refine z_move (a' := ?_) ?_ ?_); rotate_left
      | (with_reducible refine z_assign (a' := ?_) ?_ ?_); rotate_left
      | (with_reducible refine z_obl (v := ?_) (a' := ?_) rfl (fun _ => ?_) ?_ ?_); rotate_left 2; (focus (go_simp; (try go_bits); exact rfl))
      | (with_reducible refine z_read (v := ?_) (a' := ?_) rfl ?_ ?_ ?_); rotate_left 2; (focus (go_simp; (try go_bits); exact rfl)))
     focus (simp only [Act.put, zz1, zz2, zz3, Act.eval, zz4, zz5, zz6, zz7, zz8]; exact rfl)
    refine z_nil (hK2 _ _ ?_)
    have e8 : OUT.take j ++ [nth l j ^^^ nth BL R] = OUT.take (j + 1) := by
     rw [take_succ_nth OUT j (by rw [OL.out]; exact hjn), ON.out j hjn, HBL.out, HR9.out]
    rw [e8] at o8
    have V10 : (j + 1) % 64 ≠ 0 → Own8 w8 (g + 1) 5 (.slice (some ⟨g9, 0, none⟩) 64 c9) (numbered own nonce (r.toNat / 2) ((j + 1) / 64)) ∧ ∀ k, v8'.ownBlock = some k → Value.ownBlock (.slice (some ⟨g9, 0, none⟩) 64 c9) ≠ some k := by
     intro hmod
     have hq : (j + 1) / 64 = j / 64 := by omega
     rw [hq]
     have hv := V9.out
     rw [HNL.out] at hv
     refine ⟨(hv.drew.below hb7).kept g8 ?_, fun k hk => ?_⟩
     ·refine .inr fun e => ?_
      have h1 := S9.out g9 e.symm
      exact h1 rfl
     ·rcases p8 k hk with h1 | h1
      ·have := S9.out k h1
       rw [HNL.out] at this
       exact this
      ·intro h2
       have h3 : g9 = k := by simpa [Value.ownBlock] using h2
       have h4 := hb7.size
       have h5 : g9 < wr.drew.heap.size := hlt9
       omega
    have N10 := hid ((N9.out.drew.belowAll hb7).grown g8 ((O9.out.drew.below hb7).apart (by omega)))
    have G10 := hid ((G9.out.drew.belowAll hb7).grown g8 ((O9.out.drew.below hb7).apart (by omega)))
    have O10 := hid o8
    have VV := hid V10
    have d10 := B9.out.drew.trans (hb7.mono B9.out.size)
    have B10 := hid (d10.trans (b8.mono (by omega)))
    clear o8 g8 b8 p8 e8 V10 hb7 hr7 cc1 cc2 d10 hK2 hlt' hlt9
    go_wp2
    exact ⟨⟨j + 1, by omega, by go_num, N10.out, G10.out, O10.out, VV.out, B10.out⟩, by simp [intOf]; omega⟩
  ·obtain rfl : j = n := by omega
   have hO := O3.out
   rw [List.take_of_length_le (by rw [OL.out]; omega)] at hO
   have O4 := hid (hO.base (show w.heap.size ≤ g + 1 by omega))
   clear hO O3
   go_wp2
   go_ret
   exact ⟨_, rfl, O4.out, B3.out⟩
end Go.Proofs.YtfdkmjegcghieaaGreatDoor
