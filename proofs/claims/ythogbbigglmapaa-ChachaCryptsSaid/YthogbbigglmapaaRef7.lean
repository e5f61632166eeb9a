/- chacha by definition: Start -/
import Derived.Test.YthogbbigglmapaaRef6
import Derived.Test.YthogbbigglmapaaApp2
import Derived.Test.YthogbbigglmapaaSix4
namespace Go.Proofs.Ythogbbigglmapaa
open Go.RowKit
theorem le32_nat (x : BitVec 32) : x.toNat = ((nth (le32 x) 3).toNat * 256 + (nth (le32 x) 2).toNat) * 65536 + (nth (le32 x) 1).toNat * 256 + (nth (le32 x) 0).toNat := by
  simp only [le32, nth, List.getD_eq_getElem?_getD]
  simp [Nat.shiftRight_eq_div_pow]
  have := x.isLt
  omega
theorem le32_inj {x y : BitVec 32} (h : le32 x = le32 y) : x = y := by
  apply BitVec.eq_of_toNat_eq
  rw [le32_nat x, le32_nat y, h]
theorem start_word (key inp : List (BitVec 8)) (hk : key.length = 32) (hi : inp.length = 16) (j : Nat) (hj : j < 16) : word (letters ++ key ++ inp) (4 * j) = nth (startTo key inp 4) j := by
  apply le32_inj
  rw [start_bytes key inp hk hi j hj, le32_word, take4]
  simp [hk, hi, letters]; omega
/-- sixteen numbers, so many of them laid -/
def fillTo (S : List (BitVec 32)) (j : Nat) : List (BitVec 32) := (List.range 16).map fun i => if i < j then nth S i else 0
theorem fillTo_length (S : List (BitVec 32)) (j : Nat) : (fillTo S j).length = 16 := by simp [fillTo]
theorem nth_fillTo (S : List (BitVec 32)) (j i : Nat) (hi : i < 16) : nth (fillTo S j) i = if i < j then nth S i else 0 := by
  simp [nth, fillTo, List.getD_eq_getElem?_getD, hi]
theorem fillTo_zero (S : List (BitVec 32)) : fillTo S 0 = zeros 32 16 := by
  apply ext_nth
  · simp [fillTo_length]
  · intro i hi
    rw [fillTo_length] at hi
    rw [nth_fillTo _ _ _ hi, nth_zeros]; simp
theorem fillTo_set (S : List (BitVec 32)) (j : Nat) (hj : j < 16) : (fillTo S j).set j (nth S j) = fillTo S (j + 1) := by
  apply ext_nth
  · simp [fillTo_length]
  · intro i hi
    rw [List.length_set, fillTo_length] at hi
    rw [nth_set _ _ _ _ (by rw [fillTo_length]; exact hj), nth_fillTo _ _ _ hi, nth_fillTo _ _ _ hi]
    by_cases h : j = i
    · subst h; simp
    · by_cases h2 : i < j
      · rw [if_neg h, if_pos h2, if_pos (by omega)]
      · rw [if_neg h, if_neg h2, if_neg (by omega)]
theorem fillTo_full (S : List (BitVec 32)) (h : S.length = 16) : fillTo S 16 = S := by
  apply ext_nth
  · rw [fillTo_length, h]
  · intro i hi
    rw [fillTo_length] at hi
    rw [nth_fillTo _ _ _ hi, if_pos hi]
theorem Rd8.far {w : World} {b o n c g j : Nat} {l : List (BitVec 8)} (h : Rd8 w (some ⟨b, o, none⟩) n c l) (hb : b ≠ g) (v : Value) : Rd8 (w.setCell ⟨g, j, none⟩ v) (some ⟨b, o, none⟩) n c l :=
  ⟨h.1, h.2.1, h.2.2.1, fun hn => by
    obtain ⟨b', o', he, hlt, hc⟩ := h.2.2.2 hn
    cases he
    exact ⟨b, o, rfl, by simpa using hlt, fun i hi => (World.cell?_setCell_other _ _ _ _ (by intro e; exact hb (congrArg Addr.block e).symm)).trans (hc i hi)⟩⟩
set_option linter.unusedSimpArgs false in
set_option maxRecDepth 100000 in
set_option maxHeartbeats 1600000 in
theorem refStart_any (key inp : List (BitVec 8)) (w : World) (hk : key.length = 32) (hi : inp.length = 16) :
    Calls Try.prog 35 #[.agg (A8 key), .agg (A8 inp)] w fun e w' => e = .returned (.agg (A32 (startTo key inp 4))) ∧ Below w.heap.size w w' := by
  obtain ⟨W, hW⟩ : ∃ W, ((w.alloc (.cells (A8 key) 35)).alloc (.cells (A8 inp) 36)).alloc (.cells (A32 (zeros 32 16)) 38) = W := ⟨_, rfl⟩
  obtain ⟨b0, b1, b2, hb, hz⟩ := new3 _ _ _ _ _ _ _ _ hW
  have B0' := Lib.hid b0
  have B1' := Lib.hid b1
  have BZ := Lib.hid b2
  have B2 := Lib.hid hb
  obtain ⟨S, hS⟩ : ∃ S, S = startTo key inp 4 := ⟨_, rfl⟩
  have hSl : S.length = 16 := by rw [hS, startTo_length]
  have hsw : ∀ j, j < 16 → word (letters ++ key ++ inp) (4 * j) = nth S j := fun j hj => by rw [hS]; exact start_word key inp hk hi j hj
  have HSW := Lib.hid hsw
  have HSL := Lib.hid hSl
  rw [← hS]
  clear hz hb b0 b1 b2 hS hSl hsw
  go_enter Try.func35, Try.ntmps35
  go_upto_region 1 with fail
  clear hW
  refine wp_region_plain [2,2,0,2,0] rfl (fun ops' K2 hK2 => ?_)
  refine z_run (v := .slice (some ⟨W.heap.size, 0, none⟩) 16 16) (w1 := W.alloc (.cells (A8 letters) 5)) rfl ?_ ?_
  · go_simp
    rfl
  simp only [Act.put, List.setIfInBounds_toArray, List.set_cons_succ, List.set_cons_zero]
  have hcv := convert_same (P := Try.prog) W 22 5 (A8 letters) 16 16 Try.underlying22 Try.underlying5
  refine z_run (v := .slice (some ⟨W.heap.size, 0, none⟩) 16 16) (w1 := W.alloc (.cells (A8 letters) 5 ((A8 letters).size, (A8 letters).size + 1))) rfl ?_ ?_
  · go_simp
  simp only [Act.put, List.setIfInBounds_toArray, List.set_cons_succ, List.set_cons_zero]
  have R0 := letters_rd W 5 ((A8 letters).size, (A8 letters).size + 1) _ (show _ = A8 letters from rfl)
  have B0a := B0'.out.alloc (.cells (A8 letters) 5 ((A8 letters).size, (A8 letters).size + 1))
  have B1a := B1'.out.alloc (.cells (A8 letters) 5 ((A8 letters).size, (A8 letters).size + 1))
  have BZa := BZ.out.alloc (.cells (A8 letters) 5 ((A8 letters).size, (A8 letters).size + 1))
  have B2a := B2.out.alloc B2.out.size (.cells (A8 letters) 5 ((A8 letters).size, (A8 letters).size + 1))
  generalize W.alloc (.cells (A8 letters) 5 ((A8 letters).size, (A8 letters).size + 1)) = W2 at *
  generalize W.heap.size = pL at *
  clear hcv
  have RK := B0a.rd8 32 (by omega) (by rw [hk]; decide)
  rw [List.take_of_length_le (by omega), hk] at RK
  have RI := B1a.rd8 16 (by omega) (by rw [hi]; decide)
  rw [List.take_of_length_le (by omega), hi] at RI
  repeat
    first
      | ((with_reducible refine z_move (a' := ?_) ?_ ?_); rotate_left; · (simp only [Act.put, List.setIfInBounds_toArray, List.set_cons_succ, List.set_cons_zero, Act.eval, Array.getD_eq_getD_getElem?, List.getElem?_toArray, List.getElem?_cons_succ, List.getElem?_cons_zero, Option.getD_some]; exact rfl))
      | ((with_reducible refine z_assign (a' := ?_) ?_ ?_); rotate_left; · (simp only [Act.put, List.setIfInBounds_toArray, List.set_cons_succ, List.set_cons_zero, Act.eval, Array.getD_eq_getD_getElem?, List.getElem?_toArray, List.getElem?_cons_succ, List.getElem?_cons_zero, Option.getD_some]; exact rfl))
      | ((with_reducible refine z_obl (v := ?_) (a' := ?_) rfl (fun _ => ?_) ?_ ?_); rotate_left; rotate_left; (focus (go_simp; (try go_bits); exact rfl)); (focus (simp only [Act.put, List.setIfInBounds_toArray, List.set_cons_succ, List.set_cons_zero, Act.eval, Array.getD_eq_getD_getElem?, List.getElem?_toArray, List.getElem?_cons_succ, List.getElem?_cons_zero, Option.getD_some]; exact rfl)))
      | ((with_reducible refine z_read (v := ?_) (a' := ?_) rfl ?_ ?_ ?_); rotate_left; rotate_left; (focus (go_simp; (try go_bits); exact rfl)); (focus (simp only [Act.put, List.setIfInBounds_toArray, List.set_cons_succ, List.set_cons_zero, Act.eval, Array.getD_eq_getD_getElem?, List.getElem?_toArray, List.getElem?_cons_succ, List.getElem?_cons_zero, Option.getD_some]; exact rfl)))
  refine z_append8g R0 RK rfl rfl Try.underlying22 info8 (by omega) (by omega) (by omega) (by omega) (fun w3 v3 o3 hb3 => ?_)
  simp only [Act.put, List.setIfInBounds_toArray, List.set_cons_succ, List.set_cons_zero]
  repeat
    first
      | ((with_reducible refine z_move (a' := ?_) ?_ ?_); rotate_left; · (simp only [Act.put, List.setIfInBounds_toArray, List.set_cons_succ, List.set_cons_zero, Act.eval, Array.getD_eq_getD_getElem?, List.getElem?_toArray, List.getElem?_cons_succ, List.getElem?_cons_zero, Option.getD_some]; exact rfl))
      | ((with_reducible refine z_assign (a' := ?_) ?_ ?_); rotate_left; · (simp only [Act.put, List.setIfInBounds_toArray, List.set_cons_succ, List.set_cons_zero, Act.eval, Array.getD_eq_getD_getElem?, List.getElem?_toArray, List.getElem?_cons_succ, List.getElem?_cons_zero, Option.getD_some]; exact rfl))
      | ((with_reducible refine z_obl (v := ?_) (a' := ?_) rfl (fun _ => ?_) ?_ ?_); rotate_left; rotate_left; (focus (go_simp; (try go_bits); exact rfl)); (focus (simp only [Act.put, List.setIfInBounds_toArray, List.set_cons_succ, List.set_cons_zero, Act.eval, Array.getD_eq_getD_getElem?, List.getElem?_toArray, List.getElem?_cons_succ, List.getElem?_cons_zero, Option.getD_some]; exact rfl)))
      | ((with_reducible refine z_read (v := ?_) (a' := ?_) rfl ?_ ?_ ?_); rotate_left; rotate_left; (focus (go_simp; (try go_bits); exact rfl)); (focus (simp only [Act.put, List.setIfInBounds_toArray, List.set_cons_succ, List.set_cons_zero, Act.eval, Array.getD_eq_getD_getElem?, List.getElem?_toArray, List.getElem?_cons_succ, List.getElem?_cons_zero, Option.getD_some]; exact rfl)))
  refine z_nil (hK2 _ _ ?_)
  have O3 := Lib.hid o3
  have BZb := Lib.hid (BZa.belowAll hb3)
  have B3 := Lib.hid (B2a.trans (hb3.mono B2a.size))
  have RI3 := Lib.hid (RI.below hb3)
  have hgt := (B2a.size)
  have hsz3 := hb3.size
  have hpS := BZa.lt
  clear o3 R0 RK RI B0a B1a BZa B2a hb3 hK2
  go_upto_region 2 with fail
  refine wp_region_plain [0,0,2,0] rfl (fun ops' K2 hK2 => ?_)
  repeat
    first
      | ((with_reducible refine z_move (a' := ?_) ?_ ?_); rotate_left; · (simp only [Act.put, List.setIfInBounds_toArray, List.set_cons_succ, List.set_cons_zero, Act.eval, Array.getD_eq_getD_getElem?, List.getElem?_toArray, List.getElem?_cons_succ, List.getElem?_cons_zero, Option.getD_some]; exact rfl))
      | ((with_reducible refine z_assign (a' := ?_) ?_ ?_); rotate_left; · (simp only [Act.put, List.setIfInBounds_toArray, List.set_cons_succ, List.set_cons_zero, Act.eval, Array.getD_eq_getD_getElem?, List.getElem?_toArray, List.getElem?_cons_succ, List.getElem?_cons_zero, Option.getD_some]; exact rfl))
      | ((with_reducible refine z_obl (v := ?_) (a' := ?_) rfl (fun _ => ?_) ?_ ?_); rotate_left; rotate_left; (focus (go_simp; (try go_bits); exact rfl)); (focus (simp only [Act.put, List.setIfInBounds_toArray, List.set_cons_succ, List.set_cons_zero, Act.eval, Array.getD_eq_getD_getElem?, List.getElem?_toArray, List.getElem?_cons_succ, List.getElem?_cons_zero, Option.getD_some]; exact rfl)))
      | ((with_reducible refine z_read (v := ?_) (a' := ?_) rfl ?_ ?_ ?_); rotate_left; rotate_left; (focus (go_simp; (try go_bits); exact rfl)); (focus (simp only [Act.put, List.setIfInBounds_toArray, List.set_cons_succ, List.set_cons_zero, Act.eval, Array.getD_eq_getD_getElem?, List.getElem?_toArray, List.getElem?_cons_succ, List.getElem?_cons_zero, Option.getD_some]; exact rfl)))
  refine z_append8 O3.out RI3.out rfl rfl Try.underlying22 info8 (by simp [hk, letters]) hsz3 (fun w4 v4 o4 g4 b4 => ?_)
  simp only [Act.put, List.setIfInBounds_toArray, List.set_cons_succ, List.set_cons_zero]
  repeat
    first
      | ((with_reducible refine z_move (a' := ?_) ?_ ?_); rotate_left; · (simp only [Act.put, List.setIfInBounds_toArray, List.set_cons_succ, List.set_cons_zero, Act.eval, Array.getD_eq_getD_getElem?, List.getElem?_toArray, List.getElem?_cons_succ, List.getElem?_cons_zero, Option.getD_some]; exact rfl))
      | ((with_reducible refine z_assign (a' := ?_) ?_ ?_); rotate_left; · (simp only [Act.put, List.setIfInBounds_toArray, List.set_cons_succ, List.set_cons_zero, Act.eval, Array.getD_eq_getD_getElem?, List.getElem?_toArray, List.getElem?_cons_succ, List.getElem?_cons_zero, Option.getD_some]; exact rfl))
      | ((with_reducible refine z_obl (v := ?_) (a' := ?_) rfl (fun _ => ?_) ?_ ?_); rotate_left; rotate_left; (focus (go_simp; (try go_bits); exact rfl)); (focus (simp only [Act.put, List.setIfInBounds_toArray, List.set_cons_succ, List.set_cons_zero, Act.eval, Array.getD_eq_getD_getElem?, List.getElem?_toArray, List.getElem?_cons_succ, List.getElem?_cons_zero, Option.getD_some]; exact rfl)))
      | ((with_reducible refine z_read (v := ?_) (a' := ?_) rfl ?_ ?_ ?_); rotate_left; rotate_left; (focus (go_simp; (try go_bits); exact rfl)); (focus (simp only [Act.put, List.setIfInBounds_toArray, List.set_cons_succ, List.set_cons_zero, Act.eval, Array.getD_eq_getD_getElem?, List.getElem?_toArray, List.getElem?_cons_succ, List.getElem?_cons_zero, Option.getD_some]; exact rfl)))
  refine z_nil (hK2 _ _ ?_)
  obtain ⟨ALL, hALL⟩ : ∃ ALL, ALL = letters ++ key ++ inp := ⟨_, rfl⟩
  have hal : ALL.length = 64 := by rw [hALL]; simp [hk, hi, letters]
  rw [← hALL] at o4
  have hsb := HSW.out
  rw [← hALL] at hsb
  have HSB2 := Lib.hid hsb
  clear hsb
  obtain ⟨a4, c4, rfl, hr4, _⟩ := o4.rd
  rw [hal] at hr4 ⊢
  obtain ⟨b4', o4', rfl, hb4', _⟩ := hr4.2.2.2 (by omega)
  have R4 := Lib.hid (hr4.alloc (.cells (A32 (zeros 32 16)) 38))
  have BS4 := Lib.hid ((BZb.out.grown g4 (O3.out.apart hpS)).alloc (.cells (A32 (zeros 32 16)) 38))
  have hB4 := B3.out.trans (b4.mono hgt)
  have B4 := Lib.hid (hB4.alloc hB4.size (.cells (A32 (zeros 32 16)) 38))
  have SS4 := Lib.hid (Blk.new w4 38 (A32 (zeros 32 16)))
  have hps := (BZb.out.grown g4 (O3.out.apart hpS)).lt
  clear o4 hr4 g4 b4 hK2 hALL hal hsz3 hgt hpS O3 RI3 BZb B3 HSW hB4
  go_wp2_with fail
  generalize w4.alloc (.cells (A32 (zeros 32 16)) 38) = W4 at *
  generalize w4.heap.size = pS at *
  go_loopw [7] (fun i wr => ∃ j : Nat, j ≤ 16 ∧ i = .int .i64 j ∧ Blk wr pS 38 (A32 (fillTo S j)) ∧ Blk wr (w.heap.size + 2) 38 (A32 (zeros 32 16)) ∧ Rd8 wr (some ⟨b4', o4', none⟩) 64 c4 ALL ∧ Below w.heap.size w wr) (fun i _ => 16 - (intOf i).toNat)
  case atStart => exact ⟨0, Nat.zero_le _, rfl, by rw [fillTo_zero]; exact SS4.out, BS4.out, R4.out, B4.out⟩
  case round =>
    obtain ⟨j, hj, rfl, hS, hZ, hR, hB⟩ := hrel
    have S5 := Lib.hid hS
    have Z5 := Lib.hid hZ
    have R5 := Lib.hid hR
    have B5 := Lib.hid hB
    clear hS hZ hR hB BS4 R4 B4 SS4
    by_cases hj16 : j < 16
    · have j0 : (0 : Int) ≤ (j : Int) := by omega
      have j1 : (j : Int) < 16 := by omega
      obtain ⟨J0, hJ0⟩ : ∃ q, q = 4 * j := ⟨_, rfl⟩
      have f1 : (4 : Int) * (j : Int) = (J0 : Int) := by omega
      have f2 : IntKind.i64.wrap (J0 : Int) = (J0 : Int) := by rw [IntKind.wrap_i64]; omega
      have hw := numTo_word ALL J0
      rw [hJ0, HSB2.out j hj16] at hw
      rw [← hJ0] at hw
      have c1 := S5.out.cell32 (fillTo_length S j) j hj16
      have fo := S5.out.frozen j
      have hJb : J0 ≤ 1000000000 := by omega
      clear hJ0
      go_wp2_with fail
      refine (refNumber4_any ALL _ 64 c4 J0 wr R5.out hJb).mono ?_
      rintro e w5 ⟨rfl, rfl⟩
      have kk := S5.out.set_ j (v32 (nth S j))
      rw [A32_set, fillTo_set S j hj16] at kk
      have S6 := Lib.hid kk
      have Z6 := Lib.hid (Z5.out.far (p := ⟨pS, j, none⟩) (by simp; omega) (v32 (nth S j)))
      have R6 := Lib.hid (R5.out.far (g := pS) (j := j) (by omega) (v32 (nth S j)))
      have B6 := Lib.hid (B5.out.setCell (p := ⟨pS, j, none⟩) (by simp; omega) (v32 (nth S j)))
      clear kk S5 Z5 R5 B5
      go_wp2
      exact ⟨⟨j + 1, by omega, by go_num, S6.out, Z6.out, R6.out, B6.out⟩, by simp [intOf]; omega⟩
    · obtain rfl : j = 16 := by omega
      have zz := S5.out
      rw [fillTo_full S HSL.out] at zz
      have r1 := zz.row
      have r2 := Z5.out.row
      have r3 := Z5.out.whole
      have hl := HSL.out
      clear zz
      go_wp2
      refine bodyPost_row (A32 S) rfl rfl rfl (Try.isAgg38 _) (Try.sizeOf38 _) (by rw [A32_size]; exact hl) (rowAt_setRow _ r3) ⟨rfl, below_setRow B5.out (by omega) _⟩
end Go.Proofs.Ythogbbigglmapaa
