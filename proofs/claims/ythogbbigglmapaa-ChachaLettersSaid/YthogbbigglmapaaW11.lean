/- chacha: the first state is the letters, the key and the input: the walk -/
import Derived.Test.YthogbbigglmapaaLet
import Derived.Test.YthogbbigglmapaaApp2
import Derived.Test.YthogbbigglmapaaSix4
import Derived.Test.YthogbbigglmapaaCha7
namespace Go.Proofs.Ythogbbigglmapaa
open Go.RowKit
set_option linter.unusedSimpArgs false in
set_option maxRecDepth 100000 in
set_option maxHeartbeats 1600000 in
theorem ChachaLetters_walk (key inp : List (BitVec 8)) (w : World) (hk : key.length = 32) (hi : inp.length = 16) :
    Calls Try.prog 11 #[.agg (A8 key), .agg (A8 inp)] w fun e w' => e = .returned (.bool true) ∧ Below w.heap.size w w' := by
  obtain ⟨W, hW⟩ : ∃ W, (w.alloc (.cells (A8 key) 35)).alloc (.cells (A8 inp) 36) = W := ⟨_, rfl⟩
  obtain ⟨b0, b1, hb, hz⟩ := new2 _ _ _ _ _ _ hW
  have r0 := b0.row
  have r1 := b1.row
  have B0 := Lib.hid b0
  have B1 := Lib.hid b1
  have B := Lib.hid hb
  obtain ⟨S, hS⟩ : ∃ S, S = startTo key inp 4 := ⟨_, rfl⟩
  have hSl : S.length = 16 := by rw [hS, startTo_length]
  have hst := fun w => start_any key inp w hk hi
  rw [← hS] at hst
  have hsb : ∀ j, j < 16 → le32 (nth S j) = ((letters ++ key ++ inp).drop (4 * j)).take 4 := fun j hj => by rw [hS]; exact start_bytes key inp hk hi j hj
  have HSB := Lib.hid hsb
  clear hsb
  have HSL := Lib.hid hSl
  clear hz hb b0 b1 hS hSl
  go_enter Try.func11, Try.ntmps11
  go_wp2_with fail
  refine (hst W).mono ?_
  rintro e w1 ⟨rfl, hb1⟩
  have B0' := Lib.hid ((B0.out.belowAll hb1).alloc (.cells (A32 S) 39))
  have B1' := Lib.hid ((B1.out.belowAll hb1).alloc (.cells (A32 S) 39))
  have BS := Lib.hid (Blk.new w1 39 (A32 S))
  have hB := B.out.trans (hb1.mono B.out.size)
  have B2 := Lib.hid (hB.alloc hB.size (.cells (A32 S) 39))
  clear r0 r1 hW hb1 hB B0 B1 B hst
  have hSl := HSL.out
  go_upto_region 2 with fail
  clear hSl
  generalize w1.alloc (.cells (A32 S) 39) = W1 at *
  generalize w1.heap.size = pS at *
  refine wp_region_plain [2,2,0,2,0] rfl (fun ops' K2 hK2 => ?_)
  refine z_run (v := .slice (some ⟨W1.heap.size, 0, none⟩) 16 16) (w1 := W1.alloc (.cells (A8 letters) 5)) rfl ?_ ?_
  · go_simp
    rfl
  simp only [Act.put, List.setIfInBounds_toArray, List.set_cons_succ, List.set_cons_zero]
  have hcv := convert_same (P := Try.prog) W1 22 5 (A8 letters) 16 16 Try.underlying22 Try.underlying5
  refine z_run (v := .slice (some ⟨W1.heap.size, 0, none⟩) 16 16) (w1 := W1.alloc (.cells (A8 letters) 5 ((A8 letters).size, (A8 letters).size + 1))) rfl ?_ ?_
  · go_simp
  simp only [Act.put, List.setIfInBounds_toArray, List.set_cons_succ, List.set_cons_zero]
  have R0 := letters_rd W1 5 ((A8 letters).size, (A8 letters).size + 1) _ (show _ = A8 letters from rfl)
  have B0a := B0'.out.alloc (.cells (A8 letters) 5 ((A8 letters).size, (A8 letters).size + 1))
  have B1a := B1'.out.alloc (.cells (A8 letters) 5 ((A8 letters).size, (A8 letters).size + 1))
  have BSa := BS.out.alloc (.cells (A8 letters) 5 ((A8 letters).size, (A8 letters).size + 1))
  have B2a := B2.out.alloc B2.out.size (.cells (A8 letters) 5 ((A8 letters).size, (A8 letters).size + 1))
  generalize W1.alloc (.cells (A8 letters) 5 ((A8 letters).size, (A8 letters).size + 1)) = W2 at *
  generalize W1.heap.size = pL at *
  clear hcv
  have RK := B0a.rd8 32 (by omega) (by rw [hk]; decide)
  rw [List.take_of_length_le (by omega), hk] at RK
  have RI := B1a.rd8 16 (by omega) (by rw [hi]; decide)
  rw [List.take_of_length_le (by omega), hi] at RI
  repeat
    first
      | ((with_reducible refine z_move (a' := ?_) ?_ ?_); rotate_left; · (simp only [Act.put, List.setIfInBounds_toArray, List.set_cons_succ, List.set_cons_zero, Act.eval, Array.getD_eq_getD_getElem?, List.getElem?_toArray, List.getElem?_cons_succ, List.getElem?_cons_zero, Option.getD_some]; exact rfl))
      | ((with_reducible refine z_assign (a' := ?_) ?_ ?_); rotate_left; · (simp only [Act.put, List.setIfInBounds_toArray, List.set_cons_succ, List.set_cons_zero, Act.eval, Array.getD_eq_getD_getElem?, List.getElem?_toArray, List.getElem?_cons_succ, List.getElem?_cons_zero, Option.getD_some]; exact rfl))
      | ((with_reducible refine z_obl (v := ?_) (a' := ?_) rfl (fun _ => ?_) ?_ ?_); rotate_left; rotate_left; (focus (go_simp; (try go_bits); exact rfl)); (focus (simp only [Act.put, List.setIfInBounds_toArray, List.set_cons_succ, List.set_cons_zero, Act.eval, Array.getD_eq_getD_getElem?, List.getElem?_toArray, List.getElem?_cons_succ, List.getElem?_cons_zero, Option.getD_some]; exact rfl)))
      | ((with_reducible refine z_read (v := ?_) (a' := ?_) rfl ?_ ?_ ?_); rotate_left; rotate_left; (focus (go_simp; (try go_bits); exact rfl)); (focus (simp only [Act.put, List.setIfInBounds_toArray, List.set_cons_succ, List.set_cons_zero, Act.eval, Array.getD_eq_getD_getElem?, List.getElem?_toArray, List.getElem?_cons_succ, List.getElem?_cons_zero, Option.getD_some]; exact rfl)))
  refine z_append8g R0 RK rfl rfl Try.underlying22 info8 (by omega) (by omega) (by omega) (by omega) (fun w3 v3 o3 hb3 => ?_)
  simp only [Act.put, List.setIfInBounds_toArray, List.set_cons_succ, List.set_cons_zero]
  repeat
    first
      | ((with_reducible refine z_move (a' := ?_) ?_ ?_); rotate_left; · (simp only [Act.put, List.setIfInBounds_toArray, List.set_cons_succ, List.set_cons_zero, Act.eval, Array.getD_eq_getD_getElem?, List.getElem?_toArray, List.getElem?_cons_succ, List.getElem?_cons_zero, Option.getD_some]; exact rfl))
      | ((with_reducible refine z_assign (a' := ?_) ?_ ?_); rotate_left; · (simp only [Act.put, List.setIfInBounds_toArray, List.set_cons_succ, List.set_cons_zero, Act.eval, Array.getD_eq_getD_getElem?, List.getElem?_toArray, List.getElem?_cons_succ, List.getElem?_cons_zero, Option.getD_some]; exact rfl))
      | ((with_reducible refine z_obl (v := ?_) (a' := ?_) rfl (fun _ => ?_) ?_ ?_); rotate_left; rotate_left; (focus (go_simp; (try go_bits); exact rfl)); (focus (simp only [Act.put, List.setIfInBounds_toArray, List.set_cons_succ, List.set_cons_zero, Act.eval, Array.getD_eq_getD_getElem?, List.getElem?_toArray, List.getElem?_cons_succ, List.getElem?_cons_zero, Option.getD_some]; exact rfl)))
      | ((with_reducible refine z_read (v := ?_) (a' := ?_) rfl ?_ ?_ ?_); rotate_left; rotate_left; (focus (go_simp; (try go_bits); exact rfl)); (focus (simp only [Act.put, List.setIfInBounds_toArray, List.set_cons_succ, List.set_cons_zero, Act.eval, Array.getD_eq_getD_getElem?, List.getElem?_toArray, List.getElem?_cons_succ, List.getElem?_cons_zero, Option.getD_some]; exact rfl)))
  refine z_nil (hK2 _ _ ?_)
  have O3 := Lib.hid o3
  have B1b := Lib.hid (B1a.belowAll hb3)
  have BSb := Lib.hid (BSa.belowAll hb3)
  have B3 := Lib.hid (B2a.trans (hb3.mono B2a.size))
  have RI3 := Lib.hid (RI.below hb3)
  have hgt := (B2a.size)
  have hsz3 := hb3.size
  have hpS := BSa.lt
  clear o3 R0 RK RI B0a B1a BSa B2a hb3 hK2
  go_upto_region 3 with fail
  refine wp_region_plain [0,0,2,0] rfl (fun ops' K2 hK2 => ?_)
  repeat
    first
      | ((with_reducible refine z_move (a' := ?_) ?_ ?_); rotate_left; · (simp only [Act.put, List.setIfInBounds_toArray, List.set_cons_succ, List.set_cons_zero, Act.eval, Array.getD_eq_getD_getElem?, List.getElem?_toArray, List.getElem?_cons_succ, List.getElem?_cons_zero, Option.getD_some]; exact rfl))
      | ((with_reducible refine z_assign (a' := ?_) ?_ ?_); rotate_left; · (simp only [Act.put, List.setIfInBounds_toArray, List.set_cons_succ, List.set_cons_zero, Act.eval, Array.getD_eq_getD_getElem?, List.getElem?_toArray, List.getElem?_cons_succ, List.getElem?_cons_zero, Option.getD_some]; exact rfl))
      | ((with_reducible refine z_obl (v := ?_) (a' := ?_) rfl (fun _ => ?_) ?_ ?_); rotate_left; rotate_left; (focus (go_simp; (try go_bits); exact rfl)); (focus (simp only [Act.put, List.setIfInBounds_toArray, List.set_cons_succ, List.set_cons_zero, Act.eval, Array.getD_eq_getD_getElem?, List.getElem?_toArray, List.getElem?_cons_succ, List.getElem?_cons_zero, Option.getD_some]; exact rfl)))
      | ((with_reducible refine z_read (v := ?_) (a' := ?_) rfl ?_ ?_ ?_); rotate_left; rotate_left; (focus (go_simp; (try go_bits); exact rfl)); (focus (simp only [Act.put, List.setIfInBounds_toArray, List.set_cons_succ, List.set_cons_zero, Act.eval, Array.getD_eq_getD_getElem?, List.getElem?_toArray, List.getElem?_cons_succ, List.getElem?_cons_zero, Option.getD_some]; exact rfl)))
  refine z_append8 O3.out RI3.out rfl rfl Try.underlying22 info8 (by simp [hk, letters]) hsz3 (fun w4 v4 o4 g4 b4 => ?_)
  simp only [Act.put, List.setIfInBounds_toArray, List.set_cons_succ, List.set_cons_zero]
  repeat
    first
      | ((with_reducible refine z_move (a' := ?_) ?_ ?_); rotate_left; · (simp only [Act.put, List.setIfInBounds_toArray, List.set_cons_succ, List.set_cons_zero, Act.eval, Array.getD_eq_getD_getElem?, List.getElem?_toArray, List.getElem?_cons_succ, List.getElem?_cons_zero, Option.getD_some]; exact rfl))
      | ((with_reducible refine z_assign (a' := ?_) ?_ ?_); rotate_left; · (simp only [Act.put, List.setIfInBounds_toArray, List.set_cons_succ, List.set_cons_zero, Act.eval, Array.getD_eq_getD_getElem?, List.getElem?_toArray, List.getElem?_cons_succ, List.getElem?_cons_zero, Option.getD_some]; exact rfl))
      | ((with_reducible refine z_obl (v := ?_) (a' := ?_) rfl (fun _ => ?_) ?_ ?_); rotate_left; rotate_left; (focus (go_simp; (try go_bits); exact rfl)); (focus (simp only [Act.put, List.setIfInBounds_toArray, List.set_cons_succ, List.set_cons_zero, Act.eval, Array.getD_eq_getD_getElem?, List.getElem?_toArray, List.getElem?_cons_succ, List.getElem?_cons_zero, Option.getD_some]; exact rfl)))
      | ((with_reducible refine z_read (v := ?_) (a' := ?_) rfl ?_ ?_ ?_); rotate_left; rotate_left; (focus (go_simp; (try go_bits); exact rfl)); (focus (simp only [Act.put, List.setIfInBounds_toArray, List.set_cons_succ, List.set_cons_zero, Act.eval, Array.getD_eq_getD_getElem?, List.getElem?_toArray, List.getElem?_cons_succ, List.getElem?_cons_zero, Option.getD_some]; exact rfl)))
  refine z_nil (hK2 _ _ ?_)
  obtain ⟨ALL, hALL⟩ : ∃ ALL, ALL = letters ++ key ++ inp := ⟨_, rfl⟩
  have hal : ALL.length = 64 := by rw [hALL]; simp [hk, hi, letters]
  rw [← hALL] at o4
  have hsb := HSB.out
  rw [← hALL] at hsb
  have HSB2 := Lib.hid hsb
  clear hsb
  obtain ⟨a4, c4, rfl, hr4, _⟩ := o4.rd
  rw [hal] at hr4 ⊢
  obtain ⟨b4', o4', rfl, _, _⟩ := hr4.2.2.2 (by omega)
  have R4 := Lib.hid hr4
  have BS4 := Lib.hid (BSb.out.grown g4 (O3.out.apart hpS))
  have B4 := Lib.hid (B3.out.trans (b4.mono hgt))
  have HAL := Lib.hid hal
  clear o4 hr4 g4 b4 hK2 hALL hal hsz3 hgt hpS O3 RI3 BSb B3 HSB
  go_wp2_with fail
  go_loopw [7] (fun i wr => ∃ j : Nat, j ≤ 16 ∧ i = .int .i64 j ∧ Blk wr pS 39 (A32 S) ∧ Rd8 wr (some ⟨b4', o4', none⟩) 64 c4 ALL ∧ Below w.heap.size w wr) (fun i _ => 16 - (intOf i).toNat)
  case atStart => exact ⟨0, Nat.zero_le _, rfl, BS4.out, R4.out, B4.out⟩
  case round =>
    obtain ⟨j, hj, rfl, hS, hR, hB⟩ := hrel
    have S5 := Lib.hid hS
    have R5 := Lib.hid hR
    have B5 := Lib.hid hB
    clear hS hR hB BS4 R4 B4
    by_cases hj16 : j < 16
    · have j0 : (0 : Int) ≤ (j : Int) := by omega
      have j1 : (j : Int) < 16 := by omega
      have c1 := S5.out.cell32 HSL.out j hj16
      go_wp2_with fail
      refine (putword_any (nth S j) _).mono ?_
      rintro e w5 ⟨rfl, hb5⟩
      have S6 := Lib.hid ((S5.out.belowAll hb5).alloc (.cells (A8 (le32 (nth S j))) 41))
      have R6 := Lib.hid ((R5.out.below hb5).alloc (.cells (A8 (le32 (nth S j))) 41))
      have P6 := Lib.hid (Blk.new w5 41 (A8 (le32 (nth S j))))
      have hC6 := B5.out.trans (hb5.mono B5.out.size)
      have B6 := Lib.hid (hC6.alloc hC6.size (.cells (A8 (le32 (nth S j))) 41))
      clear c1 hb5 hC6 S5 R5 B5
      have hpw := (P6.out.drew).rd8 4 (by simp) (by simp [maxLen])
      rw [le32_length, List.take_of_length_le (by simp)] at hpw
      obtain ⟨J0, hJ0⟩ : ∃ q, q = 4 * j := ⟨_, rfl⟩
      obtain ⟨J4, hJ4⟩ : ∃ q, q = 4 * j + 4 := ⟨_, rfl⟩
      have f1 : (4 : Int) * (j : Int) = (J0 : Int) := by omega
      have f2 : IntKind.i64.wrap (J0 : Int) = (J0 : Int) := by rw [IntKind.wrap_i64]; omega
      have f3 : (J0 : Int) + 4 = (J4 : Int) := by omega
      have f4 : IntKind.i64.wrap (J4 : Int) = (J4 : Int) := by rw [IntKind.wrap_i64]; omega
      have hcap := R6.out.2.1
      have f5 : (0 : Int) ≤ (J0 : Int) := by omega
      have f6 : (J0 : Int) ≤ (J4 : Int) := by omega
      have f7 : (J4 : Int) ≤ (c4 : Int) := by omega
      have f8 : ¬ c4 = J0 := by omega
      have hcut := (R6.out.drew).cut (j := J0) (k := J4) (by omega) (by omega)
      rw [if_neg f8] at hcut
      have hlaw : (ALL.take J4).drop J0 = le32 (nth S j) := by
        rw [HSB2.out j hj16, List.drop_take, hJ0, show J4 - 4 * j = 4 by omega]
      rw [hlaw] at hcut
      simp only [Option.map_some, Addr.add_lit] at hcut
      go_upto_region 8 with fail
      generalize w5.alloc (.cells (A8 (le32 (nth S j))) 41) = W6 at *
      generalize w5.heap.size = p6 at *
      have s1 := run_str (P := Try.prog) W6.drew 22 9 5 _ _ _ _ Try.underlying22 Try.underlying9 Try.underlying5 hpw
      have s2 := run_str (P := Try.prog) W6.drew 22 9 5 _ _ _ _ Try.underlying22 Try.underlying9 Try.underlying5 hcut
      clear hJ0 hJ4 hcut hlaw hpw hcap
      refine wp_region_text3 [0,1,0,0,0,0,0,0,0,1,0] (by kernel_rfl) (by kernel_rfl) (fun K9 hK9 => ?_)
      repeat
        first
          | ((with_reducible refine z_move (a' := ?_) ?_ ?_); rotate_left; · (simp only [Act.put, List.setIfInBounds_toArray, List.set_cons_succ, List.set_cons_zero, Act.eval, Array.getD_eq_getD_getElem?, List.getElem?_toArray, List.getElem?_cons_succ, List.getElem?_cons_zero, Option.getD_some]; exact rfl))
          | ((with_reducible refine z_assign (a' := ?_) ?_ ?_); rotate_left; · (simp only [Act.put, List.setIfInBounds_toArray, List.set_cons_succ, List.set_cons_zero, Act.eval, Array.getD_eq_getD_getElem?, List.getElem?_toArray, List.getElem?_cons_succ, List.getElem?_cons_zero, Option.getD_some]; exact rfl))
          | ((with_reducible refine z_obl (v := ?_) (a' := ?_) rfl (fun _ => ?_) ?_ ?_); rotate_left; rotate_left; (focus (go_simp; (try go_bits); exact rfl)); (focus (simp only [Act.put, List.setIfInBounds_toArray, List.set_cons_succ, List.set_cons_zero, Act.eval, Array.getD_eq_getD_getElem?, List.getElem?_toArray, List.getElem?_cons_succ, List.getElem?_cons_zero, Option.getD_some]; exact rfl)))
          | ((with_reducible refine z_read (v := ?_) (a' := ?_) rfl ?_ ?_ ?_); rotate_left; rotate_left; (focus (go_simp; (try go_bits); exact rfl)); (focus (simp only [Act.put, List.setIfInBounds_toArray, List.set_cons_succ, List.set_cons_zero, Act.eval, Array.getD_eq_getD_getElem?, List.getElem?_toArray, List.getElem?_cons_succ, List.getElem?_cons_zero, Option.getD_some]; exact rfl)))
      refine z_nil (hK9 _ _ ?_)
      clear s1 s2 f1 f2 f3 f4 f5 f6 f7 f8
      go_wp2
      exact ⟨⟨j + 1, by omega, by go_num, S6.out.drew, R6.out.drew, B6.out.drew⟩, by simp [intOf]; omega⟩
    · obtain rfl : j = 16 := by omega
      go_wp2_with fail
      refine (awake_any _).mono ?_
      rintro e w6 ⟨rfl, hb6⟩
      go_wp2
      go_ret
      exact ⟨rfl, B5.out.trans (hb6.mono B5.out.size)⟩
end Go.Proofs.Ythogbbigglmapaa
