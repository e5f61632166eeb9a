/- chacha: Short, Block -/
import Derived.Test.YthogbbigglmapaaCha5
namespace Go.Proofs.Ythogbbigglmapaa
open Go.RowKit
def shortOf (t : List (BitVec 32)) : List (BitVec 8) := bytes32 (t.take 4) ++ bytes32 (t.drop 12)
theorem shortOf_length (t : List (BitVec 32)) (h : t.length = 16) : (shortOf t).length = 32 := by simp [shortOf, bytes32_length, h]
theorem shortOf_eq (t : List (BitVec 32)) (h : t.length = 16) : splc (splc (zeros 8 32) 0 (bytes32 ((t.drop 0).take 4))) 16 (bytes32 ((t.drop 12).take 4)) = shortOf t := by
  have l1 : (bytes32 (t.take 4)).length = 16 := by simp [bytes32_length, h]
  have l2 : (bytes32 (t.drop 12)).length = 16 := by simp [bytes32_length, h]
  rw [List.drop_zero, List.take_of_length_le (l := t.drop 12) (by simp [h])]
  have := splc_splc (zeros 8 32) 0 (bytes32 (t.take 4)) (bytes32 (t.drop 12)) (by rw [l1, l2]; simp)
  rw [l1, Nat.zero_add] at this
  rw [this]
  apply ext_nth
  · rw [splc_length _ _ _ (by simp [l1, l2]), shortOf_length t h]; simp
  · intro i hi
    rw [splc_length _ _ _ (by simp [l1, l2])] at hi
    simp at hi
    rw [nth_splc _ _ _ (by simp [l1, l2]), if_pos (by simp [l1, l2]; omega), Nat.sub_zero]
    rfl
theorem short_no (key inp : List (BitVec 8)) (r : Int) (w : World) (h : ¬ (r = 8 ∨ r = 12 ∨ r = 20)) :
    Calls Try.prog 34 #[.agg (A8 key), .agg (A8 inp), .int .i64 r] w fun e w' => e = .returned (.tuple #[.agg (A8 (zeros 8 32)), .int .i64 3]) ∧ Below w.heap.size w w' := by
  go_enter Try.func34, Try.ntmps34
  go_wp2_with fail
  refine (known_no _ _ h).mono ?_
  rintro e w1 ⟨rfl, rfl⟩
  go_wp2
  refine bodyPost_row_tmp (A8 (zeros 8 32)) rfl rfl rfl (Try.isAgg35 _) (Try.sizeOf35 _) rfl (by simp [go_sem]) ⟨rfl, ?_⟩
  repeat (first | exact Below.refl _ _ | assumption | refine Below.drew ?_ | refine Below.alloc ?_ ?_ _ | refine Below.setCell ?_ ?_ _ | refine below_setRow ?_ ?_ _ | refine Below.trans ?_ (Below.mono (by assumption) ?_))
  all_goals (first | (simp; done) | (simp; omega) | (simp at *; omega))
set_option linter.unusedSimpArgs false in
set_option maxRecDepth 100000 in
theorem short_yes (key inp : List (BitVec 8)) (r : Int) (w : World) (hk : key.length = 32) (hi : inp.length = 16) (h : r = 8 ∨ r = 12 ∨ r = 20) :
    Calls Try.prog 34 #[.agg (A8 key), .agg (A8 inp), .int .i64 r] w fun e w' => e = .returned (.tuple #[.agg (A8 (shortOf (mixTo (startTo key inp 4) (r.toNat / 2)))), .int .i64 0]) ∧ Below w.heap.size w w' := by
  have HK := Lib.hid hk
  have HI := Lib.hid hi
  obtain ⟨t, ht⟩ : ∃ t, t = mixTo (startTo key inp 4) (r.toNat / 2) := ⟨_, rfl⟩
  have hm : t.length = 16 := by rw [ht, mixTo_length, startTo_length]
  have HM := Lib.hid hm
  have HT := Lib.hid ht
  clear ht hm
  go_enter Try.func34, Try.ntmps34
  go_wp2_with fail
  refine (known_yes _ _ h).mono ?_
  rintro e w0 ⟨rfl, hw⟩
  obtain ⟨k0, k1, k2, k3, hb, hz⟩ := new4 _ _ _ _ _ _ _ _ _ _ hw
  have r0 := k0.row
  have r1 := k1.row
  have K2 := Lib.hid k2
  have K3 := Lib.hid k3
  have B0 := Lib.hid hb
  have Z0 := Lib.hid hz
  clear hw k0 k1 k2 k3 hb hz
  go_wp2_with fail
  refine (start_any key inp _ hk hi).mono ?_
  rintro e w1 ⟨rfl, hb1⟩
  have J2 := Lib.hid (K2.out.belowAll hb1)
  have J3 := Lib.hid (K3.out.belowAll hb1)
  have B1 := Lib.hid (B0.out.trans (hb1.mono B0.out.size))
  clear r0 r1 hb1 K2 K3
  go_wp2_with fail
  refine (mixed_any (startTo key inp 4) r _ (startTo_length _ _ _) (by omega) (by omega)).mono ?_
  rintro e w2 ⟨rfl, hb2⟩
  rw [← HT.out]
  have I2 := Lib.hid (J2.out.belowAll hb2)
  have I3 := Lib.hid (J3.out.belowAll hb2)
  have B2 := Lib.hid (B1.out.trans (hb2.mono B1.out.size))
  clear hb2 J2 J3 B0 B1
  have hm := HM.out
  go_wp2_with fail
  clear hm
  have hsz := I3.out.lt
  have T1 := Blk.new w2 39 (A32 t)
  refine wp_region_text' [0,0,2] (by kernel_rfl) (by kernel_rfl) (fun ops' K' hK' => ?_)
  repeat
    first
      | ((with_reducible refine z_move (a' := ?_) ?_ ?_); rotate_left; · (simp only [Act.put, List.setIfInBounds_toArray, List.set_cons_succ, List.set_cons_zero, Act.eval, Array.getD_eq_getD_getElem?, List.getElem?_toArray, List.getElem?_cons_succ, List.getElem?_cons_zero, Option.getD_some]; exact rfl))
      | ((with_reducible refine z_assign (a' := ?_) ?_ ?_); rotate_left; · (simp only [Act.put, List.setIfInBounds_toArray, List.set_cons_succ, List.set_cons_zero, Act.eval, Array.getD_eq_getD_getElem?, List.getElem?_toArray, List.getElem?_cons_succ, List.getElem?_cons_zero, Option.getD_some]; exact rfl))
      | ((with_reducible refine z_obl (v := ?_) (a' := ?_) rfl (fun _ => ?_) ?_ ?_); rotate_left; rotate_left; (focus (go_simp; (try go_bits); exact rfl)); (focus (simp only [Act.put, List.setIfInBounds_toArray, List.set_cons_succ, List.set_cons_zero, Act.eval, Array.getD_eq_getD_getElem?, List.getElem?_toArray, List.getElem?_cons_succ, List.getElem?_cons_zero, Option.getD_some]; exact rfl)))
      | ((with_reducible refine z_read (v := ?_) (a' := ?_) rfl ?_ ?_ ?_); rotate_left; rotate_left; (focus (go_simp; (try go_bits); exact rfl)); (focus (simp only [Act.put, List.setIfInBounds_toArray, List.set_cons_succ, List.set_cons_zero, Act.eval, Array.getD_eq_getD_getElem?, List.getElem?_toArray, List.getElem?_cons_succ, List.getElem?_cons_zero, Option.getD_some]; exact rfl)))
  (with_reducible refine z_callw rfl ?_)
  go_simp
  refine entersW_of ?_
  refine (put_any t (zeros 8 32) (w.heap.size + 3) 0 32 32 w2.heap.size 0 4 16 35 39 _ (I3.out.alloc _).drew T1.drew (by omega) (by rw [HM.out]; omega) (by omega) (by omega) (by omega) (by simp)).mono ?_
  rintro e w3 ⟨rfl, hg3, hk3⟩
  refine ⟨_, rfl, ?_⟩
  try simp only [Act.put, List.setIfInBounds_toArray, List.set_cons_succ, List.set_cons_zero]
  refine z_nil (hK' _ _ ?_)
  have T2 := Lib.hid ((T1.drew).grown hg3 (by simp; omega))
  have P2 := Lib.hid ((I2.out.alloc _).drew.grown hg3 (by simp))
  have P3 := Lib.hid hk3
  have B3 := Lib.hid (((B2.out.alloc B2.out.size (.cells (A32 t) 39)).drew).trans (grown_below hg3 (by omega) (by simp; omega)))
  have sz3 := hg3.size
  simp at sz3
  clear T1 hg3 hk3
  go_wp2_with fail
  refine wp_region_text' [0,0,2] (by kernel_rfl) (by kernel_rfl) (fun ops' K2 hK2 => ?_)
  repeat
    first
      | ((with_reducible refine z_move (a' := ?_) ?_ ?_); rotate_left; · (simp only [Act.put, List.setIfInBounds_toArray, List.set_cons_succ, List.set_cons_zero, Act.eval, Array.getD_eq_getD_getElem?, List.getElem?_toArray, List.getElem?_cons_succ, List.getElem?_cons_zero, Option.getD_some]; exact rfl))
      | ((with_reducible refine z_assign (a' := ?_) ?_ ?_); rotate_left; · (simp only [Act.put, List.setIfInBounds_toArray, List.set_cons_succ, List.set_cons_zero, Act.eval, Array.getD_eq_getD_getElem?, List.getElem?_toArray, List.getElem?_cons_succ, List.getElem?_cons_zero, Option.getD_some]; exact rfl))
      | ((with_reducible refine z_obl (v := ?_) (a' := ?_) rfl (fun _ => ?_) ?_ ?_); rotate_left; rotate_left; (focus (go_simp; (try go_bits); exact rfl)); (focus (simp only [Act.put, List.setIfInBounds_toArray, List.set_cons_succ, List.set_cons_zero, Act.eval, Array.getD_eq_getD_getElem?, List.getElem?_toArray, List.getElem?_cons_succ, List.getElem?_cons_zero, Option.getD_some]; exact rfl)))
      | ((with_reducible refine z_read (v := ?_) (a' := ?_) rfl ?_ ?_ ?_); rotate_left; rotate_left; (focus (go_simp; (try go_bits); exact rfl)); (focus (simp only [Act.put, List.setIfInBounds_toArray, List.set_cons_succ, List.set_cons_zero, Act.eval, Array.getD_eq_getD_getElem?, List.getElem?_toArray, List.getElem?_cons_succ, List.getElem?_cons_zero, Option.getD_some]; exact rfl)))
  (with_reducible refine z_callw rfl ?_)
  go_simp
  refine entersW_of ?_
  refine (put_any t (splc (zeros 8 32) 0 (bytes32 ((t.drop 0).take 4))) (w.heap.size + 3) 16 16 16 w2.heap.size 12 4 4 35 39 _ P3.out.drew T2.out.drew (by omega) (by rw [HM.out]; omega) (by omega) (by omega) (by omega) (by rw [splc_length _ _ _ (by simp [bytes32_length]; omega)]; simp)).mono ?_
  rintro e w4 ⟨rfl, hg4, hk4⟩
  refine ⟨_, rfl, ?_⟩
  try simp only [Act.put, List.setIfInBounds_toArray, List.set_cons_succ, List.set_cons_zero]
  refine z_nil (hK2 _ _ ?_)
  rw [shortOf_eq t HM.out] at hk4
  have Q2 := (P2.out.drew.grown hg4 (by simp))
  have r1 := hk4.row
  have r2 := Q2.row
  have r3 := Q2.whole
  have hso := shortOf_length t HM.out
  have B4 := Lib.hid (B3.out.drew.trans (grown_below hg4 (by omega) (by simp; omega)))
  clear hk4 hg4 Q2 T2 P2 P3 B2 I2 I3
  go_wp2
  refine bodyPost_row_tmp (A8 (shortOf t)) rfl rfl rfl (Try.isAgg35 _) (Try.sizeOf35 _) (by rw [A8_size]; exact hso) (rowAt_setRow _ r3) ⟨?_, below_setRow B4.out (by omega) _⟩
  rw [← HT.out]; rfl
/-- a state, another one added, so many numbers done -/
def sumTo (t s : List (BitVec 32)) : Nat → List (BitVec 32)
  | 0 => t
  | i + 1 => (sumTo t s i).set i (nth (sumTo t s i) i + nth s i)
theorem sumTo_length (t s : List (BitVec 32)) (i : Nat) : (sumTo t s i).length = t.length := by
  induction i with
  | zero => rfl
  | succ i ih => rw [sumTo, List.length_set, ih]
def blockOf (s : List (BitVec 32)) (n : Nat) : List (BitVec 8) := bytes32 (sumTo (mixTo s n) s 16)
theorem blockOf_length (s : List (BitVec 32)) (n : Nat) (h : s.length = 16) : (blockOf s n).length = 64 := by
  rw [blockOf, bytes32_length, sumTo_length, mixTo_length, h]
set_option maxRecDepth 100000 in
theorem blockC_no (key inp : List (BitVec 8)) (r : Int) (w : World) (h : ¬ (r = 8 ∨ r = 12 ∨ r = 20)) :
    Calls Try.prog 33 #[.agg (A8 key), .agg (A8 inp), .int .i64 r] w fun e w' => e = .returned (.tuple #[.agg (A8 (zeros 8 64)), .int .i64 3]) ∧ Below w.heap.size w w' := by
  go_enter Try.func33, Try.ntmps33
  go_wp2_with fail
  refine (known_no _ _ h).mono ?_
  rintro e w1 ⟨rfl, rfl⟩
  go_wp2
  refine bodyPost_row_tmp (A8 (zeros 8 64)) rfl rfl rfl (Try.isAgg54 _) (Try.sizeOf54 _) rfl (by simp [go_sem]) ⟨rfl, ?_⟩
  repeat (first | exact Below.refl _ _ | assumption | refine Below.drew ?_ | refine Below.alloc ?_ ?_ _ | refine Below.setCell ?_ ?_ _ | refine below_setRow ?_ ?_ _ | refine Below.trans ?_ (Below.mono (by assumption) ?_))
  all_goals (first | (simp; done) | (simp; omega) | (simp at *; omega))
structure BlockSt (w wr : World) (T : Nat) (s t : List (BitVec 32)) : Prop where
  lt : w.heap.size + 3 < T
  z : Blk wr (w.heap.size + 2) 54 (A8 (zeros 8 64))
  o : Blk wr (w.heap.size + 3) 54 (A8 (zeros 8 64))
  s : Blk wr T 39 (A32 s)
  b : Below w.heap.size w wr
set_option linter.unusedSimpArgs false in
set_option maxRecDepth 100000 in
theorem blockC_yes (key inp : List (BitVec 8)) (r : Int) (w : World) (hk : key.length = 32) (hi : inp.length = 16) (h : r = 8 ∨ r = 12 ∨ r = 20) :
    Calls Try.prog 33 #[.agg (A8 key), .agg (A8 inp), .int .i64 r] w fun e w' => e = .returned (.tuple #[.agg (A8 (blockOf (startTo key inp 4) (r.toNat / 2))), .int .i64 0]) ∧ Below w.heap.size w w' := by
  obtain ⟨s, hs⟩ : ∃ s, s = startTo key inp 4 := ⟨_, rfl⟩
  have hsl : s.length = 16 := by rw [hs, startTo_length]
  obtain ⟨t, ht⟩ : ∃ t, t = mixTo s (r.toNat / 2) := ⟨_, rfl⟩
  have hm : t.length = 16 := by rw [ht, mixTo_length, hsl]
  have HM := Lib.hid hm
  have HS := Lib.hid hsl
  have HT := Lib.hid ht
  have HSE := Lib.hid hs
  clear ht hm hs hsl
  go_enter Try.func33, Try.ntmps33
  go_wp2_with fail
  refine (known_yes _ _ h).mono ?_
  rintro e w0 ⟨rfl, hw⟩
  obtain ⟨k0, k1, k2, k3, hb, hz⟩ := new4 _ _ _ _ _ _ _ _ _ _ hw
  have r0 := k0.row
  have r1 := k1.row
  have K2 := Lib.hid k2
  have K3 := Lib.hid k3
  have B0 := Lib.hid hb
  clear hw k0 k1 k2 k3 hb hz
  go_wp2_with fail
  refine (start_any key inp _ hk hi).mono ?_
  rintro e w1 ⟨rfl, hb1⟩
  rw [← HSE.out]
  have J2 := Lib.hid ((K2.out.belowAll hb1).alloc (.cells (A32 s) 39))
  have J3 := Lib.hid ((K3.out.belowAll hb1).alloc (.cells (A32 s) 39))
  have B1 := Lib.hid ((B0.out.trans (hb1.mono B0.out.size)).alloc (Nat.le_trans B0.out.size hb1.size) (.cells (A32 s) 39))
  have hlt := (K3.out.belowAll hb1).lt
  have JS := Lib.hid (Blk.new w1 39 (A32 s))
  clear r0 r1 hb1 K2 K3 hk hi
  have hsl := HS.out
  go_wp2_with fail
  refine (mixed_any s r _ hsl (by omega) (by omega)).mono ?_
  rintro e w2 ⟨rfl, hb2⟩
  rw [← HT.out]
  have I2 := Lib.hid (J2.out.belowAll hb2)
  have I3 := Lib.hid (J3.out.belowAll hb2)
  have IS := Lib.hid (JS.out.belowAll hb2)
  have B2 := Lib.hid (B1.out.trans (hb2.mono B1.out.size))
  have hsz := hb2.size
  simp at hsz
  clear hb2 J2 J3 JS B0 B1 hsl
  have hm := HM.out
  go_wp2
  clear hm
  obtain ⟨S, hS⟩ : ∃ S, S = w1.heap.size := ⟨_, rfl⟩
  obtain ⟨T, hT⟩ : ∃ T, T = w2.heap.size := ⟨_, rfl⟩
  rw [← hT, ← hS]
  have hS3 : w.heap.size + 3 < S := by omega
  have hT3 : w.heap.size + 3 < T := by omega
  go_loopw [25] (fun i wr => ∃ j : Nat, j ≤ 16 ∧ i = .int .i64 j ∧ Blk wr (w.heap.size + 2) 54 (A8 (zeros 8 64)) ∧ Blk wr (w.heap.size + 3) 54 (A8 (zeros 8 64)) ∧ Blk wr S 39 (A32 s) ∧ Blk wr T 39 (A32 (sumTo t s j)) ∧ Below w.heap.size w wr) (fun i _ => 16 - (intOf i).toNat)
  case atStart =>
    exact ⟨0, Nat.zero_le _, rfl, I2.out.alloc _, I3.out.alloc _, by rw [hS]; exact IS.out.alloc _, by rw [hT]; exact Blk.new _ _ _, B2.out.alloc B2.out.size _⟩
  case round =>
    obtain ⟨j, hj, rfl, hz, ho, hs, ht, hb⟩ := hrel
    have Z := Lib.hid hz
    have O := Lib.hid ho
    have Sx := Lib.hid hs
    have Tx := Lib.hid ht
    have B := Lib.hid hb
    have hST : S < T := by omega
    have HST := Lib.hid hS
    have HTT := Lib.hid hT
    clear hz ho hs ht hb hS hT I2 I3 IS B2
    by_cases hj16 : j < 16
    · have j0 : (0 : Int) ≤ (j : Int) := by omega
      have j1 : (j : Int) < 16 := by omega
      have c1 := Sx.out.cell32 HS.out j hj16
      have c2 := Tx.out.cell32 (m := 16) (by rw [sumTo_length]; exact HM.out) j hj16
      go_wp2_with fail
      refine wp_region_text' [0,0,1,0,0,1,0,0,2] (by kernel_rfl) (by kernel_rfl) (fun ops' K' hK' => ?_)
      repeat
        first
          | ((with_reducible refine z_move (a' := ?_) ?_ ?_); rotate_left; · (simp only [Act.put, List.setIfInBounds_toArray, List.set_cons_succ, List.set_cons_zero, Act.eval, Array.getD_eq_getD_getElem?, List.getElem?_toArray, List.getElem?_cons_succ, List.getElem?_cons_zero, Option.getD_some]; exact rfl))
          | ((with_reducible refine z_assign (a' := ?_) ?_ ?_); rotate_left; · (simp only [Act.put, List.setIfInBounds_toArray, List.set_cons_succ, List.set_cons_zero, Act.eval, Array.getD_eq_getD_getElem?, List.getElem?_toArray, List.getElem?_cons_succ, List.getElem?_cons_zero, Option.getD_some]; exact rfl))
          | ((with_reducible refine z_obl (v := ?_) (a' := ?_) rfl (fun _ => ?_) ?_ ?_); rotate_left; rotate_left; (focus (go_simp; (try go_bits); exact rfl)); (focus (simp only [Act.put, List.setIfInBounds_toArray, List.set_cons_succ, List.set_cons_zero, Act.eval, Array.getD_eq_getD_getElem?, List.getElem?_toArray, List.getElem?_cons_succ, List.getElem?_cons_zero, Option.getD_some]; exact rfl)))
          | ((with_reducible refine z_read (v := ?_) (a' := ?_) rfl ?_ ?_ ?_); rotate_left; rotate_left; (focus (go_simp; (try go_bits); exact rfl)); (focus (simp only [Act.put, List.setIfInBounds_toArray, List.set_cons_succ, List.set_cons_zero, Act.eval, Array.getD_eq_getD_getElem?, List.getElem?_toArray, List.getElem?_cons_succ, List.getElem?_cons_zero, Option.getD_some]; exact rfl)))
      refine z_store32 Tx.out.drew rfl rfl (by rw [sumTo_length, HM.out]; exact hj16) (Try.sizeOf37 _) (fun w3 hb3 hg3 _ => ?_)
      refine z_nil (hK' _ _ ?_)
      have E1 := Lib.hid hb3
      have E2 := Lib.hid hg3
      clear hb3 hg3 c1 c2
      go_wp2
      exact ⟨⟨j + 1, by omega, by go_num, Z.out.drew.grown E2.out (by simp; omega), O.out.drew.grown E2.out (by simp; omega), Sx.out.drew.grown E2.out (by simp; omega), E1.out, B.out.drew.trans (grown_below E2.out (by omega) B.out.size)⟩, by simp [intOf]; omega⟩
    · obtain rfl : j = 16 := by omega
      go_wp2_with fail
      refine wp_region_text' [0,0,2] (by kernel_rfl) (by kernel_rfl) (fun ops' K2 hK2 => ?_)
      repeat
        first
          | ((with_reducible refine z_move (a' := ?_) ?_ ?_); rotate_left; · (simp only [Act.put, List.setIfInBounds_toArray, List.set_cons_succ, List.set_cons_zero, Act.eval, Array.getD_eq_getD_getElem?, List.getElem?_toArray, List.getElem?_cons_succ, List.getElem?_cons_zero, Option.getD_some]; exact rfl))
          | ((with_reducible refine z_assign (a' := ?_) ?_ ?_); rotate_left; · (simp only [Act.put, List.setIfInBounds_toArray, List.set_cons_succ, List.set_cons_zero, Act.eval, Array.getD_eq_getD_getElem?, List.getElem?_toArray, List.getElem?_cons_succ, List.getElem?_cons_zero, Option.getD_some]; exact rfl))
          | ((with_reducible refine z_obl (v := ?_) (a' := ?_) rfl (fun _ => ?_) ?_ ?_); rotate_left; rotate_left; (focus (go_simp; (try go_bits); exact rfl)); (focus (simp only [Act.put, List.setIfInBounds_toArray, List.set_cons_succ, List.set_cons_zero, Act.eval, Array.getD_eq_getD_getElem?, List.getElem?_toArray, List.getElem?_cons_succ, List.getElem?_cons_zero, Option.getD_some]; exact rfl)))
          | ((with_reducible refine z_read (v := ?_) (a' := ?_) rfl ?_ ?_ ?_); rotate_left; rotate_left; (focus (go_simp; (try go_bits); exact rfl)); (focus (simp only [Act.put, List.setIfInBounds_toArray, List.set_cons_succ, List.set_cons_zero, Act.eval, Array.getD_eq_getD_getElem?, List.getElem?_toArray, List.getElem?_cons_succ, List.getElem?_cons_zero, Option.getD_some]; exact rfl)))
      (with_reducible refine z_callw rfl ?_)
      go_simp
      refine entersW_of ?_
      refine (put_any (sumTo t s 16) (zeros 8 64) (w.heap.size + 3) 0 64 64 T 0 16 16 54 39 _ O.out.drew Tx.out.drew (by omega) (by rw [sumTo_length, HM.out]; omega) (by omega) (by omega) (by omega) (by simp)).mono ?_
      rintro e w4 ⟨rfl, hg4, hk4⟩
      refine ⟨_, rfl, ?_⟩
      try simp only [Act.put, List.setIfInBounds_toArray, List.set_cons_succ, List.set_cons_zero]
      refine z_nil (hK2 _ _ ?_)
      have hbl : (bytes32 (sumTo t s 16)).length = 64 := by rw [bytes32_length, sumTo_length, HM.out]
      have e1 : splc (zeros 8 64) 0 (bytes32 (((sumTo t s 16).drop 0).take 16)) = bytes32 (sumTo t s 16) := by
        rw [List.drop_zero, List.take_of_length_le (by rw [sumTo_length, HM.out]; omega), splc_full _ _ (by rw [hbl]; simp)]
      rw [e1] at hk4
      have Q2 := (Z.out.drew.grown hg4 (by simp))
      have r1 := hk4.row
      have r2 := Q2.row
      have r3 := Q2.whole
      have B4 := Lib.hid (B.out.drew.trans (grown_below hg4 (by omega) B.out.size))
      clear hk4 hg4 Q2 Z O Sx Tx B e1
      go_wp2
      refine bodyPost_row_tmp (A8 (bytes32 (sumTo t s 16))) rfl rfl rfl (Try.isAgg54 _) (Try.sizeOf54 _) (by rw [A8_size]; exact hbl) (rowAt_setRow _ r3) ⟨?_, below_setRow B4.out (by omega) _⟩
      rw [blockOf, ← HSE.out, ← HT.out]; rfl
end Go.Proofs.Ythogbbigglmapaa
