/- hctr: plus -/
import Derived.Test.YtfdkmjegcghieaaGreatDoorHcP
import Derived.Test.YtfdkmjegcghieaaGreatDoorHk
namespace Go.Proofs.YtfdkmjegcghieaaGreatDoor
open Go.RowKit
/-- rows of sixteen bytes, added up -/
def sumTo (L : List (BitVec 8)) : Nat → List (BitVec 8)
  | 0 => zeros 8 16
  | j + 1 => xor16 (sumTo L j) (keyAt L j)
theorem sumTo_length (L : List (BitVec 8)) : ∀ j, (sumTo L j).length = 16
  | 0 => rfl
  | _ + 1 => xor16_length _ _
theorem upd_xor16 (a b : List (BitVec 8)) (h : a.length = 16) : upd (fun i => nth a i ^^^ nth b i) a 16 = xor16 a b := by
  unfold upd; rw [h]; rfl
theorem xor16_zero (x : List (BitVec 8)) (h : x.length = 16) : xor16 (zeros 8 16) x = x := by
  apply ext_nth (by rw [xor16_length, h])
  intro i hi
  rw [xor16_length] at hi
  rw [xor16, nth_r16 _ _ hi, nth_zeros, BitVec.zero_xor]
theorem sumTo2 (x y : List (BitVec 8)) (hx : x.length = 16) (hy : y.length = 16) : sumTo (x ++ y) 2 = xor16 x y := by
  have e0 : keyAt (x ++ y) 0 = x := by rw [keyAt, Nat.zero_mul, List.drop_zero, List.take_left' hx]
  have e1 : keyAt (x ++ y) 1 = y := by rw [keyAt, Nat.one_mul, List.drop_left' hx, List.take_of_length_le (by omega)]
  rw [sumTo, sumTo, sumTo, e0, e1, xor16_zero _ hx]
theorem sumTo3 (x y z : List (BitVec 8)) (hx : x.length = 16) (hy : y.length = 16) (hz : z.length = 16) : sumTo (x ++ y ++ z) 3 = xor16 (xor16 x y) z := by
  have e0 : keyAt (x ++ y ++ z) 0 = x := by rw [keyAt, Nat.zero_mul, List.drop_zero, List.append_assoc, List.take_left' hx]
  have e1 : keyAt (x ++ y ++ z) 1 = y := by rw [keyAt, Nat.one_mul, List.append_assoc, List.drop_left' hx, List.take_left' hy]
  have e2 : keyAt (x ++ y ++ z) 2 = z := by rw [keyAt, List.drop_left' (by rw [List.length_append]; omega), List.take_of_length_le (by omega)]
  rw [sumTo, sumTo, sumTo, sumTo, e0, e1, e2, xor16_zero _ hx]
theorem keyAt16 (L : List (BitVec 8)) (m j : Nat) (h : L.length = m * 16) (hj : j < m) : (keyAt L j).length = 16 := by
  rw [keyAt, List.length_take, List.length_drop, h]; omega
set_option linter.unusedSimpArgs false in
set_option maxRecDepth 100000 in
set_option maxHeartbeats 800000 in
theorem hplus_any (L : List (BitVec 8)) (g m c : Nat) (w : World) (hr : RdS w 16 (some ⟨g, 0, none⟩) m c L) (hm : m ≤ 3) :
    Calls Tryz.prog 57 #[.slice (some ⟨g, 0, none⟩) m c] w fun e w' => e = .returned (.agg (A8 (sumTo L m))) ∧ Below w.heap.size w w' := by
  obtain ⟨W, hW⟩ : ∃ W, (w.alloc (.cells (A8 (zeros 8 16)) 37)).alloc (.cells (A8 (zeros 8 16)) 37) = W := ⟨_, rfl⟩
  obtain ⟨b0, b1, hb, hz⟩ := new2 _ _ _ _ _ _ hW
  have Z0 := Lib.hid b0
  have P0 := Lib.hid b1
  have B0 := Lib.hid hb
  have RR := Lib.hid hr
  have hl := hr.1
  clear b0 b1 hb hz hr
  go_enter Tryz.func57, Tryz.ntmps57
  go_wp2_with fail
  go_loopw [9] (fun i wr => ∃ j : Nat, j ≤ m ∧ i = .int .i64 j ∧ Blk wr w.heap.size 37 (A8 (zeros 8 16)) ∧ Blk wr (w.heap.size + 1) 37 (A8 (sumTo L j)) ∧ Below w.heap.size w wr) (fun i _ => m - (intOf i).toNat)
  case atStart => exact ⟨0, Nat.zero_le _, rfl, Z0.out, P0.out, B0.out⟩
  case round =>
    obtain ⟨j, hj, rfl, hZ, hP, hB⟩ := hrel
    have Z1 := Lib.hid hZ
    have P1 := Lib.hid hP
    have B1 := Lib.hid hB
    clear hZ hP hB Z0 P0 B0 hW
    by_cases hjm : j < m
    · have j1 : (j : Int) < (m : Int) := by omega
      have j0 : (0 : Int) ≤ (j : Int) := by omega
      have c3 := (RR.out.below B1.out).row (t := 37) (Tryz.isAgg37 _) (Tryz.sizeOf37 _) j hjm
      rw [Nat.zero_add, show (L.drop (j * 16)).take 16 = keyAt L j from rfl] at c3
      have hXl := keyAt16 L m j hl hjm
      have hAl := sumTo_length L j
      obtain ⟨X, hX⟩ : ∃ X, X = keyAt L j := ⟨_, rfl⟩
      obtain ⟨A, hA⟩ : ∃ A, A = sumTo L j := ⟨_, rfl⟩
      rw [← hX] at c3 hXl
      rw [← hA] at P1 hAl
      have hfin : xor16 A X = sumTo L (j + 1) := by rw [hX, hA, sumTo]
      have HF := Lib.hid hfin
      have X1 := Lib.hid (Blk.new wr 37 (A8 X))
      have Z2 := Lib.hid (Z1.out.alloc (.cells (A8 X) 37))
      have P2 := Lib.hid (P1.out.alloc (.cells (A8 X) 37))
      have B2 := Lib.hid (B1.out.alloc B1.out.size (.cells (A8 X) 37))
      have hne : wr.heap.size ≠ w.heap.size + 1 := by have := P1.out.lt; omega
      have hge : w.heap.size ≤ wr.heap.size := B1.out.size
      clear hX hA hfin Z1 P1 B1
      go_wp2_with fail
      generalize wr.alloc (.cells (A8 X) 37) = V at *
      generalize wr.heap.size = q at *
      have huf := upd_xor16 A X hAl
      obtain ⟨f, hf⟩ : ∃ f : Nat → BitVec 8, f = fun i => nth A i ^^^ nth X i := ⟨_, rfl⟩
      rw [← hf] at huf
      have HU := Lib.hid huf
      have HFf := Lib.hid hf
      clear huf hf c3
      go_loopw [13] (fun i2 wi => ∃ k : Nat, k ≤ 16 ∧ i2 = .int .i64 k ∧ Blk wi w.heap.size 37 (A8 (zeros 8 16)) ∧ Blk wi (w.heap.size + 1) 37 (A8 (upd f A k)) ∧ Blk wi q 37 (A8 X) ∧ Below w.heap.size w wi) (fun i2 _ => 16 - (intOf i2).toNat)
      case atStart => exact ⟨0, Nat.zero_le _, rfl, Z2.out, by rw [upd_zero]; exact P2.out, X1.out, B2.out⟩
      case round =>
        obtain ⟨k, hk, rfl, hZ, hP, hX, hB⟩ := hrel
        have Z3 := Lib.hid hZ
        have P3 := Lib.hid hP
        have X3 := Lib.hid hX
        have B3 := Lib.hid hB
        clear hZ hP hX hB Z2 P2 X1 B2
        by_cases hk16 : k < 16
        · have k1 : (k : Int) < 16 := by omega
          have k0 : (0 : Int) ≤ (k : Int) := by omega
          have kx : k < A.length := by omega
          have c1 := P3.out.drew.cell8 (upd_length f A k) k kx
          have c2 := X3.out.drew.cell8 hXl k hk16
          rw [upd_at f A k kx] at c1
          go_upto_region 8 with fail
          refine wp_region_text3' [0,0,1,0,0,1,0,0,2] (by kernel_rfl) (by kernel_rfl) (fun ops' K2 hK2 => ?_)
          repeat
            first
              | ((with_reducible refine z_move (a' := ?_) ?_ ?_); rotate_left; · (simp only [Act.put, List.setIfInBounds_toArray, List.set_cons_succ, List.set_cons_zero, Act.eval, Array.getD_eq_getD_getElem?, List.getElem?_toArray, List.getElem?_cons_succ, List.getElem?_cons_zero, Option.getD_some]; exact rfl))
              | ((with_reducible refine z_assign (a' := ?_) ?_ ?_); rotate_left; · (simp only [Act.put, List.setIfInBounds_toArray, List.set_cons_succ, List.set_cons_zero, Act.eval, Array.getD_eq_getD_getElem?, List.getElem?_toArray, List.getElem?_cons_succ, List.getElem?_cons_zero, Option.getD_some]; exact rfl))
              | ((with_reducible refine z_obl (v := ?_) (a' := ?_) rfl (fun _ => ?_) ?_ ?_); rotate_left; rotate_left; (focus (go_simp; (try go_bits); exact rfl)); (focus (simp only [Act.put, List.setIfInBounds_toArray, List.set_cons_succ, List.set_cons_zero, Act.eval, Array.getD_eq_getD_getElem?, List.getElem?_toArray, List.getElem?_cons_succ, List.getElem?_cons_zero, Option.getD_some]; exact rfl)))
              | ((with_reducible refine z_read (v := ?_) (a' := ?_) rfl ?_ ?_ ?_); rotate_left; rotate_left; (focus (go_simp; (try go_bits); exact rfl)); (focus (simp only [Act.put, List.setIfInBounds_toArray, List.set_cons_succ, List.set_cons_zero, Act.eval, Array.getD_eq_getD_getElem?, List.getElem?_toArray, List.getElem?_cons_succ, List.getElem?_cons_zero, Option.getD_some]; exact rfl)))
          refine z_store8 P3.out.drew rfl rfl (by rw [upd_length]; exact kx) (Tryz.sizeOf5 _) (fun w1 kk1 g1 s1 => ?_)
          refine z_nil (hK2 _ _ ?_)
          rw [show nth A k ^^^ nth X k = f k by rw [HFf.out], upd_set f A k kx] at kk1
          have P4 := Lib.hid kk1
          have X4 := Lib.hid (X3.out.drew.grown g1 (by simpa using hne))
          have Z4 := Lib.hid (Z3.out.drew.grown g1 (by simp))
          have B4 := Lib.hid (B3.out.drew.trans (grown_below g1 (by omega) B3.out.size))
          clear kk1 g1 s1 c1 c2 hK2 P3 X3 Z3 B3
          go_wp2
          exact ⟨⟨k + 1, by omega, by go_num, Z4.out, P4.out, X4.out, B4.out⟩, by simp [intOf]; omega⟩
        · obtain rfl : k = 16 := by omega
          have zz := P3.out
          rw [HU.out, HF.out] at zz
          have P5 := Lib.hid zz
          clear zz
          go_wp2
          exact ⟨⟨j + 1, by omega, by go_num, Z3.out, P5.out, B3.out⟩, by simp [intOf]; omega⟩
    · obtain rfl : j = m := by omega
      have hAl := sumTo_length L j
      have r1 := P1.out.row
      have r2 := Z1.out.row
      have r3 := Z1.out.whole
      go_wp2
      refine bodyPost_row (A8 (sumTo L j)) rfl rfl rfl (Tryz.isAgg37 _) (Tryz.sizeOf37 _) (by rw [A8_size]; exact hAl) (rowAt_setRow _ r3) ⟨rfl, below_setRow B1.out (by omega) _⟩
end Go.Proofs.YtfdkmjegcghieaaGreatDoor
