/- reference 10 (plain): polynomials as rows of noughts and ones -/
import Derived.Test.YtfdkmjegcghieaaGreatDoorIl
import Derived.Test.YtfdkmjegcghieaaGreatDoorAesS
import Derived.Test.YtfdkmjegcghieaaGreatDoorGc
import Derived.Test.YtfdkmjegcghieaaGreatDoorId
import Derived.Test.YtfdkmjegcghieaaGreatDoorHk
namespace Go.Proofs.YtfdkmjegcghieaaGreatDoor
def one8 (b : Bool) : BitVec 8 := if b then 1#8 else 0#8
/-- a row of 256 bits -/
def polyF (f : Nat → Bool) : List (BitVec 8) := (List.range 256).map fun k => one8 (f k)
@[simp] theorem polyF_length (f : Nat → Bool) : (polyF f).length = 256 := by simp [polyF]
theorem nth_polyF (f : Nat → Bool) (k : Nat) (h : k < 256) : nth (polyF f) k = one8 (f k) := nth_range_map _ k h
theorem polyF_ext {f g : Nat → Bool} (h : ∀ k, k < 256 → f k = g k) : polyF f = polyF g := by
  unfold polyF
  exact List.map_congr_left fun k hk => by rw [h k (List.mem_range.1 hk)]
theorem polyF_zero : polyF (fun _ => false) = zeros 8 256 := by
  apply ext_nth
  · simp
  · intro i hi
    rw [polyF_length] at hi
    rw [nth_polyF _ _ hi, nth_zeros]; rfl
theorem polyF_set (f : Nat → Bool) (k : Nat) (b : Bool) : (polyF f).set k (one8 b) = polyF (fun i => if i = k then b else f i) := by
  apply ext_nth
  · simp
  · intro i hi
    rw [List.length_set, polyF_length] at hi
    rw [nth_polyF _ _ hi]
    by_cases hk : k < 256
    · rw [nth_set _ _ _ _ (by rw [polyF_length]; exact hk), nth_polyF _ _ hi]
      by_cases e : k = i
      · rw [if_pos e, if_pos e.symm]
      · rw [if_neg e, if_neg (Ne.symm e)]
    · rw [List.set_eq_of_length_le (by rw [polyF_length]; omega), nth_polyF _ _ hi, if_neg (by omega)]
def polyL (p : BitVec 256) : List (BitVec 8) := polyF p.getLsbD
theorem one8_xor (a b : Bool) : one8 a ^^^ one8 b = one8 (a ^^ b) := by cases a <;> cases b <;> rfl
theorem one8_not (a : Bool) : one8 a ^^^ 1#8 = one8 (!a) := by cases a <;> rfl
theorem one8_eq (a : Bool) : (one8 a == 1#8) = a := by cases a <;> rfl
theorem one8_eq0 (a : Bool) : (one8 a == 0#8) = !a := by cases a <;> rfl
theorem bit_one8 (x : BitVec 8) (R : Nat) (hR : R < 8) : (x >>> R) % 2#8 = one8 (x.getLsbD R) := by
  have h : ∀ x : BitVec 8, ∀ R : Fin 8, (x >>> R.1) % 2#8 = one8 (x.getLsbD R.1) := of_decide_eq_true (by kernel_rfl)
  exact h x ⟨R, hR⟩
/-- the bits of the field's polynomial -/
theorem field_bit (j : Nat) (h : j < 256) : fieldF.getLsbD j = (decide (j = 0) || decide (j = 121) || decide (j = 126) || decide (j = 127) || decide (j = 128)) := by
  have h2 : ∀ j : Fin 256, fieldF.getLsbD j.1 = (decide (j.1 = 0) || decide (j.1 = 121) || decide (j.1 = 126) || decide (j.1 = 127) || decide (j.1 = 128)) := of_decide_eq_true (by kernel_rfl)
  exact h2 ⟨j, h⟩
/-- the lowest bits of a byte -/
def lowB (b : BitVec 8) (r : Nat) : BitVec 8 := b &&& (1#8 <<< r - 1#8)
theorem lowB_zero (b : BitVec 8) : lowB b 0 = 0#8 := (show ∀ b : BitVec 8, lowB b 0 = 0#8 from of_decide_eq_true (by kernel_rfl)) b
theorem lowB_full (b : BitVec 8) : lowB b 8 = b := (show ∀ b : BitVec 8, lowB b 8 = b from of_decide_eq_true (by kernel_rfl)) b
theorem lowB_next (b : BitVec 8) (r : Nat) (h : r < 8) : lowB b r + one8 (b.getLsbD r) <<< r = lowB b (r + 1) := by
  have h2 : ∀ b : BitVec 8, ∀ r : Fin 8, lowB b r.1 + one8 (b.getLsbD r.1) <<< r.1 = lowB b (r.1 + 1) := of_decide_eq_true (by kernel_rfl)
  exact h2 b ⟨r, h⟩
/-- sixteen bytes of a number, and what so many bits make of them -/
def byT (z : BitVec 128) (m : Nat) : BitVec 8 := (z >>> (8 * m)).setWidth 8
def by16 (z : BitVec 128) : List (BitVec 8) := r16 (byT z)
def byTo (z : BitVec 128) (k : Nat) : List (BitVec 8) := r16 fun m => lowB (byT z m) (min (k - 8 * m) 8)
theorem byTo_zero (z : BitVec 128) : byTo z 0 = zeros 8 16 := by
  rw [byTo, r16_ext (g := fun _ => 0#8) fun m _ => by rw [Nat.zero_sub, Nat.zero_min, lowB_zero]]; rfl
theorem byTo_full (z : BitVec 128) : byTo z 128 = by16 z := r16_ext fun m hm => by rw [Nat.min_eq_right (by omega), lowB_full]
theorem byT_bit (z : BitVec 128) (m r : Nat) (hr : r < 8) : (byT z m).getLsbD r = z.getLsbD (8 * m + r) := by
  simp [byT, hr]
theorem byTo_set (z : BitVec 128) (k : Nat) (hk : k < 128) : (byTo z k).set (k / 8) (nth (byTo z k) (k / 8) + one8 (z.getLsbD k) <<< (k % 8)) = byTo z (k + 1) := by
  have hm : k / 8 < 16 := by omega
  apply ext_nth
  · simp [byTo, r16]
  · intro i hi
    have hi16 : i < 16 := by simpa [byTo, r16] using hi
    rw [nth_set _ _ _ _ (by simp [byTo, r16]; omega), byTo, byTo, nth_r16 _ _ hm, nth_r16 _ _ hi16, nth_r16 _ _ hi16]
    split
    · rename_i e
      subst e
      rw [show min (k - 8 * (k / 8)) 8 = k % 8 by omega, show min (k + 1 - 8 * (k / 8)) 8 = k % 8 + 1 by omega]
      rw [show z.getLsbD k = (byT z (k / 8)).getLsbD (k % 8) by rw [byT_bit _ _ _ (by omega), show 8 * (k / 8) + k % 8 = k by omega]]
      exact lowB_next _ _ (by omega)
    · rename_i e
      rw [show min (k - 8 * i) 8 = min (k + 1 - 8 * i) 8 by omega]
theorem nth_le64x (y : BitVec 64) (i : Nat) (h : i < 8) : nth (le64 y) i = (y >>> (8 * i)).setWidth 8 := by
  have : i = 0 ∨ i = 1 ∨ i = 2 ∨ i = 3 ∨ i = 4 ∨ i = 5 ∨ i = 6 ∨ i = 7 := by omega
  rcases this with rfl | rfl | rfl | rfl | rfl | rfl | rfl | rfl <;> simp [le64, nth]
theorem by16_tb (w : W2) : by16 (tb w) = le64 w.1 ++ le64 w.2 := by
  apply ext_nth
  · simp [by16, r16, le64]
  · intro i hi
    have hi16 : i < 16 := by simpa [by16, r16] using hi
    rw [by16, nth_r16 _ _ hi16, nth_append, show (le64 w.1).length = 8 from rfl]
    apply BitVec.eq_of_getLsbD_eq
    intro r hr
    rw [byT_bit _ _ _ hr, tb, BitVec.getLsbD_append]
    by_cases h : i < 8
    · rw [if_pos h, nth_le64x _ _ h, if_pos (by omega)]
      simp [hr]
    · rw [if_neg h, nth_le64x _ _ (by omega), if_neg (by omega)]
      simp [hr]
      congr 1; omega
end Go.Proofs.YtfdkmjegcghieaaGreatDoor
/- ring by definition: Low, Lowest -/
namespace Go.Proofs.YtfdkmjegcghieaaGreatDoor
open Go.RowKit
@[go_sem] theorem cellsOf221 : Tryz.prog.cellsOf 221 = 256 := by kernel_rfl
theorem zero221 (w : World) : (zeroValue 221).run Tryz.prog w = .ok (.agg (A8 (zeros 8 256))) w := by kernel_rfl
@[go_sem ↓ high] theorem alloc221 (w : World) : (Instr.alloc 221 true (.tuple #[])).run Tryz.prog w = .ok (.pointer (some ⟨w.heap.size, 0, none⟩)) (w.alloc (.cells (A8 (zeros 8 256)) 221)) := alloc_of_zero zero221 w
@[go_sem ↓ high] theorem build0221 (w : World) : (Instr.build 221 #[]).run Tryz.prog w = .ok (.agg (A8 (zeros 8 256))) w := by kernel_rfl
/-- a number's bits, the first ones -/
def lowF (x : BitVec 128) (j : Nat) : Nat → Bool := fun i => decide (i < j) && x.getLsbD i
theorem lowF_zero (x : BitVec 128) : polyF (lowF x 0) = zeros 8 256 := by
  rw [← polyF_zero]
  exact polyF_ext fun k _ => by simp [lowF]
theorem lowF_full (x : BitVec 128) : polyF (lowF x 128) = polyL (wideB x) := polyF_ext fun k hk => by
  unfold lowF wideB
  rw [BitVec.getLsbD_setWidth]
  by_cases h : k < 128
  · simp [h, hk]
  · have : x.getLsbD k = false := BitVec.getLsbD_of_ge _ _ (by omega)
    simp [h, this]
theorem lowF_set (x : BitVec 128) (j : Nat) : (polyF (lowF x j)).set j (one8 (x.getLsbD j)) = polyF (lowF x (j + 1)) := by
  rw [polyF_set]
  refine polyF_ext fun k _ => ?_
  unfold lowF
  by_cases h : k = j
  · subst h; simp
  · rw [if_neg h, show decide (k < j + 1) = decide (k < j) by simp; omega]
set_option linter.unusedSimpArgs false in
set_option maxRecDepth 100000 in
set_option maxHeartbeats 800000 in
theorem refLow_any (a : List (BitVec 8)) (w : World) (ha : a.length = 16) :
    Calls Tryz.prog 172 #[.agg (A8 a)] w fun e w' => e = .returned (.agg (A8 (polyL (wideB (numB a))))) ∧ Below w.heap.size w w' := by
  obtain ⟨F, hF⟩ : ∃ F, F = polyL (wideB (numB a)) := ⟨_, rfl⟩
  have hl : F.length = 256 := by rw [hF]; exact polyF_length _
  rw [← hF]
  have HF := Lib.hid hF
  clear hF
  obtain ⟨W, hW⟩ : ∃ W, ((w.alloc (.cells (A8 a) 37)).alloc (.cells (A8 (zeros 8 256)) 221)).alloc (.cells (A8 (zeros 8 256)) 221) = W := ⟨_, rfl⟩
  obtain ⟨b0, b1, b2, hb, hz⟩ := new3 _ _ _ _ _ _ _ _ hW
  have P0 := Lib.hid b0
  have Q0 := Lib.hid b1
  have Z0 := Lib.hid b2
  have B0 := Lib.hid hb
  clear b0 b1 b2 hb hz
  go_enter Tryz.func172, Tryz.ntmps172
  go_wp2_with fail
  clear hW
  go_loopw [4] (fun i wr => ∃ j : Nat, j ≤ 128 ∧ i = .int .i64 j ∧ Blk wr w.heap.size 37 (A8 a) ∧ Blk wr (w.heap.size + 1) 221 (A8 (zeros 8 256)) ∧ Blk wr (w.heap.size + 2) 221 (A8 (polyF (lowF (numB a) j))) ∧ Below w.heap.size w wr) (fun i _ => 128 - (intOf i).toNat)
  case atStart => exact ⟨0, by omega, rfl, P0.out, Q0.out, by rw [lowF_zero]; exact Z0.out, B0.out⟩
  case round =>
    obtain ⟨j, hj, rfl, hP, hQ, hZ, hB⟩ := hrel
    have P1 := Lib.hid hP
    have Q1 := Lib.hid hQ
    have Z1 := Lib.hid hZ
    have B1 := Lib.hid hB
    clear hP hQ hZ hB P0 Q0 Z0 B0
    by_cases hj4 : j < 128
    · have j1 : (j : Int) < 128 := by omega
      have j0 : (0 : Int) ≤ (j : Int) := by omega
      obtain ⟨Q, hQ⟩ : ∃ Q, Q = j / 8 := ⟨_, rfl⟩
      obtain ⟨R, hR⟩ : ∃ R, R = j % 8 := ⟨_, rfl⟩
      have q1 : (j : Int) / 8 = (Q : Int) := by omega
      have q2 : IntKind.i64.wrap (Q : Int) = (Q : Int) := by rw [IntKind.wrap_i64]; omega
      have q3 : (j : Int) % 8 = (R : Int) := by omega
      have q4 : IntKind.i64.wrap (R : Int) = (R : Int) := by rw [IntKind.wrap_i64]; omega
      have q5 : (0 : Int) ≤ (Q : Int) := by omega
      have q6 : (Q : Int) < 16 := by omega
      have hR8 : R < 8 := by omega
      have e0 := amt_nat R (by omega)
      have c1 := P1.out.cell8 ha Q (by omega)
      have bt := bit_one8 (nth a Q) R hR8
      have nb := numB_bit a j hj4
      rw [← hQ, ← hR] at nb
      rw [← nb] at bt
      have fo := Z1.out.frozen j
      have k6 := Z1.out.set_ j (v8 (one8 ((numB a).getLsbD j)))
      rw [A8_set, lowF_set] at k6
      have c2 := Z1.out.cell8 (polyF_length _) j (by omega)
      have g6 := grown_setCell wr (w.heap.size + 2) j (v8 (one8 ((numB a).getLsbD j)))
      have K6 := Lib.hid k6
      have P6 := Lib.hid (P1.out.grown g6 (by simp))
      have Q6 := Lib.hid (Q1.out.grown g6 (by simp))
      have B6 := Lib.hid (B1.out.setCell (p := ⟨w.heap.size + 2, j, none⟩) (by simp) (v8 (one8 ((numB a).getLsbD j))))
      clear k6 g6 hQ hR nb P1 Q1 Z1 B1
      go_wp2
      exact ⟨⟨j + 1, by omega, by go_num, P6.out, Q6.out, K6.out, B6.out⟩, by simp [intOf]; omega⟩
    · obtain rfl : j = 128 := by omega
      have zz := Z1.out
      rw [lowF_full, ← HF.out] at zz
      have r1 := zz.row
      have r2 := Q1.out.row
      have r3 := Q1.out.whole
      clear zz
      go_wp2
      refine bodyPost_row (A8 F) rfl rfl rfl (Tryz.isAgg221 _) (Tryz.sizeOf221 _) (by rw [A8_size]; exact hl) (rowAt_setRow _ r3) ⟨rfl, below_setRow B1.out (by omega) _⟩
set_option linter.unusedSimpArgs false in
set_option maxRecDepth 100000 in
set_option maxHeartbeats 800000 in
theorem refLowest_any (z : BitVec 128) (w : World) :
    Calls Tryz.prog 173 #[.agg (A8 (polyL (wideB z)))] w fun e w' => e = .returned (.agg (A8 (by16 z))) ∧ Below w.heap.size w w' := by
  obtain ⟨F, hF⟩ : ∃ F, F = polyL (wideB z) := ⟨_, rfl⟩
  have hl : F.length = 256 := by rw [hF]; exact polyF_length _
  rw [← hF]
  have HF := Lib.hid hF
  clear hF
  obtain ⟨G, hG⟩ : ∃ G, G = by16 z := ⟨_, rfl⟩
  have hl2 : G.length = 16 := by rw [hG]; simp [by16]
  rw [← hG]
  have HG := Lib.hid hG
  clear hG
  obtain ⟨W, hW⟩ : ∃ W, ((w.alloc (.cells (A8 F) 221)).alloc (.cells (A8 (zeros 8 16)) 37)).alloc (.cells (A8 (zeros 8 16)) 37) = W := ⟨_, rfl⟩
  obtain ⟨b0, b1, b2, hb, hz⟩ := new3 _ _ _ _ _ _ _ _ hW
  have P0 := Lib.hid b0
  have Q0 := Lib.hid b1
  have Z0 := Lib.hid b2
  have B0 := Lib.hid hb
  clear b0 b1 b2 hb hz
  go_enter Tryz.func173, Tryz.ntmps173
  go_wp2_with fail
  clear hW
  go_loopw [4] (fun i wr => ∃ j : Nat, j ≤ 128 ∧ i = .int .i64 j ∧ Blk wr w.heap.size 221 (A8 F) ∧ Blk wr (w.heap.size + 1) 37 (A8 (zeros 8 16)) ∧ Blk wr (w.heap.size + 2) 37 (A8 (byTo z j)) ∧ Below w.heap.size w wr) (fun i _ => 128 - (intOf i).toNat)
  case atStart => exact ⟨0, by omega, rfl, P0.out, Q0.out, by rw [byTo_zero]; exact Z0.out, B0.out⟩
  case round =>
    obtain ⟨j, hj, rfl, hP, hQ, hZ, hB⟩ := hrel
    have P1 := Lib.hid hP
    have Q1 := Lib.hid hQ
    have Z1 := Lib.hid hZ
    have B1 := Lib.hid hB
    clear hP hQ hZ hB P0 Q0 Z0 B0
    by_cases hj4 : j < 128
    · have j1 : (j : Int) < 128 := by omega
      have j2 : (j : Int) < 256 := by omega
      have j0 : (0 : Int) ≤ (j : Int) := by omega
      obtain ⟨Q, hQ⟩ : ∃ Q, Q = j / 8 := ⟨_, rfl⟩
      obtain ⟨R, hR⟩ : ∃ R, R = j % 8 := ⟨_, rfl⟩
      have q1 : (j : Int) / 8 = (Q : Int) := by omega
      have q2 : IntKind.i64.wrap (Q : Int) = (Q : Int) := by rw [IntKind.wrap_i64]; omega
      have q3 : (j : Int) % 8 = (R : Int) := by omega
      have q4 : IntKind.i64.wrap (R : Int) = (R : Int) := by rw [IntKind.wrap_i64]; omega
      have q5 : (0 : Int) ≤ (Q : Int) := by omega
      have q6 : (Q : Int) < 16 := by omega
      have hQ16 : Q < 16 := by omega
      have hR8 : R < 8 := by omega
      have e0 := amt_nat R (by omega)
      have hbl : (byTo z j).length = 16 := by simp [byTo]
      have c1 := Z1.out.drew.cell8 hbl Q hQ16
      have c2 := P1.out.drew.cell8 hl j (by omega)
      have hn : nth F j = one8 (z.getLsbD j) := by
        rw [HF.out, polyL, nth_polyF _ _ (by omega), wideB_bit _ _ hj4]
      rw [hn] at c2
      have hs := byTo_set z j hj4
      rw [← hQ, ← hR] at hs
      obtain ⟨X, hX⟩ : ∃ X, X = one8 (z.getLsbD j) := ⟨_, rfl⟩
      rw [← hX] at hs c2
      have HS := Lib.hid hs
      clear hQ hR hs hn hX
      go_upto_region 5 with fail
      refine wp_region_text3' [0,0,0,0,0,1,0,0,1,0,0,0,0,0,0,2] (by kernel_rfl) (by kernel_rfl) (fun ops' K2 hK2 => ?_)
      repeat
        first
          | ((with_reducible refine z_move (a' := ?_) ?_ ?_); rotate_left; · (simp only [Act.put, List.setIfInBounds_toArray, List.set_cons_succ, List.set_cons_zero, Act.eval, Array.getD_eq_getD_getElem?, List.getElem?_toArray, List.getElem?_cons_succ, List.getElem?_cons_zero, Option.getD_some]; exact rfl))
          | ((with_reducible refine z_assign (a' := ?_) ?_ ?_); rotate_left; · (simp only [Act.put, List.setIfInBounds_toArray, List.set_cons_succ, List.set_cons_zero, Act.eval, Array.getD_eq_getD_getElem?, List.getElem?_toArray, List.getElem?_cons_succ, List.getElem?_cons_zero, Option.getD_some]; exact rfl))
          | ((with_reducible refine z_obl (v := ?_) (a' := ?_) rfl (fun _ => ?_) ?_ ?_); rotate_left; rotate_left; (focus (go_simp; (try go_bits); exact rfl)); (focus (simp only [Act.put, List.setIfInBounds_toArray, List.set_cons_succ, List.set_cons_zero, Act.eval, Array.getD_eq_getD_getElem?, List.getElem?_toArray, List.getElem?_cons_succ, List.getElem?_cons_zero, Option.getD_some]; exact rfl)))
          | ((with_reducible refine z_read (v := ?_) (a' := ?_) rfl ?_ ?_ ?_); rotate_left; rotate_left; (focus (go_simp; (try go_bits); exact rfl)); (focus (simp only [Act.put, List.setIfInBounds_toArray, List.set_cons_succ, List.set_cons_zero, Act.eval, Array.getD_eq_getD_getElem?, List.getElem?_toArray, List.getElem?_cons_succ, List.getElem?_cons_zero, Option.getD_some]; exact rfl)))
      refine z_store8 Z1.out.drew rfl rfl (by rw [hbl]; exact hQ16) (Tryz.sizeOf5 _) (fun w1 k1 g1 s1 => ?_)
      refine z_nil (hK2 _ _ ?_)
      rw [HS.out] at k1
      have P2 := Lib.hid (P1.out.drew.grown g1 (by simp))
      have Q2 := Lib.hid (Q1.out.drew.grown g1 (by simp))
      have Z2 := Lib.hid k1
      have B2 := Lib.hid (B1.out.drew.trans (grown_below g1 (by omega) B1.out.drew.size))
      clear k1 g1 s1 c1 c2 hK2 P1 Q1 Z1 B1 HS
      go_wp2
      exact ⟨⟨j + 1, by omega, by go_num, P2.out, Q2.out, Z2.out, B2.out⟩, by simp [intOf]; omega⟩
    · obtain rfl : j = 128 := by omega
      have zz := Z1.out
      rw [byTo_full, ← HG.out] at zz
      have r1 := zz.row
      have r2 := Q1.out.row
      have r3 := Q1.out.whole
      clear zz
      go_wp2
      refine bodyPost_row (A8 G) rfl rfl rfl (Tryz.isAgg37 _) (Tryz.sizeOf37 _) (by rw [A8_size]; exact hl2) (rowAt_setRow _ r3) ⟨rfl, below_setRow B1.out (by omega) _⟩
end Go.Proofs.YtfdkmjegcghieaaGreatDoor
/- ring by definition: rest -/
namespace Go.Proofs.YtfdkmjegcghieaaGreatDoor
open Go.RowKit
/-- a product, so far: the power i, k of its bits -/
def mulF (p q : BitVec 256) (i k : Nat) : Nat → Bool := fun t => (mulTo p q i).getLsbD t ^^ (decide (i ≤ t) && decide (t < i + k) && p.getLsbD (t - i))
theorem mulF_zero (p q : BitVec 256) (i : Nat) : polyF (mulF p q i 0) = polyL (mulTo p q i) := polyF_ext fun t _ => by
  unfold mulF
  have : (decide (i ≤ t) && decide (t < i + 0)) = false := by simp
  rw [this, Bool.false_and, Bool.xor_false]
theorem mulF_full (p : BitVec 128) (q : BitVec 256) (i : Nat) (hq : q.getLsbD i = true) : polyF (mulF (wideB p) q i 128) = polyL (mulTo (wideB p) q (i + 1)) := polyF_ext fun t ht => by
  rw [show mulTo (wideB p) q (i + 1) = mulTo (wideB p) q i ^^^ (if q.getLsbD i then wideB p <<< i else 0#256) from rfl, hq, if_pos rfl]
  unfold mulF
  rw [BitVec.getLsbD_xor, BitVec.getLsbD_shiftLeft]
  congr 1
  by_cases h1 : i ≤ t
  · by_cases h2 : t < i + 128
    · simp [h1, h2, ht, Nat.not_lt.2 h1]
    · have : (wideB p).getLsbD (t - i) = false := by
        unfold wideB
        rw [BitVec.getLsbD_setWidth, BitVec.getLsbD_of_ge p (t - i) (by omega), Bool.and_false]
      simp [h1, h2, this]
  · simp [h1, Nat.lt_of_not_le h1]
theorem mulTo_skip (p q : BitVec 256) (i : Nat) (hq : q.getLsbD i = false) : mulTo p q (i + 1) = mulTo p q i := by
  rw [show mulTo p q (i + 1) = mulTo p q i ^^^ (if q.getLsbD i then p <<< i else 0#256) from rfl, hq]
  simp
theorem mulF_set (p q : BitVec 256) (i k : Nat) (_hk : i + k < 256) : (polyF (mulF p q i k)).set (i + k) (one8 (mulF p q i k (i + k)) ^^^ one8 (p.getLsbD k)) = polyF (mulF p q i (k + 1)) := by
  rw [one8_xor, polyF_set]
  refine polyF_ext fun t ht => ?_
  unfold mulF
  by_cases e : t = i + k
  · subst e
    rw [if_pos rfl]
    simp
  · rw [if_neg e, show decide (t < i + (k + 1)) = decide (t < i + k) by simp; omega]
theorem red_bits (q : Nat → Bool) (i a b c d t : Nat) (hq : q i = true) :
    (if t = d then !q d else if t = c then !q c else if t = b then !q b else if t = a then !q a else if t = i then false else q t) = (q t ^^ (decide (t = d) || decide (t = c) || decide (t = b) || decide (t = a) || decide (t = i))) := by
  by_cases g0 : t = d
  · rw [if_pos g0, g0]; simp
  by_cases g1 : t = c
  · rw [if_neg g0, if_pos g1, g1]; simp
  by_cases g2 : t = b
  · rw [if_neg g0, if_neg g1, if_pos g2, g2]; simp
  by_cases g3 : t = a
  · rw [if_neg g0, if_neg g1, if_neg g2, if_pos g3, g3]; simp
  by_cases g4 : t = i
  · rw [if_neg g0, if_neg g1, if_neg g2, if_neg g3, if_pos g4, g4, hq]; simp
  · rw [if_neg g0, if_neg g1, if_neg g2, if_neg g3, if_neg g4]; simp [g0, g1, g2, g3, g4]
/-- one step of the rest -/
theorem red_step (q : BitVec 256) (i : Nat) (h1 : 128 ≤ i) (h2 : i ≤ 254) (hq : q.getLsbD i = true) :
    (((((polyL q).set i (one8 false)).set (i - 1) (one8 (q.getLsbD (i - 1)) ^^^ 1#8)).set (i - 2) (one8 (q.getLsbD (i - 2)) ^^^ 1#8)).set (i - 7) (one8 (q.getLsbD (i - 7)) ^^^ 1#8)).set (i - 128) (one8 (q.getLsbD (i - 128)) ^^^ 1#8) = polyL (redS q i) := by
  simp only [one8_not]
  rw [polyL, polyF_set, polyF_set, polyF_set, polyF_set, polyF_set]
  refine polyF_ext fun t ht => ?_
  unfold redS
  rw [hq, if_pos rfl, BitVec.getLsbD_xor, BitVec.getLsbD_shiftLeft]
  by_cases hs : t < i - 128
  · have h3 : t ≠ i := by omega
    have h4 : t ≠ i - 1 := by omega
    have h5 : t ≠ i - 2 := by omega
    have h6 : t ≠ i - 7 := by omega
    have h7 : t ≠ i - 128 := by omega
    simp [hs, h3, h4, h5, h6, h7]
  · rw [field_bit _ (show t - (i - 128) < 256 by omega)]
    have e0 : decide (t - (i - 128) = 0) = decide (t = i - 128) := by simp; omega
    have e1 : decide (t - (i - 128) = 121) = decide (t = i - 7) := by simp; omega
    have e2 : decide (t - (i - 128) = 126) = decide (t = i - 2) := by simp; omega
    have e3 : decide (t - (i - 128) = 127) = decide (t = i - 1) := by simp; omega
    have e4 : decide (t - (i - 128) = 128) = decide (t = i) := by simp; omega
    rw [e0, e1, e2, e3, e4]
    have rb := red_bits q.getLsbD i (i - 1) (i - 2) (i - 7) (i - 128) t hq
    rw [rb, decide_eq_true ht, decide_eq_false hs, Bool.not_false, Bool.true_and, Bool.true_and]
set_option linter.unusedSimpArgs false in
set_option maxRecDepth 100000 in
set_option maxHeartbeats 1600000 in
theorem refrest_any (p q : BitVec 128) (w : World) :
    Calls Tryz.prog 171 #[.agg (A8 (polyL (wideB p))), .agg (A8 (polyL (wideB q))), .int .i64 127, .int .i64 126, .int .i64 121] w fun e w' => e = .returned (.agg (A8 (polyL (redTo (mulTo (wideB p) (wideB q) 128) 127)))) ∧ Below w.heap.size w w' := by
  obtain ⟨F, hF⟩ : ∃ F, F = polyL (redTo (mulTo (wideB p) (wideB q) 128) 127) := ⟨_, rfl⟩
  have hl : F.length = 256 := by rw [hF]; exact polyF_length _
  rw [← hF]
  have HF := Lib.hid hF
  clear hF
  obtain ⟨A, hA⟩ : ∃ A, A = polyL (wideB p) := ⟨_, rfl⟩
  obtain ⟨C, hC⟩ : ∃ C, C = polyL (wideB q) := ⟨_, rfl⟩
  have hAl : A.length = 256 := by rw [hA]; exact polyF_length _
  have hCl : C.length = 256 := by rw [hC]; exact polyF_length _
  rw [← hA, ← hC]
  have HA := Lib.hid hA
  have HC := Lib.hid hC
  clear hA hC
  obtain ⟨W, hW⟩ : ∃ W, (((w.alloc (.cells (A8 A) 221)).alloc (.cells (A8 C) 221)).alloc (.cells (A8 (zeros 8 256)) 221)).alloc (.cells (A8 (zeros 8 256)) 221) = W := ⟨_, rfl⟩
  obtain ⟨b0, b1, b2, b3, hb, hz⟩ := new4 _ _ _ _ _ _ _ _ _ _ hW
  have P0 := Lib.hid b0
  have Q0 := Lib.hid b1
  have K0 := Lib.hid b2
  have Z0 := Lib.hid b3
  have B0 := Lib.hid hb
  clear b0 b1 b2 b3 hb hz
  go_enter Tryz.func171, Tryz.ntmps171
  go_wp2_with fail
  clear hW
  go_loopw [12] (fun i wr => ∃ j : Nat, j ≤ 128 ∧ i = .int .i64 j ∧ Blk wr w.heap.size 221 (A8 A) ∧ Blk wr (w.heap.size + 1) 221 (A8 C) ∧ Blk wr (w.heap.size + 2) 221 (A8 (zeros 8 256)) ∧ Blk wr (w.heap.size + 3) 221 (A8 (polyL (mulTo (wideB p) (wideB q) j))) ∧ Below w.heap.size w wr) (fun i _ => 128 - (intOf i).toNat)
  case atStart => exact ⟨0, by omega, rfl, P0.out, Q0.out, K0.out, by rw [show polyL (mulTo (wideB p) (wideB q) 0) = zeros 8 256 by rw [← polyF_zero]; exact polyF_ext fun k _ => by simp [mulTo]]; exact Z0.out, B0.out⟩
  case round =>
    obtain ⟨j, hj, rfl, hP, hQ, hK, hZ, hB⟩ := hrel
    have P1 := Lib.hid hP
    have Q1 := Lib.hid hQ
    have K1 := Lib.hid hK
    have Z1 := Lib.hid hZ
    have B1 := Lib.hid hB
    clear hP hQ hK hZ hB P0 Q0 K0 Z0 B0
    by_cases hj128 : j < 128
    · have j1 : (j : Int) < 128 := by omega
      have j2 : (j : Int) < 256 := by omega
      have j0 : (0 : Int) ≤ (j : Int) := by omega
      have c1 := Q1.out.cell8 hCl j (by omega)
      have hn : nth C j = one8 ((wideB q).getLsbD j) := by rw [HC.out, polyL, nth_polyF _ _ (by omega)]
      rw [hn] at c1
      by_cases hbit : (wideB q).getLsbD j = true
      · rw [hbit, show one8 true = 1#8 from rfl] at c1
        have mf := mulF_full p (wideB q) j hbit
        have MF := Lib.hid mf
        clear hn hbit mf
        go_wp2_with fail
        go_loopw [13] (fun s wz => ∃ k : Nat, k ≤ 128 ∧ s = .int .i64 k ∧ Blk wz w.heap.size 221 (A8 A) ∧ Blk wz (w.heap.size + 1) 221 (A8 C) ∧ Blk wz (w.heap.size + 2) 221 (A8 (zeros 8 256)) ∧ Blk wz (w.heap.size + 3) 221 (A8 (polyF (mulF (wideB p) (wideB q) j k))) ∧ Below w.heap.size w wz) (fun s _ => 128 - (intOf s).toNat)
        case atStart => exact ⟨0, by omega, rfl, P1.out, Q1.out, K1.out, by rw [mulF_zero]; exact Z1.out, B1.out⟩
        case round =>
          obtain ⟨k, hk, rfl, hP, hQ, hK, hZ, hB⟩ := hrel
          have P2 := Lib.hid hP
          have Q2 := Lib.hid hQ
          have K2 := Lib.hid hK
          have Z2 := Lib.hid hZ
          have B2 := Lib.hid hB
          clear hP hQ hK hZ hB P1 Q1 K1 Z1 B1 c1
          by_cases hk128 : k < 128
          · have k1 : (k : Int) < 128 := by omega
            have k2 : (k : Int) < 256 := by omega
            have k0 : (0 : Int) ≤ (k : Int) := by omega
            obtain ⟨S, hS⟩ : ∃ S, S = j + k := ⟨_, rfl⟩
            have s1 : (j : Int) + (k : Int) = (S : Int) := by omega
            have s2 : IntKind.i64.wrap (S : Int) = (S : Int) := by rw [IntKind.wrap_i64]; omega
            have s3 : (0 : Int) ≤ (S : Int) := by omega
            have s4 : (S : Int) < 256 := by omega
            have hS256 : S < 256 := by omega
            have zl : (polyF (mulF (wideB p) (wideB q) j k)).length = 256 := polyF_length _
            have c1 := Z2.out.drew.cell8 zl S hS256
            have c2 := P2.out.drew.cell8 hAl k (by omega)
            rw [nth_polyF _ _ hS256] at c1
            have hn : nth A k = one8 ((wideB p).getLsbD k) := by rw [HA.out, polyL, nth_polyF _ _ (by omega)]
            rw [hn] at c2
            have hs := mulF_set (wideB p) (wideB q) j k (by omega)
            rw [← hS] at hs
            have HS := Lib.hid hs
            obtain ⟨X, hX⟩ : ∃ X, X = one8 (mulF (wideB p) (wideB q) j k S) := ⟨_, rfl⟩
            obtain ⟨Y, hY⟩ : ∃ Y, Y = one8 ((wideB p).getLsbD k) := ⟨_, rfl⟩
            rw [← hX] at c1
            rw [← hY] at c2
            have HX := Lib.hid hX
            have HY := Lib.hid hY
            clear hs hS hn hX hY
            go_upto_region 9 with fail
            refine wp_region_text3' [0,0,0,0,0,0,0,1,0,0,1,0,0,2] (by kernel_rfl) (by kernel_rfl) (fun ops' K3 hK3 => ?_)
            repeat
              first
                | ((with_reducible refine z_move (a' := ?_) ?_ ?_); rotate_left; · (simp only [Act.put, List.setIfInBounds_toArray, List.set_cons_succ, List.set_cons_zero, Act.eval, Array.getD_eq_getD_getElem?, List.getElem?_toArray, List.getElem?_cons_succ, List.getElem?_cons_zero, Option.getD_some]; exact rfl))
                | ((with_reducible refine z_assign (a' := ?_) ?_ ?_); rotate_left; · (simp only [Act.put, List.setIfInBounds_toArray, List.set_cons_succ, List.set_cons_zero, Act.eval, Array.getD_eq_getD_getElem?, List.getElem?_toArray, List.getElem?_cons_succ, List.getElem?_cons_zero, Option.getD_some]; exact rfl))
                | ((with_reducible refine z_obl (v := ?_) (a' := ?_) rfl (fun _ => ?_) ?_ ?_); rotate_left; rotate_left; (focus (go_simp; (try go_bits); exact rfl)); (focus (simp only [Act.put, List.setIfInBounds_toArray, List.set_cons_succ, List.set_cons_zero, Act.eval, Array.getD_eq_getD_getElem?, List.getElem?_toArray, List.getElem?_cons_succ, List.getElem?_cons_zero, Option.getD_some]; exact rfl)))
                | ((with_reducible refine z_read (v := ?_) (a' := ?_) rfl ?_ ?_ ?_); rotate_left; rotate_left; (focus (go_simp; (try go_bits); exact rfl)); (focus (simp only [Act.put, List.setIfInBounds_toArray, List.set_cons_succ, List.set_cons_zero, Act.eval, Array.getD_eq_getD_getElem?, List.getElem?_toArray, List.getElem?_cons_succ, List.getElem?_cons_zero, Option.getD_some]; exact rfl)))
            refine z_store8 Z2.out.drew rfl rfl (by rw [zl]; exact hS256) (Tryz.sizeOf5 _) (fun w1 k6 g6 s6 => ?_)
            refine z_nil (hK3 _ _ ?_)
            rw [HX.out, HY.out, HS.out] at k6
            have P3 := Lib.hid (P2.out.drew.grown g6 (by simp))
            have Q3 := Lib.hid (Q2.out.drew.grown g6 (by simp))
            have K3' := Lib.hid (K2.out.drew.grown g6 (by simp))
            have Z3 := Lib.hid k6
            have B3 := Lib.hid (B2.out.drew.trans (grown_below g6 (by omega) B2.out.drew.size))
            clear k6 g6 s6 c1 c2 hK3 P2 Q2 K2 Z2 B2 HS HX HY
            go_wp2
            exact ⟨⟨k + 1, by omega, by go_num, P3.out, Q3.out, K3'.out, Z3.out, B3.out⟩, by simp [intOf]; omega⟩
          · obtain rfl : k = 128 := by omega
            go_wp2
            exact ⟨⟨j + 1, by omega, by go_num, P2.out, Q2.out, K2.out, by rw [← MF.out]; exact Z2.out, B2.out⟩, by simp [intOf]; omega⟩
      · have hbf : (wideB q).getLsbD j = false := by simpa using hbit
        rw [hbf, show one8 false = 0#8 from rfl] at c1
        have sk := mulTo_skip (wideB p) (wideB q) j hbf
        have SK := Lib.hid sk
        clear hn hbit hbf sk
        go_wp2
        exact ⟨⟨j + 1, by omega, by go_num, P1.out, Q1.out, K1.out, by rw [SK.out]; exact Z1.out, B1.out⟩, by simp [intOf]; omega⟩
    · obtain rfl : j = 128 := by omega
      obtain ⟨M, hM⟩ : ∃ M, M = mulTo (wideB p) (wideB q) 128 := ⟨_, rfl⟩
      have zz := Z1.out
      rw [← hM] at zz
      have hFM := HF.out
      rw [← hM] at hFM
      have HFM := Lib.hid hFM
      have ZZ := Lib.hid zz
      clear hM hFM zz Z1
      go_wp2_with fail
      go_loopw [14] (fun s wz => ∃ t J : Nat, t ≤ 127 ∧ J + t = 254 ∧ s = .int .i64 J ∧ Blk wz w.heap.size 221 (A8 A) ∧ Blk wz (w.heap.size + 1) 221 (A8 C) ∧ Blk wz (w.heap.size + 2) 221 (A8 (zeros 8 256)) ∧ Blk wz (w.heap.size + 3) 221 (A8 (polyL (redTo M t))) ∧ Below w.heap.size w wz) (fun s _ => (intOf s).toNat)
      case atStart => exact ⟨0, 254, by omega, by omega, rfl, P1.out, Q1.out, K1.out, ZZ.out, B1.out⟩
      case round =>
        obtain ⟨t, J, ht, hJ, rfl, hP, hQ, hK, hZ, hB⟩ := hrel
        have P2 := Lib.hid hP
        have Q2 := Lib.hid hQ
        have K2 := Lib.hid hK
        have Z2 := Lib.hid hZ
        have B2 := Lib.hid hB
        clear hP hQ hK hZ hB P1 Q1 K1 ZZ B1
        by_cases ht127 : t < 127
        · have j1 : (128 : Int) ≤ (J : Int) := by omega
          have j2 : (J : Int) < 256 := by omega
          have j0 : (0 : Int) ≤ (J : Int) := by omega
          have hJ128 : 128 ≤ J := by omega
          have hJ254 : J ≤ 254 := by omega
          obtain ⟨R, hR⟩ : ∃ R, R = redTo M t := ⟨_, rfl⟩
          have hnx : redTo M (t + 1) = redS R J := by rw [hR, show J = 254 - t by omega]; rfl
          have zz := Z2.out
          rw [← hR] at zz
          have c1 := zz.cell8 (polyF_length _) J (by omega)
          rw [polyL, nth_polyF _ _ (by omega)] at c1
          obtain ⟨I1, hI1⟩ : ∃ I, I = J - 1 := ⟨_, rfl⟩
          have i1 : (J : Int) - 1 = (I1 : Int) := by omega
          have i2 : IntKind.i64.wrap (I1 : Int) = (I1 : Int) := by rw [IntKind.wrap_i64]; omega
          have hIJ : I1 + (t + 1) = 254 := by omega
          have HIJ := Lib.hid hIJ
          have hlt : I1 < J := by omega
          have HN := Lib.hid hnx
          by_cases hbit : R.getLsbD J = true
          · rw [hbit, show one8 true = 1#8 from rfl] at c1
            have rs := red_step R J hJ128 hJ254 hbit
            obtain ⟨D, hD⟩ : ∃ I, I = J - 128 := ⟨_, rfl⟩
            obtain ⟨I2, hI2⟩ : ∃ I, I = J - 2 := ⟨_, rfl⟩
            obtain ⟨I7, hI7⟩ : ∃ I, I = J - 7 := ⟨_, rfl⟩
            rw [← hD, ← hI1, ← hI2, ← hI7] at rs
            have d1 : (J : Int) - 128 = (D : Int) := by omega
            have d2 : IntKind.i64.wrap (D : Int) = (D : Int) := by rw [IntKind.wrap_i64]; omega
            have d3 : (D : Int) + 127 = (I1 : Int) := by omega
            have d4 : (D : Int) + 126 = (I2 : Int) := by omega
            have d5 : IntKind.i64.wrap (I2 : Int) = (I2 : Int) := by rw [IntKind.wrap_i64]; omega
            have d6 : (D : Int) + 121 = (I7 : Int) := by omega
            have d7 : IntKind.i64.wrap (I7 : Int) = (I7 : Int) := by rw [IntKind.wrap_i64]; omega
            have l1 : (0 : Int) ≤ (I1 : Int) ∧ (I1 : Int) < 256 := by omega
            have l2 : (0 : Int) ≤ (I2 : Int) ∧ (I2 : Int) < 256 := by omega
            have l7 : (0 : Int) ≤ (I7 : Int) ∧ (I7 : Int) < 256 := by omega
            have lD : (0 : Int) ≤ (D : Int) ∧ (D : Int) < 256 := by omega
            obtain ⟨l1a, l1b⟩ := l1
            obtain ⟨l2a, l2b⟩ := l2
            obtain ⟨l7a, l7b⟩ := l7
            obtain ⟨lDa, lDb⟩ := lD
            have n1 : I1 < 256 := by omega
            have n2 : I2 < 256 := by omega
            have n7 : I7 < 256 := by omega
            have nD : D < 256 := by omega
            have m21 : I2 ≠ I1 ∧ I2 ≠ J := by omega
            have m7 : I7 ≠ I2 ∧ I7 ≠ I1 ∧ I7 ≠ J := by omega
            have mD : D ≠ I7 ∧ D ≠ I2 ∧ D ≠ I1 ∧ D ≠ J := by omega
            have m1 : I1 ≠ J := by omega
            have RS := Lib.hid rs
            obtain ⟨L, hL⟩ : ∃ L, L = polyL R := ⟨_, rfl⟩
            have hLl : L.length = 256 := by rw [hL]; exact polyF_length _
            have x1 : nth L I1 = one8 (R.getLsbD I1) := by rw [hL, polyL, nth_polyF _ _ n1]
            have x2 : nth L I2 = one8 (R.getLsbD I2) := by rw [hL, polyL, nth_polyF _ _ n2]
            have x7 : nth L I7 = one8 (R.getLsbD I7) := by rw [hL, polyL, nth_polyF _ _ n7]
            have xD : nth L D = one8 (R.getLsbD D) := by rw [hL, polyL, nth_polyF _ _ nD]
            rw [← hL] at zz
            have HL := Lib.hid hL
            have ZZ := Lib.hid zz
            have X1 := Lib.hid x1
            have X2 := Lib.hid x2
            have X7 := Lib.hid x7
            have XD := Lib.hid xD
            clear rs hL zz hR hnx hbit hI1 hI2 hI7 hD hJ hIJ x1 x2 x7 xD
            have nthL2 : nth (L.set J 0#8) I1 = nth L I1 := by rw [nth_set _ _ _ _ (by omega), if_neg (by omega)]
            have nthL3 : nth ((L.set J 0#8).set I1 (nth L I1 ^^^ 1#8)) I2 = nth L I2 := by rw [nth_set _ _ _ _ (by simp [hLl]; omega), if_neg (by omega), nth_set _ _ _ _ (by omega), if_neg (by omega)]
            have nthL4 : nth (((L.set J 0#8).set I1 (nth L I1 ^^^ 1#8)).set I2 (nth L I2 ^^^ 1#8)) I7 = nth L I7 := by rw [nth_set _ _ _ _ (by simp [hLl]; omega), if_neg (by omega), nth_set _ _ _ _ (by simp [hLl]; omega), if_neg (by omega), nth_set _ _ _ _ (by omega), if_neg (by omega)]
            have nthL5 : nth ((((L.set J 0#8).set I1 (nth L I1 ^^^ 1#8)).set I2 (nth L I2 ^^^ 1#8)).set I7 (nth L I7 ^^^ 1#8)) D = nth L D := by rw [nth_set _ _ _ _ (by simp [hLl]; omega), if_neg (by omega), nth_set _ _ _ _ (by simp [hLl]; omega), if_neg (by omega), nth_set _ _ _ _ (by simp [hLl]; omega), if_neg (by omega), nth_set _ _ _ _ (by omega), if_neg (by omega)]
            have Y0 := ZZ
            clear ZZ Z2
            have f1 := Y0.out.frozen J
            obtain ⟨w1, hw1⟩ : ∃ z, z = wr.setCell ⟨w.heap.size + 3, J, none⟩ (v8 0#8) := ⟨_, rfl⟩
            have y1 := Y0.out.set_ J (v8 0#8)
            have g1 := grown_setCell wr (w.heap.size + 3) J (v8 0#8)
            rw [A8_set, ← hw1] at y1
            rw [← hw1] at g1
            have P3 := Lib.hid (P2.out.grown g1 (by simp))
            have Q3 := Lib.hid (Q2.out.grown g1 (by simp))
            have K3 := Lib.hid (K2.out.grown g1 (by simp))
            have B3 := Lib.hid (B2.out.trans (grown_below g1 (by omega) B2.out.size))
            have Y1 := Lib.hid y1
            have HW1 := Lib.hid hw1
            clear y1 g1 hw1 Y0 P2 Q2 K2 B2
            go_upto_region 15 with fail
            rw [show wr.setCell ⟨w.heap.size + 3, J, none⟩ (Value.int .u8 0) = w1 from HW1.out.symm]
            clear f1 HW1
            clear c1
            have c12 := Y1.out.cell8 (m := 256) (by simp [hLl]) I1 (by omega)
            rw [nthL2] at c12
            have f2 := Y1.out.frozen I1
            obtain ⟨w2, hw2⟩ : ∃ z, z = w1.setCell ⟨w.heap.size + 3, I1, none⟩ (v8 (nth L I1 ^^^ 1#8)) := ⟨_, rfl⟩
            have y2 := Y1.out.set_ I1 (v8 (nth L I1 ^^^ 1#8))
            have g2 := grown_setCell w1 (w.heap.size + 3) I1 (v8 (nth L I1 ^^^ 1#8))
            rw [A8_set, ← hw2] at y2
            rw [← hw2] at g2
            have P4 := Lib.hid (P3.out.grown g2 (by simp))
            have Q4 := Lib.hid (Q3.out.grown g2 (by simp))
            have K4 := Lib.hid (K3.out.grown g2 (by simp))
            have B4 := Lib.hid (B3.out.trans (grown_below g2 (by omega) B3.out.size))
            have Y2 := Lib.hid y2
            have HW2 := Lib.hid hw2
            clear y2 g2 hw2 Y1 P3 Q3 K3 B3
            go_upto_region 16 with fail
            rw [show w1.setCell ⟨w.heap.size + 3, I1, none⟩ (v8 (nth L I1 ^^^ 1#8)) = w2 from HW2.out.symm]
            clear f2 HW2 c12
            have c13 := Y2.out.cell8 (m := 256) (by simp [hLl]) I2 (by omega)
            rw [nthL3] at c13
            have f3 := Y2.out.frozen I2
            obtain ⟨w3, hw3⟩ : ∃ z, z = w2.setCell ⟨w.heap.size + 3, I2, none⟩ (v8 (nth L I2 ^^^ 1#8)) := ⟨_, rfl⟩
            have y3 := Y2.out.set_ I2 (v8 (nth L I2 ^^^ 1#8))
            have g3 := grown_setCell w2 (w.heap.size + 3) I2 (v8 (nth L I2 ^^^ 1#8))
            rw [A8_set, ← hw3] at y3
            rw [← hw3] at g3
            have P5 := Lib.hid (P4.out.grown g3 (by simp))
            have Q5 := Lib.hid (Q4.out.grown g3 (by simp))
            have K5 := Lib.hid (K4.out.grown g3 (by simp))
            have B5 := Lib.hid (B4.out.trans (grown_below g3 (by omega) B4.out.size))
            have Y3 := Lib.hid y3
            have HW3 := Lib.hid hw3
            clear y3 g3 hw3 Y2 P4 Q4 K4 B4
            go_upto_region 17 with fail
            rw [show w2.setCell ⟨w.heap.size + 3, I2, none⟩ (v8 (nth L I2 ^^^ 1#8)) = w3 from HW3.out.symm]
            clear f3 HW3 c13
            have c14 := Y3.out.cell8 (m := 256) (by simp [hLl]) I7 (by omega)
            rw [nthL4] at c14
            have f4 := Y3.out.frozen I7
            obtain ⟨w4, hw4⟩ : ∃ z, z = w3.setCell ⟨w.heap.size + 3, I7, none⟩ (v8 (nth L I7 ^^^ 1#8)) := ⟨_, rfl⟩
            have y4 := Y3.out.set_ I7 (v8 (nth L I7 ^^^ 1#8))
            have g4 := grown_setCell w3 (w.heap.size + 3) I7 (v8 (nth L I7 ^^^ 1#8))
            rw [A8_set, ← hw4] at y4
            rw [← hw4] at g4
            have P6 := Lib.hid (P5.out.grown g4 (by simp))
            have Q6 := Lib.hid (Q5.out.grown g4 (by simp))
            have K6 := Lib.hid (K5.out.grown g4 (by simp))
            have B6 := Lib.hid (B5.out.trans (grown_below g4 (by omega) B5.out.size))
            have Y4 := Lib.hid y4
            have HW4 := Lib.hid hw4
            clear y4 g4 hw4 Y3 P5 Q5 K5 B5
            go_upto_region 18 with fail
            rw [show w3.setCell ⟨w.heap.size + 3, I7, none⟩ (v8 (nth L I7 ^^^ 1#8)) = w4 from HW4.out.symm]
            clear f4 HW4 c14
            have c15 := Y4.out.cell8 (m := 256) (by simp [hLl]) D (by omega)
            rw [nthL5] at c15
            have f5 := Y4.out.frozen D
            obtain ⟨w5, hw5⟩ : ∃ z, z = w4.setCell ⟨w.heap.size + 3, D, none⟩ (v8 (nth L D ^^^ 1#8)) := ⟨_, rfl⟩
            have y5 := Y4.out.set_ D (v8 (nth L D ^^^ 1#8))
            have g5 := grown_setCell w4 (w.heap.size + 3) D (v8 (nth L D ^^^ 1#8))
            rw [A8_set, ← hw5] at y5
            rw [← hw5] at g5
            have P7 := Lib.hid (P6.out.grown g5 (by simp))
            have Q7 := Lib.hid (Q6.out.grown g5 (by simp))
            have K7 := Lib.hid (K6.out.grown g5 (by simp))
            have B7 := Lib.hid (B6.out.trans (grown_below g5 (by omega) B6.out.size))
            have Y5 := Lib.hid y5
            have HW5 := Lib.hid hw5
            clear y5 g5 hw5 Y4 P6 Q6 K6 B6
            go_wp2
            rw [show w4.setCell ⟨w.heap.size + 3, D, none⟩ (v8 (nth L D ^^^ 1#8)) = w5 from HW5.out.symm]
            exact ⟨⟨t + 1, I1, by omega, HIJ.out, rfl, P7.out, Q7.out, K7.out, by rw [HN.out, ← RS.out, ← X1.out, ← X2.out, ← X7.out, ← XD.out, ← HL.out]; exact Y5.out, B7.out⟩, by simp [intOf]; omega⟩
          · have hbf : R.getLsbD J = false := by simpa using hbit
            rw [hbf, show one8 false = 0#8 from rfl] at c1
            have hsame : redS R J = R := by unfold redS; rw [hbf]; simp
            have HSm := Lib.hid hsame
            have ZZ := Lib.hid zz
            clear hR hnx hbit hbf hsame zz hI1 hJ hIJ
            go_wp2
            exact ⟨⟨t + 1, I1, by omega, HIJ.out, rfl, P2.out, Q2.out, K2.out, by rw [HN.out, HSm.out]; exact ZZ.out, B2.out⟩, by simp [intOf]; omega⟩
        · obtain rfl : t = 127 := by omega
          obtain rfl : J = 127 := by omega
          have zz := Z2.out
          rw [← HFM.out] at zz
          have r1 := zz.row
          have r2 := K2.out.row
          have r3 := K2.out.whole
          clear zz hJ
          go_wp2
          refine bodyPost_row (A8 F) rfl rfl rfl (Tryz.isAgg221 _) (Tryz.sizeOf221 _) (by rw [A8_size]; exact hl) (rowAt_setRow _ r3) ⟨rfl, below_setRow B2.out (by omega) _⟩
end Go.Proofs.YtfdkmjegcghieaaGreatDoor
/- ring by definition: Dot -/
namespace Go.Proofs.YtfdkmjegcghieaaGreatDoor
open Go.RowKit
theorem half_bits (q : Nat → Bool) (t : Nat) (hq : q 0 = true) (h128 : q 128 = false) :
    (if t = 128 then true else if t = 127 then !q 127 else if t = 126 then !q 126 else if t = 121 then !q 121 else if t = 0 then false else q t) = (q t ^^ (decide (t = 0) || decide (t = 121) || decide (t = 126) || decide (t = 127) || decide (t = 128))) := by
  by_cases g0 : t = 128
  · rw [if_pos g0, g0, h128]; simp
  by_cases g1 : t = 127
  · rw [if_neg g0, if_pos g1, g1]; simp
  by_cases g2 : t = 126
  · rw [if_neg g0, if_neg g1, if_pos g2, g2]; simp
  by_cases g3 : t = 121
  · rw [if_neg g0, if_neg g1, if_neg g2, if_pos g3, g3]; simp
  by_cases g4 : t = 0
  · rw [if_neg g0, if_neg g1, if_neg g2, if_neg g3, if_pos g4, g4, hq]; simp
  · rw [if_neg g0, if_neg g1, if_neg g2, if_neg g3, if_neg g4]; simp [g0, g1, g2, g3, g4]
/-- the field's polynomial, added -/
theorem half_set (q : BitVec 256) (hq : q.getLsbD 0 = true) (h128 : q.getLsbD 128 = false) :
    (((((polyL q).set 0 (one8 false)).set 121 (one8 (q.getLsbD 121) ^^^ 1#8)).set 126 (one8 (q.getLsbD 126) ^^^ 1#8)).set 127 (one8 (q.getLsbD 127) ^^^ 1#8)).set 128 (one8 true) = polyL (q ^^^ fieldF) := by
  simp only [one8_not]
  rw [polyL, polyF_set, polyF_set, polyF_set, polyF_set, polyF_set]
  refine polyF_ext fun t ht => ?_
  rw [BitVec.getLsbD_xor, field_bit _ ht]
  exact half_bits q.getLsbD t hq h128
/-- moved down, so far -/
def shF (X : BitVec 256) (k : Nat) : Nat → Bool := fun t => if t < k then X.getLsbD (t + 1) else X.getLsbD t
theorem shF_zero (X : BitVec 256) : polyF (shF X 0) = polyL X := polyF_ext fun t _ => by simp [shF]
theorem shF_set (X : BitVec 256) (k : Nat) : (polyF (shF X k)).set k (one8 (X.getLsbD (k + 1))) = polyF (shF X (k + 1)) := by
  rw [polyF_set]
  refine polyF_ext fun t _ => ?_
  unfold shF
  by_cases e : t = k
  · subst e; simp
  · rw [if_neg e]
    by_cases h : t < k
    · rw [if_pos h, if_pos (by omega)]
    · rw [if_neg h, if_neg (by omega)]
theorem shF_at (X : BitVec 256) (k : Nat) : shF X k (k + 1) = X.getLsbD (k + 1) := by unfold shF; rw [if_neg (by omega)]
theorem shF_full (X : BitVec 256) (hX : ∀ t, 129 ≤ t → X.getLsbD t = false) : (polyF (shF X 128)).set 128 (one8 false) = polyL (X >>> 1) := by
  rw [polyF_set]
  refine polyF_ext fun t _ => ?_
  rw [BitVec.getLsbD_ushiftRight, Nat.add_comm 1 t]
  unfold shF
  by_cases e : t = 128
  · rw [if_pos e, e, hX 129 (by omega)]
  · rw [if_neg e]
    by_cases h : t < 128
    · rw [if_pos h]
    · rw [if_neg h, hX t (by omega), hX (t + 1) (by omega)]
theorem wide_high (z : BitVec 128) (t : Nat) (h : 128 ≤ t) : (wideB z).getLsbD t = false := by
  unfold wideB
  rw [BitVec.getLsbD_setWidth, BitVec.getLsbD_of_ge z t h, Bool.and_false]
theorem field_high (t : Nat) (h : 129 ≤ t) : fieldF.getLsbD t = false := by
  by_cases h2 : t < 256
  · rw [field_bit _ h2]; simp; omega
  · exact BitVec.getLsbD_of_ge _ _ (by omega)
set_option linter.unusedSimpArgs false in
set_option maxRecDepth 100000 in
set_option maxHeartbeats 1600000 in
theorem refDot_any (a b : List (BitVec 8)) (w : World) (ha : a.length = 16) (hb16 : b.length = 16) :
    Calls Tryz.prog 151 #[.agg (A8 a), .agg (A8 b)] w fun e w' => e = .returned (.agg (A8 (by16 (dotB (numB a) (numB b))))) ∧ Below w.heap.size w w' := by
  obtain ⟨G, hG⟩ : ∃ G, G = by16 (dotB (numB a) (numB b)) := ⟨_, rfl⟩
  have hGl : G.length = 16 := by rw [hG]; simp [by16]
  rw [← hG]
  have HG := Lib.hid hG
  clear hG
  obtain ⟨W, hW⟩ : ∃ W, ((w.alloc (.cells (A8 a) 37)).alloc (.cells (A8 b) 37)).alloc (.cells (A8 (zeros 8 16)) 37) = W := ⟨_, rfl⟩
  obtain ⟨b0, b1, b2, hb, hz⟩ := new3 _ _ _ _ _ _ _ _ hW
  have P0 := Lib.hid b0
  have Q0 := Lib.hid b1
  have K0 := Lib.hid b2
  have B0 := Lib.hid hb
  have HZ := Lib.hid hz
  clear b0 b1 b2 hb hz
  obtain ⟨LA, hLA⟩ : ∃ L, L = polyL (wideB (numB a)) := ⟨_, rfl⟩
  obtain ⟨LB, hLB⟩ : ∃ L, L = polyL (wideB (numB b)) := ⟨_, rfl⟩
  obtain ⟨E0, hE0⟩ : ∃ E, E = ev (numB a) (numB b) := ⟨_, rfl⟩
  have hev : redTo (mulTo (wideB (numB a)) (wideB (numB b)) 128) 127 = wideB E0 := by rw [hE0]; exact red_mulTo _ _ 128 (Nat.le_refl _)
  have hfin : G = by16 (downs E0 128) := by rw [HG.out, hE0]; rfl
  obtain ⟨LE, hLE⟩ : ∃ L, L = polyL (wideB E0) := ⟨_, rfl⟩
  have hLEl : LE.length = 256 := by rw [hLE]; exact polyF_length _
  have HLA := Lib.hid hLA
  have HLB := Lib.hid hLB
  have HEV := Lib.hid hev
  have HLE := Lib.hid hLE
  have HFI := Lib.hid hfin
  clear hLA hLB hev hLE hfin hE0
  go_enter Tryz.func151, Tryz.ntmps151
  go_upto_region 1 with fail
  refine wp_region_order [5,2,5,2,2,2,3] [0,2] [(1, 2, _), (3, 2, _), (4, 2, _), (5, 2, _)] (fun i => if i = 3 then [1] else if i = 4 then [3] else []) [6] [_, _] [_] [5,5] [3] 4 rfl rfl rfl (by kernel_rfl) (by kernel_rfl) (by kernel_rfl) rfl rfl rfl (fun C0 hC0 hCb hCe K' hK' => ?_)
  have Q1 : ∀ w1, C0 w1 → rowAt w1 w.heap.size = A8 a := fun w1 hw => (P0.out.drew.belowAll (hCb w1 hw)).row
  have Q2 : ∀ w1, C0 w1 → rowAt w1 (w.heap.size + 1) = A8 b := fun w1 hw => (Q0.out.drew.belowAll (hCb w1 hw)).row
  repeat
    first
      | ((with_reducible refine h_pure (v := ?_) (a' := ?_) ?_ (fun _ => ?_) ?_ ?_); rotate_left; rotate_left; (focus (exact rfl)); (focus (go_simp; (try go_bits); exact rfl)); (focus (simp only [Act.put, List.setIfInBounds_toArray, List.set_cons_succ, List.set_cons_zero, Act.eval, Array.getD_eq_getD_getElem?, List.getElem?_toArray, List.getElem?_cons_succ, List.getElem?_cons_zero, Option.getD_some]; exact rfl)))
      | ((with_reducible refine h_obl (v := ?_) (a' := ?_) ?_ (fun _ hcw => ?_) ?_ ?_); rotate_left; rotate_left; (focus (exact rfl)); (focus (have fQ1 := Q1 _ hcw; have fQ2 := Q2 _ hcw; go_simp; (try go_bits); exact rfl)); (focus (simp only [Act.put, List.setIfInBounds_toArray, List.set_cons_succ, List.set_cons_zero, Act.eval, Array.getD_eq_getD_getElem?, List.getElem?_toArray, List.getElem?_cons_succ, List.getElem?_cons_zero, Option.getD_some]; exact rfl)))
      | ((with_reducible refine h_read (v := ?_) (a' := ?_) ?_ (fun _ hbw => ?_) ?_ ?_); rotate_left; rotate_left; (focus (exact rfl)); (focus (skip; go_simp; (try go_bits); exact rfl)); (focus (simp only [Act.put, List.setIfInBounds_toArray, List.set_cons_succ, List.set_cons_zero, Act.eval, Array.getD_eq_getD_getElem?, List.getElem?_toArray, List.getElem?_cons_succ, List.getElem?_cons_zero, Option.getD_some]; exact rfl)))
  refine h_nil ?_
  clear Q1 Q2
  generalize hAct : Act.mk _ _ = act
  obtain ⟨u, rfl⟩ : ∃ u : Nat → Value, act = { tmps := (fun u : Nat → Value => (u 0 :: u 1 :: Value.pointer (some ⟨w.heap.size, 0, none⟩) :: Value.pointer (some ⟨w.heap.size + 1, 0, none⟩) :: Value.pointer (some ⟨w.heap.size + 1 + 1, 0, none⟩) :: u 5 :: u 6 :: u 7 :: Value.agg (A8 a) :: u 9 :: Value.agg (A8 b) :: u 11 :: u 12 :: u 13 :: u 14 :: u 15 :: u 16 :: u 17 :: u 18 :: u 19 :: u 20 :: u 21 :: u 22 :: u 23 :: u 24 :: u 25 :: u 26 :: u 27 :: u 28 :: u 29 :: u 30 :: u 31 :: u 32 :: u 33 :: u 34 :: u 35 :: u 36 :: u 37 :: u 38 :: u 39 :: u 40 :: u 41 :: u 42 :: u 43 :: u 44 :: u 45 :: u 46 :: []).toArray) u, defers := [] } := by
    subst hAct; exact ex_frame _ rfl
  clear hAct
  obtain ⟨St, hSt⟩ : ∃ St : Nat → Bool → Act → World → Prop, ∀ kk fr a' w', St kk fr a' w' ↔ (∃ x9 x11 x12 x5 : Value, a' = { tmps := (u 0 :: u 1 :: Value.pointer (some ⟨w.heap.size, 0, none⟩) :: Value.pointer (some ⟨w.heap.size + 1, 0, none⟩) :: Value.pointer (some ⟨w.heap.size + 1 + 1, 0, none⟩) :: x5 :: u 6 :: u 7 :: Value.agg (A8 a) :: x9 :: Value.agg (A8 b) :: x11 :: x12 :: u 13 :: u 14 :: u 15 :: u 16 :: u 17 :: u 18 :: u 19 :: u 20 :: u 21 :: u 22 :: u 23 :: u 24 :: u 25 :: u 26 :: u 27 :: u 28 :: u 29 :: u 30 :: u 31 :: u 32 :: u 33 :: u 34 :: u 35 :: u 36 :: u 37 :: u 38 :: u 39 :: u 40 :: u 41 :: u 42 :: u 43 :: u 44 :: u 45 :: u 46 :: []).toArray, defers := [] } ∧ Below W.drew.heap.size W.drew w' ∧ (1 ≤ kk → x9 = .agg (A8 LA)) ∧ (2 ≤ kk → x11 = .agg (A8 LB)) ∧ (3 ≤ kk → x12 = .agg (A8 LE)) ∧ (fr = true → ∃ g, x5 = .pointer (some ⟨g, 0, none⟩) ∧ W.heap.size ≤ g ∧ Blk w' g 221 (A8 (zeros 8 256)))) := ⟨_, fun _ _ _ _ => Iff.rfl⟩
  refine permHO_chain (St := St) [_, _, _] _ 0 ⟨?as1, ?as2, ?as3, trivial⟩ ?af ?ach ?and ?aR _ _ ?a0
  case a0 => exact (hSt _ _ _ _).2 ⟨_, _, _, _, rfl, Below.refl _ _, fun h => by omega, fun h => by omega, fun h => by omega, fun h => by cases h⟩
  case ach => exact ⟨by decide, by decide, trivial⟩
  case and => decide
  case as1 =>
    intro fr a3 w3 hs
    obtain ⟨x9, x11, x12, x5, rfl, D3, h1, h2, h3, hf⟩ := (hSt _ _ _ _).1 hs
    clear hs
    refine opH_of_wpH ?_
    (with_reducible refine h_call ?_ ?_)
    · exact rfl
    go_simp
    refine entersW_of ?_
    refine (refLow_any a w3 ha).mono ?_
    rintro e w4 ⟨rfl, d4⟩
    refine ⟨_, rfl, d4, ?_⟩
    try simp only [Act.put, List.setIfInBounds_toArray, List.set_cons_succ, List.set_cons_zero]
    rw [← HLA.out]
    refine h_nil ((hSt _ _ _ _).2 ⟨_, _, _, _, rfl, D3.trans (d4.mono D3.size), fun _ => rfl, fun h => by omega, fun h => by omega, fun e => ?_⟩)
    obtain ⟨g, e1, e2, e3⟩ := hf e
    exact ⟨g, e1, e2, e3.belowAll d4⟩
  case as2 =>
    intro fr a3 w3 hs
    obtain ⟨x9, x11, x12, x5, rfl, D3, h1, h2, h3, hf⟩ := (hSt _ _ _ _).1 hs
    clear hs
    obtain rfl := h1 (by omega)
    refine opH_of_wpH ?_
    (with_reducible refine h_call ?_ ?_)
    · exact rfl
    go_simp
    refine entersW_of ?_
    refine (refLow_any b w3 hb16).mono ?_
    rintro e w4 ⟨rfl, d4⟩
    refine ⟨_, rfl, d4, ?_⟩
    try simp only [Act.put, List.setIfInBounds_toArray, List.set_cons_succ, List.set_cons_zero]
    rw [← HLB.out]
    refine h_nil ((hSt _ _ _ _).2 ⟨_, _, _, _, rfl, D3.trans (d4.mono D3.size), fun _ => rfl, fun _ => rfl, fun h => by omega, fun e => ?_⟩)
    obtain ⟨g, e1, e2, e3⟩ := hf e
    exact ⟨g, e1, e2, e3.belowAll d4⟩
  case as3 =>
    intro fr a3 w3 hs
    obtain ⟨x9, x11, x12, x5, rfl, D3, h1, h2, h3, hf⟩ := (hSt _ _ _ _).1 hs
    clear hs
    obtain rfl := h1 (by omega)
    obtain rfl := h2 (by omega)
    refine opH_of_wpH ?_
    (with_reducible refine h_call ?_ ?_)
    · exact rfl
    go_simp
    refine entersW_of ?_
    refine ((show Calls Tryz.prog 171 #[.agg (A8 LA), .agg (A8 LB), .int .i64 127, .int .i64 126, .int .i64 121] w3 _ from by rw [HLA.out, HLB.out]; exact refrest_any (numB a) (numB b) w3)).mono ?_
    rintro e w4 ⟨rfl, d4⟩
    refine ⟨_, rfl, d4, ?_⟩
    try simp only [Act.put, List.setIfInBounds_toArray, List.set_cons_succ, List.set_cons_zero]
    rw [HEV.out, ← HLE.out]
    refine h_nil ((hSt _ _ _ _).2 ⟨_, _, _, _, rfl, D3.trans (d4.mono D3.size), fun _ => rfl, fun _ => rfl, fun _ => rfl, fun e => ?_⟩)
    obtain ⟨g, e1, e2, e3⟩ := hf e
    exact ⟨g, e1, e2, e3.belowAll d4⟩
  case af =>
    intro j hj a3 w3 hs
    obtain ⟨x9, x11, x12, x5, rfl, D3, h1, h2, h3, hf⟩ := (hSt _ _ _ _).1 hs
    clear hs
    refine opH_of_wpH ?_
    obtain ⟨u3, eu3⟩ : ∃ u, w3.alloc (.cells (A8 (zeros 8 256)) 221) = u := ⟨_, rfl⟩
    obtain ⟨bf, du, zu⟩ := new1 _ _ _ _ eu3
    obtain ⟨pf, hpf⟩ : ∃ g, g = w3.heap.size := ⟨_, rfl⟩
    refine h_made (v := .pointer (some ⟨pf, 0, none⟩)) (w' := u3) rfl (by rw [hpf]; go_simp; exact eu3) du ?_
    simp only [Act.put, List.setIfInBounds_toArray, List.set_cons_succ, List.set_cons_zero]
    rw [← hpf] at bf
    exact h_nil ((hSt _ _ _ _).2 ⟨_, _, _, _, rfl, D3.trans (du.mono D3.size), h1, h2, h3, fun _ => ⟨pf, rfl, by rw [hpf]; exact D3.size, bf⟩⟩)
  case aR =>
    intro a3 w3 hs
    obtain ⟨x9, x11, x12, x5, rfl, D3, h1, h2, h3, hf⟩ := (hSt _ _ _ _).1 hs
    clear hs hSt
    obtain rfl := h1 (by decide)
    obtain rfl := h2 (by decide)
    obtain rfl := h3 (by decide)
    obtain ⟨gP, rfl, hg, bg⟩ := hf rfl
    refine c_act ?_
    refine z_storeRow bg rfl rfl (by rw [A8_size, A8_size, hLEl, zeros_length]) (A8_ones _) (by rw [A8_size, hLEl]; exact Tryz.sizeOf221 _) (fun wV kk4 g4 s4 => ?_)
    have BD := D3.trans (grown_below g4 hg D3.size)
    refine z_nil ⟨hCe _ BD, ?_⟩
    refine c_nil (hK' _ _ ?_)
    have E4 : Below W.heap.size W wV := ((Below.refl W.heap.size W).drew).trans BD
    have hgP : w.heap.size + 2 < gP := by have := HZ.out; omega
    have K4 := Lib.hid (K0.out.belowAll E4)
    have B4 := Lib.hid (B0.out.trans (E4.mono B0.out.size))
    have Z4 := Lib.hid kk4
    clear hK' hC0 hCb hCe BD D3 h1 h2 h3 hf bg g4 s4 kk4 E4 P0 Q0 K0 B0 hg
    go_wp2_with fail
    go_loopw [6] (fun i wr => ∃ j : Nat, j ≤ 128 ∧ i = .int .i64 j ∧ Blk wr (w.heap.size + 2) 37 (A8 (zeros 8 16)) ∧ Blk wr gP 221 (A8 (polyL (wideB (downs E0 j)))) ∧ Below w.heap.size w wr) (fun i _ => 128 - (intOf i).toNat)
    case atStart => exact ⟨0, by omega, rfl, K4.out, by rw [show downs E0 0 = E0 from rfl, ← HLE.out]; exact Z4.out, B4.out⟩
    case round =>
      obtain ⟨j, hj, rfl, hK, hZ, hB⟩ := hrel
      have K0 := Lib.hid hK
      have B0 := Lib.hid hB
      have Z0 := Lib.hid hZ
      clear hK hZ hB K4 Z4 B4
      by_cases hj128 : j < 128
      · have j1 : (j : Int) < 128 := by omega
        have j0 : (0 : Int) ≤ (j : Int) := by omega
        obtain ⟨z, hz⟩ : ∃ z, z = downs E0 j := ⟨_, rfl⟩
        have zz := Z0.out
        rw [← hz] at zz
        have hnx : halfS (wideB z) = wideB (downs E0 (j + 1)) := by rw [half_wide, hz]; rfl
        have c1 := zz.cell8 (polyF_length _) 0 (by omega)
        rw [polyL, nth_polyF _ _ (by omega)] at c1
        have h128 := wide_high z 128 (Nat.le_refl _)
        obtain ⟨q, hq⟩ : ∃ q, q = wideB z := ⟨_, rfl⟩
        have hhi : ∀ t, 128 ≤ t → q.getLsbD t = false := fun t h => by rw [hq]; exact wide_high z t h
        rw [← hq] at zz hnx c1 h128
        have HHI := Lib.hid hhi
        clear hz hq hhi Z0
        by_cases hbit : q.getLsbD 0 = true
        · rw [hbit, show one8 true = 1#8 from rfl] at c1
          have hs := half_set q hbit h128
          obtain ⟨X, hX⟩ : ∃ X, X = q ^^^ fieldF := ⟨_, rfl⟩
          have hh : X >>> 1 = wideB (downs E0 (j + 1)) := by rw [← hnx, hX, halfS, hbit, if_pos rfl]
          rw [← hX] at hs
          have hXh : ∀ t, 129 ≤ t → X.getLsbD t = false := fun t h => by rw [hX, BitVec.getLsbD_xor, HHI.out t (by omega), field_high t h]; rfl
          have HX := Lib.hid hXh
          have HH := Lib.hid hh
          have HS := Lib.hid hs
          obtain ⟨L, hL⟩ : ∃ L, L = polyL q := ⟨_, rfl⟩
          have hLl : L.length = 256 := by rw [hL]; exact polyF_length _
          have x121 : nth L 121 = one8 (q.getLsbD 121) := by rw [hL, polyL, nth_polyF _ _ (by omega)]
          have X121 := Lib.hid x121
          have x126 : nth L 126 = one8 (q.getLsbD 126) := by rw [hL, polyL, nth_polyF _ _ (by omega)]
          have X126 := Lib.hid x126
          have x127 : nth L 127 = one8 (q.getLsbD 127) := by rw [hL, polyL, nth_polyF _ _ (by omega)]
          have X127 := Lib.hid x127
          have zL : Blk wr gP 221 (A8 L) := by rw [hL]; exact zz
          have HL := Lib.hid hL
          have Y0 := Lib.hid zL
          clear hX hh hXh hs hL zz zL x121 x126 x127 hnx h128 hbit HHI
          have f1 := Y0.out.frozen 0
          obtain ⟨w1, hw1⟩ : ∃ z, z = wr.setCell ⟨gP, 0, none⟩ (v8 0#8) := ⟨_, rfl⟩
          have y1 := Y0.out.set_ 0 (v8 0#8)
          have g1 := grown_setCell wr gP 0 (v8 0#8)
          rw [A8_set, ← hw1] at y1
          rw [← hw1] at g1
          have K1 := Lib.hid (K0.out.grown g1 (by simp; omega))
          have B1 := Lib.hid (B0.out.trans (grown_below g1 (by omega) B0.out.size))
          have Y1 := Lib.hid y1
          have HW1 := Lib.hid hw1
          clear y1 g1 hw1 Y0 K0 B0
          go_upto_region 7 with fail
          rw [show wr.setCell ⟨gP, 0, none⟩ (Value.int .u8 0) = w1 from HW1.out.symm]
          clear f1 HW1 c1
          have c12 := Y1.out.cell8 (m := 256) (by simp [hLl]) 121 (by omega)
          rw [show nth ((L).set 0 (0#8)) 121 = nth L 121 by rw [nth_set _ _ _ _ (by simp [hLl]), if_neg (by omega)]] at c12
          have f2 := Y1.out.frozen 121
          obtain ⟨w2, hw2⟩ : ∃ z, z = w1.setCell ⟨gP, 121, none⟩ (v8 (nth L 121 ^^^ 1#8)) := ⟨_, rfl⟩
          have y2 := Y1.out.set_ 121 (v8 (nth L 121 ^^^ 1#8))
          have g2 := grown_setCell w1 gP 121 (v8 (nth L 121 ^^^ 1#8))
          rw [A8_set, ← hw2] at y2
          rw [← hw2] at g2
          have K2 := Lib.hid (K1.out.grown g2 (by simp; omega))
          have B2 := Lib.hid (B1.out.trans (grown_below g2 (by omega) B1.out.size))
          have Y2 := Lib.hid y2
          have HW2 := Lib.hid hw2
          clear y2 g2 hw2 Y1 K1 B1
          go_upto_region 8 with fail
          rw [show w1.setCell ⟨gP, 121, none⟩ (v8 (nth L 121 ^^^ 1#8)) = w2 from HW2.out.symm]
          clear f2 HW2 c12
          have c13 := Y2.out.cell8 (m := 256) (by simp [hLl]) 126 (by omega)
          rw [show nth (((L).set 0 (0#8)).set 121 ((nth L 121 ^^^ 1#8))) 126 = nth L 126 by rw [nth_set _ _ _ _ (by simp [hLl]), if_neg (by omega), nth_set _ _ _ _ (by simp [hLl]), if_neg (by omega)]] at c13
          have f3 := Y2.out.frozen 126
          obtain ⟨w3, hw3⟩ : ∃ z, z = w2.setCell ⟨gP, 126, none⟩ (v8 (nth L 126 ^^^ 1#8)) := ⟨_, rfl⟩
          have y3 := Y2.out.set_ 126 (v8 (nth L 126 ^^^ 1#8))
          have g3 := grown_setCell w2 gP 126 (v8 (nth L 126 ^^^ 1#8))
          rw [A8_set, ← hw3] at y3
          rw [← hw3] at g3
          have K3 := Lib.hid (K2.out.grown g3 (by simp; omega))
          have B3 := Lib.hid (B2.out.trans (grown_below g3 (by omega) B2.out.size))
          have Y3 := Lib.hid y3
          have HW3 := Lib.hid hw3
          clear y3 g3 hw3 Y2 K2 B2
          go_upto_region 9 with fail
          rw [show w2.setCell ⟨gP, 126, none⟩ (v8 (nth L 126 ^^^ 1#8)) = w3 from HW3.out.symm]
          clear f3 HW3 c13
          have c14 := Y3.out.cell8 (m := 256) (by simp [hLl]) 127 (by omega)
          rw [show nth ((((L).set 0 (0#8)).set 121 ((nth L 121 ^^^ 1#8))).set 126 ((nth L 126 ^^^ 1#8))) 127 = nth L 127 by rw [nth_set _ _ _ _ (by simp [hLl]), if_neg (by omega), nth_set _ _ _ _ (by simp [hLl]), if_neg (by omega), nth_set _ _ _ _ (by simp [hLl]), if_neg (by omega)]] at c14
          have f4 := Y3.out.frozen 127
          obtain ⟨w4, hw4⟩ : ∃ z, z = w3.setCell ⟨gP, 127, none⟩ (v8 (nth L 127 ^^^ 1#8)) := ⟨_, rfl⟩
          have y4 := Y3.out.set_ 127 (v8 (nth L 127 ^^^ 1#8))
          have g4 := grown_setCell w3 gP 127 (v8 (nth L 127 ^^^ 1#8))
          rw [A8_set, ← hw4] at y4
          rw [← hw4] at g4
          have K4 := Lib.hid (K3.out.grown g4 (by simp; omega))
          have B4 := Lib.hid (B3.out.trans (grown_below g4 (by omega) B3.out.size))
          have Y4 := Lib.hid y4
          have HW4 := Lib.hid hw4
          clear y4 g4 hw4 Y3 K3 B3
          go_upto_region 10 with fail
          rw [show w3.setCell ⟨gP, 127, none⟩ (v8 (nth L 127 ^^^ 1#8)) = w4 from HW4.out.symm]
          clear f4 HW4 c14
          have c15 := Y4.out.cell8 (m := 256) (by simp [hLl]) 128 (by omega)
          have f5 := Y4.out.frozen 128
          obtain ⟨w5, hw5⟩ : ∃ z, z = w4.setCell ⟨gP, 128, none⟩ (v8 1#8) := ⟨_, rfl⟩
          have y5 := Y4.out.set_ 128 (v8 1#8)
          have g5 := grown_setCell w4 gP 128 (v8 1#8)
          rw [A8_set, ← hw5] at y5
          rw [← hw5] at g5
          have K5 := Lib.hid (K4.out.grown g5 (by simp; omega))
          have B5 := Lib.hid (B4.out.trans (grown_below g5 (by omega) B4.out.size))
          have Y5 := Lib.hid y5
          have HW5 := Lib.hid hw5
          clear y5 g5 hw5 Y4 K4 B4
          go_wp2_with fail
          rw [show w4.setCell ⟨gP, 128, none⟩ (Value.int .u8 1) = w5 from HW5.out.symm]
          clear f5 HW5 c15
          have y6 := Y5.out
          have he : (((((L.set 0 0#8).set 121 (nth L 121 ^^^ 1#8)).set 126 (nth L 126 ^^^ 1#8)).set 127 (nth L 127 ^^^ 1#8)).set 128 1#8) = polyL X := by rw [X121.out, X126.out, X127.out, HL.out]; exact HS.out
          rw [he] at y6
          have Y0 := Lib.hid y6
          have K0 := K5
          have B0 := B5
          clear y6 he Y5 K5 B5 HS X121 X126 X127 HL
          go_loopw [7] (fun s wr => ∃ k : Nat, k ≤ 128 ∧ s = .int .i64 k ∧ Blk wr (w.heap.size + 2) 37 (A8 (zeros 8 16)) ∧ Blk wr gP 221 (A8 (polyF (shF X k))) ∧ Below w.heap.size w wr) (fun s _ => 128 - (intOf s).toNat)
          case atStart => exact ⟨0, by omega, rfl, K0.out, by rw [shF_zero]; exact Y0.out, B0.out⟩
          case round =>
            obtain ⟨k, hk, rfl, hK, hZ, hB⟩ := hrel
            have K9 := Lib.hid hK
            have Y9 := Lib.hid hZ
            have B9 := Lib.hid hB
            clear hK hZ hB K0 Y0 B0
            by_cases hk128 : k < 128
            · have k1 : (k : Int) < 128 := by omega
              have k2 : (k : Int) < 256 := by omega
              have k0 : (0 : Int) ≤ (k : Int) := by omega
              obtain ⟨S, hS⟩ : ∃ S, S = k + 1 := ⟨_, rfl⟩
              have s1 : (k : Int) + 1 = (S : Int) := by omega
              have s2 : IntKind.i64.wrap (S : Int) = (S : Int) := by rw [IntKind.wrap_i64]; omega
              have s3 : (0 : Int) ≤ (S : Int) := by omega
              have s4 : (S : Int) < 256 := by omega
              have hS256 : S < 256 := by omega
              have ss := shF_set X k
              rw [← hS] at ss
              have c9 := Y9.out.cell8 (polyF_length _) k (by omega)
              have hSk : S = k + 1 := hS
              have c8 := Y9.out.cell8 (polyF_length _) S hS256
              rw [nth_polyF _ _ hS256, show shF X k S = X.getLsbD S by rw [hS]; exact shF_at X k] at c8
              obtain ⟨Z, hZ⟩ : ∃ Z, Z = one8 (X.getLsbD S) := ⟨_, rfl⟩
              rw [← hZ] at c8 ss
              have SS := Lib.hid ss
              have HSk := Lib.hid hSk
              clear ss hS hZ hSk
              have f10 := Y9.out.frozen k
              obtain ⟨w10, hw10⟩ : ∃ z, z = wr.setCell ⟨gP, k, none⟩ (v8 Z) := ⟨_, rfl⟩
              have y10 := Y9.out.set_ k (v8 Z)
              have g10 := grown_setCell wr gP k (v8 Z)
              rw [A8_set, ← hw10] at y10
              rw [← hw10] at g10
              have K10 := Lib.hid (K9.out.grown g10 (by simp; omega))
              have B10 := Lib.hid (B9.out.trans (grown_below g10 (by omega) B9.out.size))
              have Y10 := Lib.hid y10
              have HW10 := Lib.hid hw10
              clear y10 g10 hw10 Y9 K9 B9
              go_wp2
              rw [show wr.setCell ⟨gP, k, none⟩ (v8 Z) = w10 from HW10.out.symm]
              have hSk := HSk.out
              exact ⟨⟨S, by omega, rfl, K10.out, by rw [← SS.out]; exact Y10.out, B10.out⟩, by simp [intOf]; omega⟩
            · obtain rfl : k = 128 := by omega
              have sf := shF_full X HX.out
              have SF := Lib.hid sf
              have c9 := Y9.out.cell8 (polyF_length _) 128 (by omega)
              clear sf
              have f10 := Y9.out.frozen 128
              obtain ⟨w10, hw10⟩ : ∃ z, z = wr.setCell ⟨gP, 128, none⟩ (v8 (one8 false)) := ⟨_, rfl⟩
              have y10 := Y9.out.set_ 128 (v8 (one8 false))
              have g10 := grown_setCell wr gP 128 (v8 (one8 false))
              rw [A8_set, ← hw10] at y10
              rw [← hw10] at g10
              have K10 := Lib.hid (K9.out.grown g10 (by simp; omega))
              have B10 := Lib.hid (B9.out.trans (grown_below g10 (by omega) B9.out.size))
              have Y10 := Lib.hid y10
              have HW10 := Lib.hid hw10
              clear y10 g10 hw10 Y9 K9 B9
              go_wp2
              rw [show wr.setCell ⟨gP, 128, none⟩ (Value.int .u8 0) = w10 from HW10.out.symm]
              exact ⟨⟨j + 1, by omega, by go_num, K10.out, by rw [← HH.out, ← SF.out]; exact Y10.out, B10.out⟩, by simp [intOf]; omega⟩
        · have hbf : q.getLsbD 0 = false := by simpa using hbit
          rw [hbf, show one8 false = 0#8 from rfl] at c1
          have hh : q >>> 1 = wideB (downs E0 (j + 1)) := by rw [← hnx, halfS, hbf]; simp
          obtain ⟨X, hX⟩ : ∃ X, X = q := ⟨_, rfl⟩
          rw [← hX] at hh zz
          have hXh : ∀ t, 129 ≤ t → X.getLsbD t = false := fun t h => by rw [hX]; exact HHI.out t (by omega)
          have HX := Lib.hid hXh
          have HH := Lib.hid hh
          have Y0 := Lib.hid zz
          clear hX hh hXh zz hnx h128 hbit hbf HHI
          go_wp2_with fail
          go_loopw [7] (fun s wr => ∃ k : Nat, k ≤ 128 ∧ s = .int .i64 k ∧ Blk wr (w.heap.size + 2) 37 (A8 (zeros 8 16)) ∧ Blk wr gP 221 (A8 (polyF (shF X k))) ∧ Below w.heap.size w wr) (fun s _ => 128 - (intOf s).toNat)
          case atStart => exact ⟨0, by omega, rfl, K0.out, by rw [shF_zero]; exact Y0.out, B0.out⟩
          case round =>
            obtain ⟨k, hk, rfl, hK, hZ, hB⟩ := hrel
            have K9 := Lib.hid hK
            have Y9 := Lib.hid hZ
            have B9 := Lib.hid hB
            clear hK hZ hB K0 Y0 B0
            by_cases hk128 : k < 128
            · have k1 : (k : Int) < 128 := by omega
              have k2 : (k : Int) < 256 := by omega
              have k0 : (0 : Int) ≤ (k : Int) := by omega
              obtain ⟨S, hS⟩ : ∃ S, S = k + 1 := ⟨_, rfl⟩
              have s1 : (k : Int) + 1 = (S : Int) := by omega
              have s2 : IntKind.i64.wrap (S : Int) = (S : Int) := by rw [IntKind.wrap_i64]; omega
              have s3 : (0 : Int) ≤ (S : Int) := by omega
              have s4 : (S : Int) < 256 := by omega
              have hS256 : S < 256 := by omega
              have ss := shF_set X k
              rw [← hS] at ss
              have c9 := Y9.out.cell8 (polyF_length _) k (by omega)
              have hSk : S = k + 1 := hS
              have c8 := Y9.out.cell8 (polyF_length _) S hS256
              rw [nth_polyF _ _ hS256, show shF X k S = X.getLsbD S by rw [hS]; exact shF_at X k] at c8
              obtain ⟨Z, hZ⟩ : ∃ Z, Z = one8 (X.getLsbD S) := ⟨_, rfl⟩
              rw [← hZ] at c8 ss
              have SS := Lib.hid ss
              have HSk := Lib.hid hSk
              clear ss hS hZ hSk
              have f10 := Y9.out.frozen k
              obtain ⟨w10, hw10⟩ : ∃ z, z = wr.setCell ⟨gP, k, none⟩ (v8 Z) := ⟨_, rfl⟩
              have y10 := Y9.out.set_ k (v8 Z)
              have g10 := grown_setCell wr gP k (v8 Z)
              rw [A8_set, ← hw10] at y10
              rw [← hw10] at g10
              have K10 := Lib.hid (K9.out.grown g10 (by simp; omega))
              have B10 := Lib.hid (B9.out.trans (grown_below g10 (by omega) B9.out.size))
              have Y10 := Lib.hid y10
              have HW10 := Lib.hid hw10
              clear y10 g10 hw10 Y9 K9 B9
              go_wp2
              rw [show wr.setCell ⟨gP, k, none⟩ (v8 Z) = w10 from HW10.out.symm]
              have hSk := HSk.out
              exact ⟨⟨S, by omega, rfl, K10.out, by rw [← SS.out]; exact Y10.out, B10.out⟩, by simp [intOf]; omega⟩
            · obtain rfl : k = 128 := by omega
              have sf := shF_full X HX.out
              have SF := Lib.hid sf
              have c9 := Y9.out.cell8 (polyF_length _) 128 (by omega)
              clear sf
              have f10 := Y9.out.frozen 128
              obtain ⟨w10, hw10⟩ : ∃ z, z = wr.setCell ⟨gP, 128, none⟩ (v8 (one8 false)) := ⟨_, rfl⟩
              have y10 := Y9.out.set_ 128 (v8 (one8 false))
              have g10 := grown_setCell wr gP 128 (v8 (one8 false))
              rw [A8_set, ← hw10] at y10
              rw [← hw10] at g10
              have K10 := Lib.hid (K9.out.grown g10 (by simp; omega))
              have B10 := Lib.hid (B9.out.trans (grown_below g10 (by omega) B9.out.size))
              have Y10 := Lib.hid y10
              have HW10 := Lib.hid hw10
              clear y10 g10 hw10 Y9 K9 B9
              go_wp2
              rw [show wr.setCell ⟨gP, 128, none⟩ (Value.int .u8 0) = w10 from HW10.out.symm]
              exact ⟨⟨j + 1, by omega, by go_num, K10.out, by rw [← HH.out, ← SF.out]; exact Y10.out, B10.out⟩, by simp [intOf]; omega⟩
      · obtain rfl : j = 128 := by omega
        obtain ⟨z, hz⟩ : ∃ z, z = downs E0 128 := ⟨_, rfl⟩
        have zz := Z0.out
        have hF := HFI.out
        rw [← hz] at zz hF
        obtain ⟨LZ, hLZ⟩ : ∃ L, L = polyL (wideB z) := ⟨_, rfl⟩
        have hLZl : LZ.length = 256 := by rw [hLZ]; exact polyF_length _
        rw [← hLZ] at zz
        have r1 := zz.row
        have HLZ := Lib.hid hLZ
        have HF := Lib.hid hF
        clear hz hLZ hF zz Z0
        go_wp2_with fail
        refine (show Calls Tryz.prog 173 #[.agg (A8 LZ)] wr _ from by rw [HLZ.out]; exact refLowest_any z wr).mono ?_
        rintro e w6 ⟨rfl, d6⟩
        rw [show by16 z = G from HF.out.symm]
        have k6 := K0.out.belowAll d6
        have r2 := k6.row
        have r3 := k6.whole
        have B6 := Lib.hid (B0.out.trans (d6.mono B0.out.size))
        clear d6 r1 K0 B0
        go_wp2
        refine bodyPost_row (A8 G) rfl rfl rfl (Tryz.isAgg37 _) (Tryz.sizeOf37 _) (by rw [A8_size]; exact hGl) (rowAt_setRow _ r3) ⟨rfl, below_setRow B6.out (by omega) _⟩
end Go.Proofs.YtfdkmjegcghieaaGreatDoor
