/- chacha by definition: Short -/
import Derived.Test.YthogbbigglmapaaRef8
import Derived.OneCell
namespace Go.Proofs.Ythogbbigglmapaa
open Go.RowKit
/-- the rows that Short takes, so many of sixteen numbers looked at -/
def shortTo (T : List (BitVec 32)) (j : Nat) : List (BitVec 8) := bytes32 ((T.take j).take 4) ++ bytes32 ((T.take j).drop 12)
theorem shortTo_zero (T : List (BitVec 32)) : shortTo T 0 = [] := rfl
theorem shortTo_full (T : List (BitVec 32)) (h : T.length = 16) : shortTo T 16 = shortOf T := by
  have e : T.take 16 = T := List.take_of_length_le (by omega)
  rw [shortTo, e]; rfl
theorem shortTo_low (T : List (BitVec 32)) (j : Nat) (h : j < T.length) (hj : j < 4) : shortTo T j ++ le32 (nth T j) = shortTo T (j + 1) := by
  have e : ∀ k, k ≤ 4 → shortTo T k = bytes32 (T.take k) := by
    intro k hk
    rw [shortTo, List.take_of_length_le (by rw [List.length_take]; omega), List.drop_of_length_le (by rw [List.length_take]; omega)]
    simp [bytes32]
  rw [e j (by omega), e (j + 1) (by omega), bytes_take T j h]
theorem shortTo_mid (T : List (BitVec 32)) (j : Nat) (hj : 4 ≤ j) (hj2 : j < 12) : shortTo T (j + 1) = shortTo T j := by
  rw [shortTo, shortTo, List.take_take, List.take_take, List.drop_of_length_le (by rw [List.length_take]; omega), List.drop_of_length_le (by rw [List.length_take]; omega), show min 4 (j + 1) = min 4 j by omega]
theorem shortTo_high (T : List (BitVec 32)) (j : Nat) (h : j < T.length) (hj : 12 ≤ j) : shortTo T j ++ le32 (nth T j) = shortTo T (j + 1) := by
  rw [shortTo, shortTo, List.take_take, List.take_take, show min 4 (j + 1) = min 4 j by omega, List.append_assoc, take_succ_nth T j h, List.drop_append_of_le_length (by rw [List.length_take]; omega), bytes32_append]
  refine congrArg _ (congrArg _ ?_)
  simp [bytes32]
theorem shortTo_length (T : List (BitVec 32)) (j : Nat) : (shortTo T j).length ≤ 4 * T.length + 64 := by
  rw [shortTo, List.length_append, bytes32_length, bytes32_length, List.length_take, List.length_take, List.length_drop, List.length_take]
  omega
/-- so many bytes, the first j of them laid -/
def fill8 (m : Nat) (l : List (BitVec 8)) (j : Nat) : List (BitVec 8) := (List.range m).map fun i => if i < j then nth l i else 0
theorem fill8_length (m : Nat) (l : List (BitVec 8)) (j : Nat) : (fill8 m l j).length = m := by simp [fill8]
theorem nth_fill8 (m : Nat) (l : List (BitVec 8)) (j i : Nat) (hi : i < m) : nth (fill8 m l j) i = if i < j then nth l i else 0 := by
  simp [nth, fill8, List.getD_eq_getElem?_getD, hi]
theorem fill8_zero (m : Nat) (l : List (BitVec 8)) : fill8 m l 0 = zeros 8 m := by
  apply ext_nth
  · simp [fill8_length, zeros]
  · intro i hi
    rw [fill8_length] at hi
    rw [nth_fill8 _ _ _ _ hi, nth_zeros]; simp
theorem fill8_set (m : Nat) (l : List (BitVec 8)) (j : Nat) (hj : j < m) : (fill8 m l j).set j (nth l j) = fill8 m l (j + 1) := by
  apply ext_nth
  · simp [fill8_length]
  · intro i hi
    rw [List.length_set, fill8_length] at hi
    rw [nth_set _ _ _ _ (by rw [fill8_length]; exact hj), nth_fill8 _ _ _ _ hi, nth_fill8 _ _ _ _ hi]
    by_cases h : j = i
    · subst h; simp
    · by_cases h2 : i < j
      · rw [if_neg h, if_pos h2, if_pos (by omega)]
      · rw [if_neg h, if_neg h2, if_neg (by omega)]
theorem fill8_full (m : Nat) (l : List (BitVec 8)) (h : l.length = m) : fill8 m l m = l := by
  apply ext_nth
  · rw [fill8_length, h]
  · intro i hi
    rw [fill8_length] at hi
    rw [nth_fill8 _ _ _ _ hi, if_pos hi]
theorem Own8.far8 {w : World} {B g cap b j : Nat} {e : TypeId} {l : List (BitVec 8)} (h : Own8 w B e (.slice (some ⟨g, 0, none⟩) l.length cap) l) (hb : g ≠ b) (v : Value) : Own8 (w.setCell ⟨b, j, none⟩ v) B e (.slice (some ⟨g, 0, none⟩) l.length cap) l :=
  ownsRow_setCell_other h (by simp [Value.ownBlock, hb]) v
set_option linter.unusedSimpArgs false in
set_option maxRecDepth 100000 in
set_option maxHeartbeats 1600000 in
theorem refShort_any (key inp : List (BitVec 8)) (r : Int) (w : World) (hk : key.length = 32) (hi : inp.length = 16) (hr0 : 0 ≤ r) (hr : r ≤ 20) :
    Calls Try.prog 37 #[.agg (A8 key), .agg (A8 inp), .int .i64 r] w fun e w' => e = .returned (.agg (A8 (shortOf (mixTo (startTo key inp 4) (r.toNat / 2))))) ∧ Below w.heap.size w w' := by
  obtain ⟨W, hW⟩ : ∃ W, ((w.alloc (.cells (A8 key) 35)).alloc (.cells (A8 inp) 36)).alloc (.cells (A8 (zeros 8 32)) 35) = W := ⟨_, rfl⟩
  obtain ⟨b0, b1, b2, hb, hz⟩ := new3 _ _ _ _ _ _ _ _ hW
  have r0 := b0.row
  have r1 := b1.row
  have Z0 := Lib.hid b2
  have B := Lib.hid hb
  obtain ⟨S, hS⟩ : ∃ S, S = startTo key inp 4 := ⟨_, rfl⟩
  have hSl : S.length = 16 := by rw [hS, startTo_length]
  have hst := fun w => refStart_any key inp w hk hi
  rw [← hS] at hst ⊢
  clear b0 b1 b2 hb hz hS
  go_enter Try.func37, Try.ntmps37
  go_wp2_with fail
  refine (hst W).mono ?_
  rintro e w1 ⟨rfl, hb1⟩
  have hB1 := B.out.trans (hb1.mono B.out.size)
  have B1 := Lib.hid hB1
  have Z1 := Lib.hid (Z0.out.belowAll hb1)
  clear r0 r1 hW hb1 hB1 B Z0 hst
  go_wp2_with fail
  refine (refMix_any S r w1 hSl hr0 hr).mono ?_
  rintro e w2 ⟨rfl, hb2⟩
  obtain ⟨T, hT⟩ : ∃ T, T = mixTo S (r.toNat / 2) := ⟨_, rfl⟩
  have hTl : T.length = 16 := by rw [hT, mixTo_length, hSl]
  rw [← hT]
  have HTL := Lib.hid hTl
  have HT := Lib.hid hT
  have Z2 := Lib.hid ((Z1.out.belowAll hb2).alloc (.cells (A32 T) 38))
  have T2 := Lib.hid (Blk.new w2 38 (A32 T))
  have hB2 := B1.out.trans (hb2.mono B1.out.size)
  have B2 := Lib.hid (hB2.alloc hB2.size (.cells (A32 T) 38))
  have hST : w.heap.size + 2 < w2.heap.size := (Z1.out.belowAll hb2).lt
  clear hb2 hB2 Z1 B1 hT
  go_wp2_with fail
  clear hTl hSl
  generalize w2.alloc (.cells (A32 T) 38) = W2 at *
  generalize w2.heap.size = pT at *
  go_loopw [8, 9] (fun v i wr => ∃ j : Nat, j ≤ 16 ∧ i = .int .i64 j ∧ Blk wr (w.heap.size + 2) 35 (A8 (zeros 8 32)) ∧ Blk wr pT 38 (A32 T) ∧ Own8 wr (pT + 1) 5 v (shortTo T j) ∧ Below w.heap.size w wr) (fun _ i _ => 16 - (intOf i).toNat)
  case atStart => exact ⟨0, Nat.zero_le _, rfl, Z2.out, T2.out, Own8.nil_ _ _ _, B2.out⟩
  case round =>
    obtain ⟨j, hj, rfl, hZ, hT, hO, hB⟩ := hrel
    have Z3 := Lib.hid hZ
    have T3 := Lib.hid hT
    have O3 := Lib.hid hO
    have B3 := Lib.hid hB
    clear hZ hT hO hB Z2 T2 B2
    by_cases hj16 : j < 16
    · have j0 : (0 : Int) ≤ (j : Int) := by omega
      have j1 : (j : Int) < 16 := by omega
      have c2 := T3.out.cell32 HTL.out j hj16
      by_cases hj4 : (j : Int) < 4
      rotate_left
      by_cases hj12 : (12 : Int) ≤ (j : Int)
      · go_upto_region 7 with fail
        refine wp_region_plain2 [0,0,0,1,0,2,2,0] rfl (fun K2 hK2 => ?_)
        repeat
          first
            | ((with_reducible refine z_move (a' := ?_) ?_ ?_); rotate_left; · (simp only [Act.put, List.setIfInBounds_toArray, List.set_cons_succ, List.set_cons_zero, Act.eval, Array.getD_eq_getD_getElem?, List.getElem?_toArray, List.getElem?_cons_succ, List.getElem?_cons_zero, Option.getD_some]; exact rfl))
            | ((with_reducible refine z_assign (a' := ?_) ?_ ?_); rotate_left; · (simp only [Act.put, List.setIfInBounds_toArray, List.set_cons_succ, List.set_cons_zero, Act.eval, Array.getD_eq_getD_getElem?, List.getElem?_toArray, List.getElem?_cons_succ, List.getElem?_cons_zero, Option.getD_some]; exact rfl))
            | ((with_reducible refine z_obl (v := ?_) (a' := ?_) rfl (fun _ => ?_) ?_ ?_); rotate_left; rotate_left; (focus (go_simp; (try go_bits); exact rfl)); (focus (simp only [Act.put, List.setIfInBounds_toArray, List.set_cons_succ, List.set_cons_zero, Act.eval, Array.getD_eq_getD_getElem?, List.getElem?_toArray, List.getElem?_cons_succ, List.getElem?_cons_zero, Option.getD_some]; exact rfl)))
            | ((with_reducible refine z_read (v := ?_) (a' := ?_) rfl ?_ ?_ ?_); rotate_left; rotate_left; (focus (go_simp; (try go_bits); exact rfl)); (focus (simp only [Act.put, List.setIfInBounds_toArray, List.set_cons_succ, List.set_cons_zero, Act.eval, Array.getD_eq_getD_getElem?, List.getElem?_toArray, List.getElem?_cons_succ, List.getElem?_cons_zero, Option.getD_some]; exact rfl)))
            | ((with_reducible refine z_oblG (v := ?_) (a' := ?_) ?_ (fun _ => ?_) ?_ ?_); rotate_left; rotate_left; (focus (exact rfl)); (focus (go_simp; (try go_bits); exact rfl)); (focus (simp only [Act.put, List.setIfInBounds_toArray, List.set_cons_succ, List.set_cons_zero, Act.eval, Array.getD_eq_getD_getElem?, List.getElem?_toArray, List.getElem?_cons_succ, List.getElem?_cons_zero, Option.getD_some]; exact rfl)))
            | ((with_reducible refine z_readG (v := ?_) (a' := ?_) ?_ ?_ ?_ ?_); rotate_left; rotate_left; (focus (exact rfl)); (focus (go_simp; (try go_bits); exact rfl)); (focus (simp only [Act.put, List.setIfInBounds_toArray, List.set_cons_succ, List.set_cons_zero, Act.eval, Array.getD_eq_getD_getElem?, List.getElem?_toArray, List.getElem?_cons_succ, List.getElem?_cons_zero, Option.getD_some]; exact rfl)))
        (with_reducible refine z_callwG ?_ ?_)
        · exact rfl
        go_simp
        refine entersW_of ?_
        refine (refPut_any ((nth T j).setWidth 64) 4 wr (by omega)).mono ?_
        rintro e w3 ⟨v3, rfl, ho3, hb3⟩
        refine ⟨_, rfl, ?_⟩
        try simp only [Act.put, List.setIfInBounds_toArray, List.set_cons_succ, List.set_cons_zero]
        rw [putR_le32] at ho3
        obtain ⟨a3, c3, rfl, hr3, _⟩ := ho3.rd
        rw [le32_length] at hr3 ⊢
        refine z_append8 (O3.out.below hb3) hr3 rfl rfl Try.underlying22 info8 (by have := shortTo_length T j; rw [HTL.out] at this; omega) (by have h1 : pT < wr.heap.size := T3.out.lt; have h2 := hb3.size; omega) (fun w4 v4 o4 g4 b4 => ?_)
        simp only [Act.put, List.setIfInBounds_toArray, List.set_cons_succ, List.set_cons_zero]
        repeat
          first
            | ((with_reducible refine z_move (a' := ?_) ?_ ?_); rotate_left; · (simp only [Act.put, List.setIfInBounds_toArray, List.set_cons_succ, List.set_cons_zero, Act.eval, Array.getD_eq_getD_getElem?, List.getElem?_toArray, List.getElem?_cons_succ, List.getElem?_cons_zero, Option.getD_some]; exact rfl))
            | ((with_reducible refine z_assign (a' := ?_) ?_ ?_); rotate_left; · (simp only [Act.put, List.setIfInBounds_toArray, List.set_cons_succ, List.set_cons_zero, Act.eval, Array.getD_eq_getD_getElem?, List.getElem?_toArray, List.getElem?_cons_succ, List.getElem?_cons_zero, Option.getD_some]; exact rfl))
            | ((with_reducible refine z_obl (v := ?_) (a' := ?_) rfl (fun _ => ?_) ?_ ?_); rotate_left; rotate_left; (focus (go_simp; (try go_bits); exact rfl)); (focus (simp only [Act.put, List.setIfInBounds_toArray, List.set_cons_succ, List.set_cons_zero, Act.eval, Array.getD_eq_getD_getElem?, List.getElem?_toArray, List.getElem?_cons_succ, List.getElem?_cons_zero, Option.getD_some]; exact rfl)))
            | ((with_reducible refine z_read (v := ?_) (a' := ?_) rfl ?_ ?_ ?_); rotate_left; rotate_left; (focus (go_simp; (try go_bits); exact rfl)); (focus (simp only [Act.put, List.setIfInBounds_toArray, List.set_cons_succ, List.set_cons_zero, Act.eval, Array.getD_eq_getD_getElem?, List.getElem?_toArray, List.getElem?_cons_succ, List.getElem?_cons_zero, Option.getD_some]; exact rfl)))
            | ((with_reducible refine z_oblG (v := ?_) (a' := ?_) ?_ (fun _ => ?_) ?_ ?_); rotate_left; rotate_left; (focus (exact rfl)); (focus (go_simp; (try go_bits); exact rfl)); (focus (simp only [Act.put, List.setIfInBounds_toArray, List.set_cons_succ, List.set_cons_zero, Act.eval, Array.getD_eq_getD_getElem?, List.getElem?_toArray, List.getElem?_cons_succ, List.getElem?_cons_zero, Option.getD_some]; exact rfl)))
            | ((with_reducible refine z_readG (v := ?_) (a' := ?_) ?_ ?_ ?_ ?_); rotate_left; rotate_left; (focus (exact rfl)); (focus (go_simp; (try go_bits); exact rfl)); (focus (simp only [Act.put, List.setIfInBounds_toArray, List.set_cons_succ, List.set_cons_zero, Act.eval, Array.getD_eq_getD_getElem?, List.getElem?_toArray, List.getElem?_cons_succ, List.getElem?_cons_zero, Option.getD_some]; exact rfl)))
        refine z_nil (hK2 _ _ ?_)
        rw [shortTo_high T j (by rw [HTL.out]; exact hj16) (by omega)] at o4
        have O4 := Lib.hid o4
        have Z4 := Lib.hid ((Z3.out.belowAll hb3).grown g4 ((O3.out.below hb3).apart (by omega)))
        have T4 := Lib.hid ((T3.out.belowAll hb3).grown g4 ((O3.out.below hb3).apart (by omega)))
        have d4 := B3.out.trans (hb3.mono B3.out.size)
        have B4 := Lib.hid (d4.trans (b4.mono (by omega)))
        clear o4 g4 b4 d4 hb3 hr3 ho3 c2 hK2
        go_wp2
        exact ⟨⟨j + 1, by omega, by go_num, Z4.out, T4.out, O4.out, B4.out⟩, by simp [intOf]; omega⟩
      · have o4 := O3.out
        rw [← shortTo_mid T j (by omega) (by omega)] at o4
        have O4 := Lib.hid o4
        clear o4 c2
        go_wp2
        exact ⟨⟨j + 1, by omega, by go_num, Z3.out, T3.out, O4.out, B3.out⟩, by simp [intOf]; omega⟩
      · go_upto_region 7 with fail
        refine wp_region_plain2 [0,0,0,1,0,2,2,0] rfl (fun K2 hK2 => ?_)
        repeat
          first
            | ((with_reducible refine z_move (a' := ?_) ?_ ?_); rotate_left; · (simp only [Act.put, List.setIfInBounds_toArray, List.set_cons_succ, List.set_cons_zero, Act.eval, Array.getD_eq_getD_getElem?, List.getElem?_toArray, List.getElem?_cons_succ, List.getElem?_cons_zero, Option.getD_some]; exact rfl))
            | ((with_reducible refine z_assign (a' := ?_) ?_ ?_); rotate_left; · (simp only [Act.put, List.setIfInBounds_toArray, List.set_cons_succ, List.set_cons_zero, Act.eval, Array.getD_eq_getD_getElem?, List.getElem?_toArray, List.getElem?_cons_succ, List.getElem?_cons_zero, Option.getD_some]; exact rfl))
            | ((with_reducible refine z_obl (v := ?_) (a' := ?_) rfl (fun _ => ?_) ?_ ?_); rotate_left; rotate_left; (focus (go_simp; (try go_bits); exact rfl)); (focus (simp only [Act.put, List.setIfInBounds_toArray, List.set_cons_succ, List.set_cons_zero, Act.eval, Array.getD_eq_getD_getElem?, List.getElem?_toArray, List.getElem?_cons_succ, List.getElem?_cons_zero, Option.getD_some]; exact rfl)))
            | ((with_reducible refine z_read (v := ?_) (a' := ?_) rfl ?_ ?_ ?_); rotate_left; rotate_left; (focus (go_simp; (try go_bits); exact rfl)); (focus (simp only [Act.put, List.setIfInBounds_toArray, List.set_cons_succ, List.set_cons_zero, Act.eval, Array.getD_eq_getD_getElem?, List.getElem?_toArray, List.getElem?_cons_succ, List.getElem?_cons_zero, Option.getD_some]; exact rfl)))
            | ((with_reducible refine z_oblG (v := ?_) (a' := ?_) ?_ (fun _ => ?_) ?_ ?_); rotate_left; rotate_left; (focus (exact rfl)); (focus (go_simp; (try go_bits); exact rfl)); (focus (simp only [Act.put, List.setIfInBounds_toArray, List.set_cons_succ, List.set_cons_zero, Act.eval, Array.getD_eq_getD_getElem?, List.getElem?_toArray, List.getElem?_cons_succ, List.getElem?_cons_zero, Option.getD_some]; exact rfl)))
            | ((with_reducible refine z_readG (v := ?_) (a' := ?_) ?_ ?_ ?_ ?_); rotate_left; rotate_left; (focus (exact rfl)); (focus (go_simp; (try go_bits); exact rfl)); (focus (simp only [Act.put, List.setIfInBounds_toArray, List.set_cons_succ, List.set_cons_zero, Act.eval, Array.getD_eq_getD_getElem?, List.getElem?_toArray, List.getElem?_cons_succ, List.getElem?_cons_zero, Option.getD_some]; exact rfl)))
        (with_reducible refine z_callwG ?_ ?_)
        · exact rfl
        go_simp
        refine entersW_of ?_
        refine (refPut_any ((nth T j).setWidth 64) 4 wr (by omega)).mono ?_
        rintro e w3 ⟨v3, rfl, ho3, hb3⟩
        refine ⟨_, rfl, ?_⟩
        try simp only [Act.put, List.setIfInBounds_toArray, List.set_cons_succ, List.set_cons_zero]
        rw [putR_le32] at ho3
        obtain ⟨a3, c3, rfl, hr3, _⟩ := ho3.rd
        rw [le32_length] at hr3 ⊢
        refine z_append8 (O3.out.below hb3) hr3 rfl rfl Try.underlying22 info8 (by have := shortTo_length T j; rw [HTL.out] at this; omega) (by have h1 : pT < wr.heap.size := T3.out.lt; have h2 := hb3.size; omega) (fun w4 v4 o4 g4 b4 => ?_)
        simp only [Act.put, List.setIfInBounds_toArray, List.set_cons_succ, List.set_cons_zero]
        repeat
          first
            | ((with_reducible refine z_move (a' := ?_) ?_ ?_); rotate_left; · (simp only [Act.put, List.setIfInBounds_toArray, List.set_cons_succ, List.set_cons_zero, Act.eval, Array.getD_eq_getD_getElem?, List.getElem?_toArray, List.getElem?_cons_succ, List.getElem?_cons_zero, Option.getD_some]; exact rfl))
            | ((with_reducible refine z_assign (a' := ?_) ?_ ?_); rotate_left; · (simp only [Act.put, List.setIfInBounds_toArray, List.set_cons_succ, List.set_cons_zero, Act.eval, Array.getD_eq_getD_getElem?, List.getElem?_toArray, List.getElem?_cons_succ, List.getElem?_cons_zero, Option.getD_some]; exact rfl))
            | ((with_reducible refine z_obl (v := ?_) (a' := ?_) rfl (fun _ => ?_) ?_ ?_); rotate_left; rotate_left; (focus (go_simp; (try go_bits); exact rfl)); (focus (simp only [Act.put, List.setIfInBounds_toArray, List.set_cons_succ, List.set_cons_zero, Act.eval, Array.getD_eq_getD_getElem?, List.getElem?_toArray, List.getElem?_cons_succ, List.getElem?_cons_zero, Option.getD_some]; exact rfl)))
            | ((with_reducible refine z_read (v := ?_) (a' := ?_) rfl ?_ ?_ ?_); rotate_left; rotate_left; (focus (go_simp; (try go_bits); exact rfl)); (focus (simp only [Act.put, List.setIfInBounds_toArray, List.set_cons_succ, List.set_cons_zero, Act.eval, Array.getD_eq_getD_getElem?, List.getElem?_toArray, List.getElem?_cons_succ, List.getElem?_cons_zero, Option.getD_some]; exact rfl)))
            | ((with_reducible refine z_oblG (v := ?_) (a' := ?_) ?_ (fun _ => ?_) ?_ ?_); rotate_left; rotate_left; (focus (exact rfl)); (focus (go_simp; (try go_bits); exact rfl)); (focus (simp only [Act.put, List.setIfInBounds_toArray, List.set_cons_succ, List.set_cons_zero, Act.eval, Array.getD_eq_getD_getElem?, List.getElem?_toArray, List.getElem?_cons_succ, List.getElem?_cons_zero, Option.getD_some]; exact rfl)))
            | ((with_reducible refine z_readG (v := ?_) (a' := ?_) ?_ ?_ ?_ ?_); rotate_left; rotate_left; (focus (exact rfl)); (focus (go_simp; (try go_bits); exact rfl)); (focus (simp only [Act.put, List.setIfInBounds_toArray, List.set_cons_succ, List.set_cons_zero, Act.eval, Array.getD_eq_getD_getElem?, List.getElem?_toArray, List.getElem?_cons_succ, List.getElem?_cons_zero, Option.getD_some]; exact rfl)))
        refine z_nil (hK2 _ _ ?_)
        rw [shortTo_low T j (by rw [HTL.out]; exact hj16) (by omega)] at o4
        have O4 := Lib.hid o4
        have Z4 := Lib.hid ((Z3.out.belowAll hb3).grown g4 ((O3.out.below hb3).apart (by omega)))
        have T4 := Lib.hid ((T3.out.belowAll hb3).grown g4 ((O3.out.below hb3).apart (by omega)))
        have d4 := B3.out.trans (hb3.mono B3.out.size)
        have B4 := Lib.hid (d4.trans (b4.mono (by omega)))
        clear o4 g4 b4 d4 hb3 hr3 ho3 c2 hK2
        go_wp2
        exact ⟨⟨j + 1, by omega, by go_num, Z4.out, T4.out, O4.out, B4.out⟩, by simp [intOf]; omega⟩
    · obtain rfl : j = 16 := by omega
      have hO := O3.out
      rw [shortTo_full T HTL.out] at hO
      obtain ⟨U, hU⟩ : ∃ U, U = shortOf T := ⟨_, rfl⟩
      have hUl : U.length = 32 := by rw [hU, shortOf_length T HTL.out]
      rw [← hU] at hO
      obtain ⟨g4, c4, rfl, hg4, hlt4⟩ := hO.form (by omega)
      have O4 := Lib.hid hO
      have UL := Lib.hid hUl
      have HU := Lib.hid hU
      clear hO O3 hU
      have hbt : pT + 1 ≤ g4 := hg4
      have Z4 := Z3.out
      have B4 := B3.out
      go_upto_region 9 with fail
      have O5 := Lib.hid (O4.out.alloc (.cells (A8 (zeros 8 32)) 35))
      have Z5 := Lib.hid (Z4.alloc (.cells (A8 (zeros 8 32)) 35))
      have B5 := Lib.hid (B4.alloc B4.size (.cells (A8 (zeros 8 32)) 35))
      have N5 := Lib.hid (Blk.new wr 35 (A8 (zeros 8 32)))
      have hz : w.heap.size + 2 < wr.heap.size := Z4.lt
      clear Z4 B4 O4 Z3 B3 T3
      generalize wr.alloc (.cells (A8 (zeros 8 32)) 35) = w5 at *
      generalize wr.heap.size = pO at *
      go_wp2_with fail
      go_loopw [11] (fun i wx => ∃ j : Nat, j ≤ 32 ∧ i = .int .i64 j ∧ Blk wx (w.heap.size + 2) 35 (A8 (zeros 8 32)) ∧ Blk wx pO 35 (A8 (fill8 32 U j)) ∧ Own8 wx (pT + 1) 5 (.slice (some ⟨g4, 0, none⟩) U.length c4) U ∧ Below w.heap.size w wx) (fun i _ => 32 - (intOf i).toNat)
      case atStart => exact ⟨0, Nat.zero_le _, rfl, Z5.out, by rw [fill8_zero]; exact N5.out, O5.out, B5.out⟩
      case round =>
        obtain ⟨j, hj, rfl, hZ, hN, hO, hB⟩ := hrel
        have Z6 := Lib.hid hZ
        have N6 := Lib.hid hN
        have O6 := Lib.hid hO
        have B6 := Lib.hid hB
        clear hZ hN hO hB Z5 N5 O5 B5
        by_cases hj16 : j < 32
        · have j0 : (0 : Int) ≤ (j : Int) := by omega
          have j1 : (j : Int) < 32 := by omega
          have c1 := N6.out.cell8 (fill8_length 32 U j) j hj16
          have fo := N6.out.frozen j
          have c2 := O6.out.cell j (by rw [UL.out]; exact hj16)
          have hll : U.length = 32 := UL.out
          have kk := N6.out.set_ j (v8 (nth U j))
          rw [A8_set, fill8_set 32 U j hj16] at kk
          have N7 := Lib.hid kk
          have Z7 := Lib.hid (Z6.out.far (p := ⟨pO, j, none⟩) (by simp; omega) (v8 (nth U j)))
          have B7 := Lib.hid (B6.out.setCell (p := ⟨pO, j, none⟩) (by simp; omega) (v8 (nth U j)))
          have O7 := Lib.hid (O6.out.far8 (j := j) (show g4 ≠ pO by omega) (v8 (nth U j)))
          clear kk N6 Z6 B6 O6
          go_wp2
          exact ⟨⟨j + 1, by omega, by go_num, Z7.out, N7.out, O7.out, B7.out⟩, by simp [intOf]; omega⟩
        · obtain rfl : j = 32 := by omega
          have zz := N6.out
          rw [fill8_full 32 U UL.out] at zz
          have r1 := zz.row
          have r2 := Z6.out.row
          have r3 := Z6.out.whole
          have hl := UL.out
          clear zz
          go_wp2
          rw [← HT.out, ← HU.out]
          refine bodyPost_row (A8 U) rfl rfl rfl (Try.isAgg35 _) (Try.sizeOf35 _) (by rw [A8_size]; exact hl) (rowAt_setRow _ r3) ⟨rfl, below_setRow B6.out (by omega) _⟩
end Go.Proofs.Ythogbbigglmapaa
