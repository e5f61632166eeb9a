/- chacha: longer streams, single bytes: the walk -/
import Derived.Test.YthogbbigglmapaaW17
import Derived.Test.YthogbbigglmapaaApp
import Derived.Test.YthogbbigglmapaaText3
namespace Go.Proofs.Ythogbbigglmapaa
open Go.RowKit
theorem streamOf_take (f : Nat → List (BitVec 8)) (b : List (BitVec 8)) (j : Nat) : streamOf f (b.take j) = (streamOf f b).take j := by
  apply ext_nth
  · rw [streamOf_length, List.length_take, List.length_take, streamOf_length]
  · intro i hi
    rw [streamOf_length, List.length_take] at hi
    rw [nth_streamOf _ _ _ (by rw [List.length_take]; exact hi), nth_take _ _ _ (by omega), nth_take _ _ _ (by omega), nth_streamOf _ _ _ (by omega)]
theorem streamOf_set (f : Nat → List (BitVec 8)) (b : List (BitVec 8)) (j : Nat) (hj : j < b.length) (y : BitVec 8) : streamOf f (b.set j (nth b j ^^^ y)) = (streamOf f b).set j (nth (streamOf f b) j ^^^ y) := by
  apply ext_nth
  · rw [streamOf_length, List.length_set, List.length_set, streamOf_length]
  · intro i hi
    rw [streamOf_length, List.length_set] at hi
    rw [nth_streamOf _ _ _ (by rw [List.length_set]; exact hi), nth_set _ _ _ _ hj, nth_set _ _ _ _ (by rw [streamOf_length]; exact hj), nth_streamOf _ _ _ hj]
    by_cases h : j = i
    · subst h
      rw [if_pos rfl, if_pos rfl]
      generalize nth b j = p
      generalize nth (f (j / 64)) (j % 64) = q
      rw [BitVec.xor_assoc, BitVec.xor_assoc, BitVec.xor_comm y q]
    · rw [if_neg h, if_neg h, nth_streamOf _ _ _ hi]
set_option linter.unusedSimpArgs false in
set_option maxRecDepth 100000 in
set_option maxHeartbeats 1600000 in
theorem ChachaRows_walk (T : Array Value) (k n : List (BitVec 8)) (r : Int) (a : Option Addr) (len cap : Nat) (l : List (BitVec 8)) (nn : Int) (y : BitVec 8) (w : World) (h : TextAt T k n r a len cap) (hl : Rd8 w a len cap l) (hnn : (Lit.int .u16 nn).wf = true) :
    Calls Try.prog 18 #[.agg T, .int .u16 nn, v8 y] w fun e w' => e = .returned (.bool true) ∧ Below w.heap.size w w' := by
  obtain ⟨W, hW⟩ : ∃ W, (w.alloc (.cells T 66)) = W := ⟨_, rfl⟩
  obtain ⟨b0, hb, hz⟩ := new1 _ _ _ _ hW
  have r0 := b0.row
  have s0 := h.size
  have B0 := Lib.hid b0
  have B := Lib.hid hb
  have LL := Lib.hid hl
  have HH := Lib.hid h
  have NB := Lib.hid (bounds_u16 hnn)
  have x0 : T.extract 0 58 = T := by rw [← s0]; simp
  clear hb hz b0 h hl hnn
  go_enter Try.func18, Try.ntmps18
  go_wp2_with fail
  refine (text_right W HH.out).mono ?_
  rintro e w1 ⟨rfl, hb1⟩
  clear hW r0
  have B1 := Lib.hid (B0.out.belowAll hb1)
  have C1 := Lib.hid (B.out.trans (hb1.mono B.out.size))
  have z1 := C1.out.size
  clear B0 B hb1
  by_cases hR : len ≤ 300 ∧ (r = 8 ∨ r = 12 ∨ r = 20)
  · rw [decide_eq_true hR]
    have r0 := B1.out.row
    have t0 := HH.out.key
    have t1 := HH.out.nonce
    have c1 := B1.out.cell 56
    have c2 := B1.out.cell 57
    rw [HH.out.rounds] at c1
    rw [HH.out.b] at c2
    by_cases hlen : len = 0
    · subst hlen
      go_wp2
      go_ret
      exact ⟨rfl, C1.out⟩
    · have len1 : ¬ (len : Int) = 0 := by omega
      have len2 : len ≤ 140737488355328 := by omega
      obtain ⟨j, hj⟩ : ∃ j, j = nn.toNat % len := ⟨_, rfl⟩
      have hjl : j < len := by rw [hj]; exact Nat.mod_lt _ (by omega)
      have htm : (wrap64 nn).tmod (len : Int) = (j : Int) := by
        have nb := NB.out
        have e : wrap64 nn = nn := by unfold wrap64; omega
        rw [e, Int.tmod_eq_emod_of_nonneg nb.1, hj, Int.natCast_emod, Int.toNat_of_nonneg nb.1]
      clear hj
      go_wp2_with fail
      refine (crypt_yes k n l r a len cap w1 HH.out.lk HH.out.ln hR.2 (LL.out.below C1.out) len2).mono ?_
      rintro e w2 ⟨v2, rfl, ho2, hb2⟩
      obtain ⟨c, hc⟩ : ∃ c, c = cryptOf k n r.toNat l := ⟨_, rfl⟩
      rw [← hc] at ho2
      have hcl : c.length = len := by rw [hc, cryptOf_length, LL.out.1]
      obtain ⟨a2, c2', rfl, hr2, _⟩ := ho2.rd
      rw [hcl] at hr2 ⊢
      have R2 := Lib.hid hr2
      have B2 := Lib.hid (B1.out.belowAll hb2)
      have C2 := Lib.hid (C1.out.trans (hb2.mono C1.out.size))
      have HC := Lib.hid hc
      clear r0 c1 c2 ho2 hr2 hb2 hc z1 htm
      have r0 := B2.out.row
      have c1 := B2.out.cell 56
      have c2 := B2.out.cell 57
      rw [HH.out.rounds] at c1
      rw [HH.out.b] at c2
      have j1 : (j : Int) ≤ (cap : Int) := by have := LL.out.2.1; omega
      have j0 : (0 : Int) ≤ (j : Int) := by omega
      have j2 : (j : Int) ≤ (len : Int) := by omega
      have j3 : (j : Int) < (len : Int) := by omega
      go_wp2_with fail
      refine wp_region_text2 [0,1,0,1,0,1,0,1,0,0,2,0,0,0,0,0] (by kernel_rfl) (by kernel_rfl) (fun K3 hK3 => ?_)
      repeat
        first
          | ((with_reducible refine z_move (a' := ?_) ?_ ?_); rotate_left; · (simp only [Act.put, List.setIfInBounds_toArray, List.set_cons_succ, List.set_cons_zero, Act.eval, Array.getD_eq_getD_getElem?, List.getElem?_toArray, List.getElem?_cons_succ, List.getElem?_cons_zero, Option.getD_some]; exact rfl))
          | ((with_reducible refine z_assign (a' := ?_) ?_ ?_); rotate_left; · (simp only [Act.put, List.setIfInBounds_toArray, List.set_cons_succ, List.set_cons_zero, Act.eval, Array.getD_eq_getD_getElem?, List.getElem?_toArray, List.getElem?_cons_succ, List.getElem?_cons_zero, Option.getD_some]; exact rfl))
          | ((with_reducible refine z_obl (v := ?_) (a' := ?_) rfl (fun _ => ?_) ?_ ?_); rotate_left; rotate_left; (focus (go_simp; (try go_bits); exact rfl)); (focus (simp only [Act.put, List.setIfInBounds_toArray, List.set_cons_succ, List.set_cons_zero, Act.eval, Array.getD_eq_getD_getElem?, List.getElem?_toArray, List.getElem?_cons_succ, List.getElem?_cons_zero, Option.getD_some]; exact rfl)))
          | ((with_reducible refine z_read (v := ?_) (a' := ?_) rfl ?_ ?_ ?_); rotate_left; rotate_left; (focus (go_simp; (try go_bits); exact rfl)); (focus (simp only [Act.put, List.setIfInBounds_toArray, List.set_cons_succ, List.set_cons_zero, Act.eval, Array.getD_eq_getD_getElem?, List.getElem?_toArray, List.getElem?_cons_succ, List.getElem?_cons_zero, Option.getD_some]; exact rfl)))
      (with_reducible refine z_callw rfl ?_)
      go_simp
      refine entersW_of ?_
      refine (crypt_yes k n (l.take j) r a j cap _ HH.out.lk HH.out.ln hR.2 (((LL.out.below C2.out).pre (Nat.le_of_lt hjl)).drew) (by omega)).mono ?_
      rintro e w3 ⟨v3, rfl, ho3, hb3⟩
      refine ⟨_, rfl, ?_⟩
      try simp only [Act.put, List.setIfInBounds_toArray, List.set_cons_succ, List.set_cons_zero]
      repeat
        first
          | ((with_reducible refine z_move (a' := ?_) ?_ ?_); rotate_left; · (simp only [Act.put, List.setIfInBounds_toArray, List.set_cons_succ, List.set_cons_zero, Act.eval, Array.getD_eq_getD_getElem?, List.getElem?_toArray, List.getElem?_cons_succ, List.getElem?_cons_zero, Option.getD_some]; exact rfl))
          | ((with_reducible refine z_assign (a' := ?_) ?_ ?_); rotate_left; · (simp only [Act.put, List.setIfInBounds_toArray, List.set_cons_succ, List.set_cons_zero, Act.eval, Array.getD_eq_getD_getElem?, List.getElem?_toArray, List.getElem?_cons_succ, List.getElem?_cons_zero, Option.getD_some]; exact rfl))
          | ((with_reducible refine z_obl (v := ?_) (a' := ?_) rfl (fun _ => ?_) ?_ ?_); rotate_left; rotate_left; (focus (go_simp; (try go_bits); exact rfl)); (focus (simp only [Act.put, List.setIfInBounds_toArray, List.set_cons_succ, List.set_cons_zero, Act.eval, Array.getD_eq_getD_getElem?, List.getElem?_toArray, List.getElem?_cons_succ, List.getElem?_cons_zero, Option.getD_some]; exact rfl)))
          | ((with_reducible refine z_read (v := ?_) (a' := ?_) rfl ?_ ?_ ?_); rotate_left; rotate_left; (focus (go_simp; (try go_bits); exact rfl)); (focus (simp only [Act.put, List.setIfInBounds_toArray, List.set_cons_succ, List.set_cons_zero, Act.eval, Array.getD_eq_getD_getElem?, List.getElem?_toArray, List.getElem?_cons_succ, List.getElem?_cons_zero, Option.getD_some]; exact rfl)))
      refine z_nil (hK3 _ _ ?_)
      rw [cryptOf, streamOf_take, ← cryptOf, ← HC.out] at ho3
      obtain ⟨a3, c3', rfl, hr3, _⟩ := ho3.rd
      rw [List.length_take, hcl, Nat.min_eq_left (Nat.le_of_lt hjl)] at hr3 ⊢
      have R3 := Lib.hid hr3
      have R2' := Lib.hid (R2.out.drew.below hb3)
      have B3 := Lib.hid (B2.out.drew.belowAll hb3)
      have C3 := Lib.hid (C2.out.drew.trans (hb3.mono C2.out.size))
      clear r0 c1 c2 ho3 hr3 hb3 R2
      have r0 := B3.out.row
      have c1 := B3.out.cell 56
      have c2 := B3.out.cell 57
      rw [HH.out.rounds] at c1
      rw [HH.out.b] at c2
      go_upto_region 6 with fail
      refine wp_region_plain [2,0,1,2,0] rfl (fun ops' K4 hK4 => ?_)
      refine z_build0 (B := w3.heap.size) (Nat.le_refl _) Try.underlying22 info8 (fun w4 v4 ho4 hb4 => ?_)
      simp only [Act.put, List.setIfInBounds_toArray, List.set_cons_succ, List.set_cons_zero]
      have B4 := B3.out.belowAll hb4
      clear r0 c1 c2
      have r0 := B4.row
      have c1 := B4.cell 56
      have c2 := B4.cell 57
      rw [HH.out.rounds] at c1
      rw [HH.out.b] at c2
      repeat
        first
          | ((with_reducible refine z_move (a' := ?_) ?_ ?_); rotate_left; · (simp only [Act.put, List.setIfInBounds_toArray, List.set_cons_succ, List.set_cons_zero, Act.eval, Array.getD_eq_getD_getElem?, List.getElem?_toArray, List.getElem?_cons_succ, List.getElem?_cons_zero, Option.getD_some]; exact rfl))
          | ((with_reducible refine z_assign (a' := ?_) ?_ ?_); rotate_left; · (simp only [Act.put, List.setIfInBounds_toArray, List.set_cons_succ, List.set_cons_zero, Act.eval, Array.getD_eq_getD_getElem?, List.getElem?_toArray, List.getElem?_cons_succ, List.getElem?_cons_zero, Option.getD_some]; exact rfl))
          | ((with_reducible refine z_obl (v := ?_) (a' := ?_) rfl (fun _ => ?_) ?_ ?_); rotate_left; rotate_left; (focus (go_simp; (try go_bits); exact rfl)); (focus (simp only [Act.put, List.setIfInBounds_toArray, List.set_cons_succ, List.set_cons_zero, Act.eval, Array.getD_eq_getD_getElem?, List.getElem?_toArray, List.getElem?_cons_succ, List.getElem?_cons_zero, Option.getD_some]; exact rfl)))
          | ((with_reducible refine z_read (v := ?_) (a' := ?_) rfl ?_ ?_ ?_); rotate_left; rotate_left; (focus (go_simp; (try go_bits); exact rfl)); (focus (simp only [Act.put, List.setIfInBounds_toArray, List.set_cons_succ, List.set_cons_zero, Act.eval, Array.getD_eq_getD_getElem?, List.getElem?_toArray, List.getElem?_cons_succ, List.getElem?_cons_zero, Option.getD_some]; exact rfl)))
      refine z_append8 ho4 ((LL.out.below C3.out).below hb4) rfl rfl Try.underlying22 info8 (by simp; omega) hb4.size (fun w5 v5 o5 g5 b5 => ?_)
      simp only [Act.put, List.setIfInBounds_toArray, List.set_cons_succ, List.set_cons_zero]
      repeat
        first
          | ((with_reducible refine z_move (a' := ?_) ?_ ?_); rotate_left; · (simp only [Act.put, List.setIfInBounds_toArray, List.set_cons_succ, List.set_cons_zero, Act.eval, Array.getD_eq_getD_getElem?, List.getElem?_toArray, List.getElem?_cons_succ, List.getElem?_cons_zero, Option.getD_some]; exact rfl))
          | ((with_reducible refine z_assign (a' := ?_) ?_ ?_); rotate_left; · (simp only [Act.put, List.setIfInBounds_toArray, List.set_cons_succ, List.set_cons_zero, Act.eval, Array.getD_eq_getD_getElem?, List.getElem?_toArray, List.getElem?_cons_succ, List.getElem?_cons_zero, Option.getD_some]; exact rfl))
          | ((with_reducible refine z_obl (v := ?_) (a' := ?_) rfl (fun _ => ?_) ?_ ?_); rotate_left; rotate_left; (focus (go_simp; (try go_bits); exact rfl)); (focus (simp only [Act.put, List.setIfInBounds_toArray, List.set_cons_succ, List.set_cons_zero, Act.eval, Array.getD_eq_getD_getElem?, List.getElem?_toArray, List.getElem?_cons_succ, List.getElem?_cons_zero, Option.getD_some]; exact rfl)))
          | ((with_reducible refine z_read (v := ?_) (a' := ?_) rfl ?_ ?_ ?_); rotate_left; rotate_left; (focus (go_simp; (try go_bits); exact rfl)); (focus (simp only [Act.put, List.setIfInBounds_toArray, List.set_cons_succ, List.set_cons_zero, Act.eval, Array.getD_eq_getD_getElem?, List.getElem?_toArray, List.getElem?_cons_succ, List.getElem?_cons_zero, Option.getD_some]; exact rfl)))
      refine z_nil (hK4 _ _ ?_)
      rw [List.nil_append] at o5
      obtain ⟨g, cap5, rfl, hg5, hg5'⟩ := o5.form (by rw [LL.out.1]; omega)
      have hll := LL.out.1
      have k5 := o5.cell j (by omega)
      have f5 := o5.frozen j
      obtain ⟨s5, gs5⟩ := o5.stored j (nth l j ^^^ y)
      rw [hll] at s5 ⊢
      have C4 := C3.out.trans (hb4.mono C3.out.size)
      have C5 := C4.trans (b5.mono C3.out.size)
      have C6 := Lib.hid (C5.trans (grown_below gs5 (by have := C3.out.size; omega) C5.size))
      have b35 := b5.trans (grown_below gs5 hg5 (Nat.le_trans hb4.size b5.size))
      have b36 := hb4.trans b35
      have B6 := Lib.hid (B3.out.belowAll b36)
      have R6 := Lib.hid (R3.out.below b36)
      have R6' := Lib.hid (R2'.out.below b36)
      have S6 := Lib.hid s5
      clear B4 r0 c1 c2 ho4 hb4 o5 g5 b5 gs5 s5 C4 C5 b35 b36 hg5 hg5' hll
      go_upto_region 8 with fail
      generalize w5.setCell ⟨g, j, none⟩ (v8 (nth l j ^^^ y)) = w6 at *
      clear k5 f5
      have r0 := B6.out.row
      have c1 := B6.out.cell 56
      have c2 := B6.out.cell 57
      rw [HH.out.rounds] at c1
      rw [HH.out.b] at c2
      go_wp2_with fail
      refine (crypt_yes k n (l.set j (nth l j ^^^ y)) r _ len cap5 w6 HH.out.lk HH.out.ln hR.2 S6.out.rdAt len2).mono ?_
      rintro e w7 ⟨v7, rfl, ho7, hb7⟩
      obtain ⟨a7, c7, rfl, hr7, _⟩ := ho7.rd
      rw [cryptOf_length, List.length_set, LL.out.1] at hr7 ⊢
      rw [cryptOf, streamOf_set _ _ _ (by rw [LL.out.1]; exact hjl), ← cryptOf, ← HC.out] at hr7
      have B7 := Lib.hid (B6.out.belowAll hb7)
      have C7 := Lib.hid (C6.out.trans (hb7.mono C6.out.size))
      have R7 := Lib.hid hr7
      have R8 := Lib.hid (R6.out.below hb7)
      have R9 := Lib.hid (R6'.out.below hb7)
      clear r0 c1 c2 ho7 hr7 hb7 B6 C6 R6 R6' S6
      have r0 := B7.out.row
      have c1 := B7.out.cell 56
      have c2 := B7.out.cell 57
      rw [HH.out.rounds] at c1
      rw [HH.out.b] at c2
      have s1 := run_str (P := Try.prog) w7.drew 22 9 5 _ _ _ _ Try.underlying22 Try.underlying9 Try.underlying5 R8.out.drew
      have s2 := run_str (P := Try.prog) w7.drew 22 9 5 _ _ _ _ Try.underlying22 Try.underlying9 Try.underlying5 (R9.out.pre (Nat.le_of_lt hjl)).drew
      have j4 : (j : Int) ≤ (c2' : Int) := by have := R9.out.2.1; omega
      have j5 : (j : Int) ≤ (c7 : Int) := by have := R7.out.2.1; omega
      go_upto_region 9 with fail
      refine wp_region_text3 (0 :: 0 :: 0 :: 0 :: 0 :: 0 :: 0 :: 0 :: 0 :: 0 :: 0 :: 0 :: 0 :: 0 :: 1 :: 0 :: 0 :: 0 :: 0 :: 0 :: 0 :: 0 :: 1 :: 0 :: 0 :: 0 :: 0 :: 0 :: 1 :: 0 :: 0 :: 0 :: 1 :: 0 :: 0 :: []) (by kernel_rfl) (by kernel_rfl) (fun K9 hK9 => ?_)
      repeat
        first
          | ((with_reducible refine z_move (a' := ?_) ?_ ?_); rotate_left; · (simp only [Act.put, List.setIfInBounds_toArray, List.set_cons_succ, List.set_cons_zero, Act.eval, Array.getD_eq_getD_getElem?, List.getElem?_toArray, List.getElem?_cons_succ, List.getElem?_cons_zero, Option.getD_some]; exact rfl))
          | ((with_reducible refine z_assign (a' := ?_) ?_ ?_); rotate_left; · (simp only [Act.put, List.setIfInBounds_toArray, List.set_cons_succ, List.set_cons_zero, Act.eval, Array.getD_eq_getD_getElem?, List.getElem?_toArray, List.getElem?_cons_succ, List.getElem?_cons_zero, Option.getD_some]; exact rfl))
          | ((with_reducible refine z_obl (v := ?_) (a' := ?_) rfl (fun _ => ?_) ?_ ?_); rotate_left; rotate_left; (focus (go_simp; (try go_bits); exact rfl)); (focus (simp only [Act.put, List.setIfInBounds_toArray, List.set_cons_succ, List.set_cons_zero, Act.eval, Array.getD_eq_getD_getElem?, List.getElem?_toArray, List.getElem?_cons_succ, List.getElem?_cons_zero, Option.getD_some]; exact rfl)))
          | ((with_reducible refine z_read (v := ?_) (a' := ?_) rfl ?_ ?_ ?_); rotate_left; rotate_left; (focus (go_simp; (try go_bits); exact rfl)); (focus (simp only [Act.put, List.setIfInBounds_toArray, List.set_cons_succ, List.set_cons_zero, Act.eval, Array.getD_eq_getD_getElem?, List.getElem?_toArray, List.getElem?_cons_succ, List.getElem?_cons_zero, Option.getD_some]; exact rfl)))
          | ((with_reducible refine z_oblG (v := ?_) (a' := ?_) ?_ (fun _ => ?_) ?_ ?_); rotate_left; rotate_left; (focus (exact rfl)); (focus (go_simp; (try go_bits); exact rfl)); (focus (simp only [Act.put, List.setIfInBounds_toArray, List.set_cons_succ, List.set_cons_zero, Act.eval, Array.getD_eq_getD_getElem?, List.getElem?_toArray, List.getElem?_cons_succ, List.getElem?_cons_zero, Option.getD_some]; exact rfl)))
          | ((with_reducible refine z_readG (v := ?_) (a' := ?_) ?_ ?_ ?_ ?_); rotate_left; rotate_left; (focus (exact rfl)); (focus (go_simp; (try go_bits); exact rfl)); (focus (simp only [Act.put, List.setIfInBounds_toArray, List.set_cons_succ, List.set_cons_zero, Act.eval, Array.getD_eq_getD_getElem?, List.getElem?_toArray, List.getElem?_cons_succ, List.getElem?_cons_zero, Option.getD_some]; exact rfl)))
      refine z_nil (hK9 _ _ ?_)
      clear s1 s2
      have r1 := R7.out
      have r2 := R9.out
      obtain ⟨b7, o7, rfl, _, h7⟩ := R7.out.2.2.2 (by omega)
      obtain ⟨b2, o2, rfl, _, h2⟩ := R9.out.2.2.2 (by omega)
      have k7 := h7 j hjl
      have k2 := h2 j hjl
      clear h7 h2
      rw [nth_set _ _ _ _ (by rw [hcl]; exact hjl), if_pos rfl] at k7
      have hst : (c.set j (nth c j ^^^ y)).take j = c.take j := by
        apply List.ext_getElem?
        intro i
        simp only [List.getElem?_take, List.getElem?_set]
        split
        · rw [if_neg (by omega)]
        · rfl
      have hsd : (c.set j (nth c j ^^^ y)).drop (j + 1) = c.drop (j + 1) := by
        apply List.ext_getElem?
        intro i
        simp only [List.getElem?_drop, List.getElem?_set]
        rw [if_neg (by omega)]
      obtain ⟨J, hJ⟩ : ∃ J, J = j + 1 := ⟨_, rfl⟩
      have hJl : J ≤ len := by omega
      rw [← hJ] at hsd
      have q1 := r1.pre (Nat.le_of_lt hjl)
      have q3 := r1.cut (j := J) (k := len) hJl (Nat.le_refl _)
      have q4 := r2.cut (j := J) (k := len) hJl (Nat.le_refl _)
      rw [List.take_of_length_le (Nat.le_of_eq r1.1), hsd] at q3
      rw [List.take_of_length_le (Nat.le_of_eq r2.1)] at q4
      rw [hst] at q1
      have s1 := run_str (P := Try.prog) w7.drew.drew 22 9 5 _ _ _ _ Try.underlying22 Try.underlying9 Try.underlying5 q1.drew.drew
      have s2 := run_str (P := Try.prog) w7.drew.drew 22 9 5 _ _ _ _ Try.underlying22 Try.underlying9 Try.underlying5 (r2.pre (Nat.le_of_lt hjl)).drew.drew
      have s3 := run_str (P := Try.prog) w7.drew.drew 22 9 5 _ _ _ _ Try.underlying22 Try.underlying9 Try.underlying5 q3.drew.drew
      have s4 := run_str (P := Try.prog) w7.drew.drew 22 9 5 _ _ _ _ Try.underlying22 Try.underlying9 Try.underlying5 q4.drew.drew
      have j6 : (J : Int) ≤ (len : Int) := by omega
      have j7 : (0 : Int) ≤ (J : Int) := by omega
      have lc2 : (len : Int) ≤ (c2' : Int) := by have := R9.out.2.1; omega
      have lc7 : (len : Int) ≤ (c7 : Int) := by have := R7.out.2.1; omega
      simp only [Option.map_some, Addr.add_lit] at s3 s4
      obtain ⟨A7, eA7⟩ : ∃ A, (if c7 = J then some (⟨b7, o7, none⟩ : Addr) else some ⟨b7, o7 + J, none⟩) = A := ⟨_, rfl⟩
      obtain ⟨A2, eA2⟩ : ∃ A, (if c2' = J then some (⟨b2, o2, none⟩ : Addr) else some ⟨b2, o2 + J, none⟩) = A := ⟨_, rfl⟩
      rw [eA7] at s3
      rw [eA2] at s4
      have jj : (j : Int) + 1 = (J : Int) := by omega
      have j8 : IntKind.i64.wrap (J : Int) = (J : Int) := by rw [IntKind.wrap_i64]; omega
      clear hJ hJl
      clear q1 q3 q4 r1 r2 hst hsd R7 R8 R9
      go_upto_region 11 with fail
      refine wp_region_text3 (0 :: 0 :: 0 :: 1 :: 0 :: 0 :: 0 :: 1 :: 0 :: 0 :: 0 :: 0 :: 0 :: 0 :: 1 :: 0 :: 0 :: 0 :: 0 :: 1 :: 0 :: 0 :: 0 :: 0 :: 0 :: 0 :: 1 :: 0 :: 0 :: 0 :: 1 :: 0 :: 0 :: 0 :: 0 :: 0 :: 2 :: 0 :: 0 :: []) (by kernel_rfl) (by kernel_rfl) (fun K9 hK9 => ?_)
      repeat
        first
          | ((with_reducible refine z_move (a' := ?_) ?_ ?_); rotate_left; · (simp only [Act.put, List.setIfInBounds_toArray, List.set_cons_succ, List.set_cons_zero, Act.eval, Array.getD_eq_getD_getElem?, List.getElem?_toArray, List.getElem?_cons_succ, List.getElem?_cons_zero, Option.getD_some]; exact rfl))
          | ((with_reducible refine z_assign (a' := ?_) ?_ ?_); rotate_left; · (simp only [Act.put, List.setIfInBounds_toArray, List.set_cons_succ, List.set_cons_zero, Act.eval, Array.getD_eq_getD_getElem?, List.getElem?_toArray, List.getElem?_cons_succ, List.getElem?_cons_zero, Option.getD_some]; exact rfl))
          | ((with_reducible refine z_obl (v := ?_) (a' := ?_) rfl (fun _ => ?_) ?_ ?_); rotate_left; rotate_left; (focus (go_simp; (try go_bits); exact rfl)); (focus (simp only [Act.put, List.setIfInBounds_toArray, List.set_cons_succ, List.set_cons_zero, Act.eval, Array.getD_eq_getD_getElem?, List.getElem?_toArray, List.getElem?_cons_succ, List.getElem?_cons_zero, Option.getD_some]; exact rfl)))
          | ((with_reducible refine z_read (v := ?_) (a' := ?_) rfl ?_ ?_ ?_); rotate_left; rotate_left; (focus (go_simp; (try go_bits); exact rfl)); (focus (simp only [Act.put, List.setIfInBounds_toArray, List.set_cons_succ, List.set_cons_zero, Act.eval, Array.getD_eq_getD_getElem?, List.getElem?_toArray, List.getElem?_cons_succ, List.getElem?_cons_zero, Option.getD_some]; exact rfl)))
          | ((with_reducible refine z_oblG (v := ?_) (a' := ?_) ?_ (fun _ => ?_) ?_ ?_); rotate_left; rotate_left; (focus (exact rfl)); (focus (go_simp; (try go_bits); exact rfl)); (focus (simp only [Act.put, List.setIfInBounds_toArray, List.set_cons_succ, List.set_cons_zero, Act.eval, Array.getD_eq_getD_getElem?, List.getElem?_toArray, List.getElem?_cons_succ, List.getElem?_cons_zero, Option.getD_some]; exact rfl)))
          | ((with_reducible refine z_readG (v := ?_) (a' := ?_) ?_ ?_ ?_ ?_); rotate_left; rotate_left; (focus (exact rfl)); (focus (go_simp; (try go_bits); exact rfl)); (focus (simp only [Act.put, List.setIfInBounds_toArray, List.set_cons_succ, List.set_cons_zero, Act.eval, Array.getD_eq_getD_getElem?, List.getElem?_toArray, List.getElem?_cons_succ, List.getElem?_cons_zero, Option.getD_some]; exact rfl)))
      (with_reducible refine z_callwG ?_ ?_)
      · exact rfl
      go_simp
      refine entersW_of ?_
      refine (awake_any _).mono ?_
      rintro e w9 ⟨rfl, hb9⟩
      refine ⟨_, rfl, ?_⟩
      try simp only [Act.put, List.setIfInBounds_toArray, List.set_cons_succ, List.set_cons_zero]
      repeat
        first
          | ((with_reducible refine z_move (a' := ?_) ?_ ?_); rotate_left; · (simp only [Act.put, List.setIfInBounds_toArray, List.set_cons_succ, List.set_cons_zero, Act.eval, Array.getD_eq_getD_getElem?, List.getElem?_toArray, List.getElem?_cons_succ, List.getElem?_cons_zero, Option.getD_some]; exact rfl))
          | ((with_reducible refine z_assign (a' := ?_) ?_ ?_); rotate_left; · (simp only [Act.put, List.setIfInBounds_toArray, List.set_cons_succ, List.set_cons_zero, Act.eval, Array.getD_eq_getD_getElem?, List.getElem?_toArray, List.getElem?_cons_succ, List.getElem?_cons_zero, Option.getD_some]; exact rfl))
          | ((with_reducible refine z_obl (v := ?_) (a' := ?_) rfl (fun _ => ?_) ?_ ?_); rotate_left; rotate_left; (focus (go_simp; (try go_bits); exact rfl)); (focus (simp only [Act.put, List.setIfInBounds_toArray, List.set_cons_succ, List.set_cons_zero, Act.eval, Array.getD_eq_getD_getElem?, List.getElem?_toArray, List.getElem?_cons_succ, List.getElem?_cons_zero, Option.getD_some]; exact rfl)))
          | ((with_reducible refine z_read (v := ?_) (a' := ?_) rfl ?_ ?_ ?_); rotate_left; rotate_left; (focus (go_simp; (try go_bits); exact rfl)); (focus (simp only [Act.put, List.setIfInBounds_toArray, List.set_cons_succ, List.set_cons_zero, Act.eval, Array.getD_eq_getD_getElem?, List.getElem?_toArray, List.getElem?_cons_succ, List.getElem?_cons_zero, Option.getD_some]; exact rfl)))
          | ((with_reducible refine z_oblG (v := ?_) (a' := ?_) ?_ (fun _ => ?_) ?_ ?_); rotate_left; rotate_left; (focus (exact rfl)); (focus (go_simp; (try go_bits); exact rfl)); (focus (simp only [Act.put, List.setIfInBounds_toArray, List.set_cons_succ, List.set_cons_zero, Act.eval, Array.getD_eq_getD_getElem?, List.getElem?_toArray, List.getElem?_cons_succ, List.getElem?_cons_zero, Option.getD_some]; exact rfl)))
          | ((with_reducible refine z_readG (v := ?_) (a' := ?_) ?_ ?_ ?_ ?_); rotate_left; rotate_left; (focus (exact rfl)); (focus (go_simp; (try go_bits); exact rfl)); (focus (simp only [Act.put, List.setIfInBounds_toArray, List.set_cons_succ, List.set_cons_zero, Act.eval, Array.getD_eq_getD_getElem?, List.getElem?_toArray, List.getElem?_cons_succ, List.getElem?_cons_zero, Option.getD_some]; exact rfl)))
      refine z_nil (hK9 _ _ ?_)
      go_wp2
      go_ret
      exact ⟨rfl, C7.out.drew.drew.trans (hb9.mono C7.out.size)⟩
  · rw [decide_eq_false hR]
    go_wp2
    go_ret
    exact ⟨rfl, C1.out⟩
end Go.Proofs.Ythogbbigglmapaa
