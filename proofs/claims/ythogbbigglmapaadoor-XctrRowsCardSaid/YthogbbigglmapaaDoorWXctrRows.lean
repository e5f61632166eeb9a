/- XctrRows: the walk -/
import Derived.Test.YthogbbigglmapaaDoorLaw13
import Derived.Test.YthogbbigglmapaaDoorEq
import Derived.Test.YthogbbigglmapaaDoorGs
import Derived.Test.YthogbbigglmapaaDoorText3
namespace Go.Proofs.YthogbbigglmapaaDoor
open Go.RowKit
set_option linter.unusedSimpArgs false in
set_option maxRecDepth 100000 in
set_option maxHeartbeats 1600000 in
theorem XctrRows_walk (K : List (BitVec 8)) (a : Option Addr) (len cap : Nat) (l : List (BitVec 8)) (nn : Int) (w : World) (hK : K.length = 33) (hl : Rd8 w a len cap l) (hnn : (Lit.int .u16 nn).wf = true) (hT : Turning w) :
    Calls Tryd.prog 12 #[.agg (A8 K), .slice a len cap, .int .u16 nn] w fun e w' => e = .returned (.bool true) ∧ Below w.heap.size w w' := by
  obtain ⟨W, hW⟩ : ∃ W, (w.alloc (.cells (A8 K) 51)) = W := ⟨_, rfl⟩
  obtain ⟨b0, hb, hz⟩ := new1 _ _ _ _ hW
  have r0 := b0.row
  have B0 := Lib.hid hb
  have T0 := Lib.hid (hT.below hb)
  have LL := Lib.hid hl
  have NB := Lib.hid (bounds_u16 hnn)
  clear b0 hb hz hT hl hnn
  go_enter Tryd.func12, Tryd.ntmps12
  by_cases hlen : len ≤ 200 ∧ ¬ len = 0
  · have n1 : ¬ (200 : Int) < (len : Int) := by omega
    have n2 : ¬ (len : Int) = 0 := by omega
    obtain ⟨hl200, hl0⟩ := hlen
    go_wp2_with fail
    refine (key13_any K _ hK T0.out).mono ?_
    rintro e w1 ⟨k, p, rfl, k1, d1⟩
    clear hW r0
    obtain ⟨hm3, hm15⟩ := mK_bounds K
    obtain ⟨m, hm⟩ : ∃ m, m = mK K := ⟨_, rfl⟩
    obtain ⟨L, hL⟩ : ∃ L, L = LK K := ⟨_, rfl⟩
    rw [← hm] at hm3 hm15
    rw [← hm, ← hL] at k1
    have K1 := Lib.hid k1
    have B1 := Lib.hid (B0.out.trans (d1.mono B0.out.size))
    have T1 := Lib.hid (T0.out.below d1)
    clear k1 d1 hm hL B0 T0
    obtain ⟨j, hj⟩ : ∃ j, j = nn.toNat % len := ⟨_, rfl⟩
    have hjl : j < len := by rw [hj]; exact Nat.mod_lt _ (by omega)
    have htm : (wrap64 nn).tmod (len : Int) = (j : Int) := by
      have nb := NB.out
      have e : wrap64 nn = nn := by unfold wrap64; omega
      rw [e, Int.tmod_eq_emod_of_nonneg nb.1, hj, Int.natCast_emod, Int.toNat_of_nonneg nb.1]
    obtain ⟨I, hI⟩ : ∃ I, I = (nn.tmod 16).toNat := ⟨_, rfl⟩
    have ht0 : nn.tmod 16 = (I : Int) := by
      have nb := NB.out
      rw [hI, Int.tmod_eq_emod_of_nonneg nb.1]; omega
    have hI16 : I < 16 := by
      have nb := NB.out
      rw [Int.tmod_eq_emod_of_nonneg nb.1] at ht0; omega
    obtain ⟨x, hx⟩ : ∃ x : BitVec 8, x = BitVec.ofInt 8 (nn / 256) := ⟨_, rfl⟩
    have hxv : Value.int .u8 (nn / 256 % 256) = v8 x := by
      rw [hx, v8, BitVec.toNat_ofInt]; congr 1; omega
    clear hj hI hx
    go_upto_region 6 with fail
    have P2 := Lib.hid (Blk.new w1 25 (A8 (zeros 8 16)))
    have b2 := (Below.refl w1.heap.size w1).alloc (Nat.le_refl _) (.cells (A8 (zeros 8 16)) 25)
    have K2 := Lib.hid (K1.out.below b2)
    have B2 := Lib.hid (B1.out.trans (b2.mono B1.out.size))
    have T2 := Lib.hid (T1.out.below b2)
    have hge : w1.heap.size ≤ w1.heap.size := Nat.le_refl _
    have q1 : (I : Int) < 16 := by omega
    have q0 : (0 : Int) ≤ (I : Int) := by omega
    clear K2 T2 B2
    generalize hW2 : w1.alloc (.cells (A8 (zeros 8 16)) 25) = W2 at *
    generalize hgs : w1.heap.size = gs at *
    have c1 := P2.out.cell8 (zeros_length 8 16) I hI16
    have fo := P2.out.frozen I
    obtain ⟨S, hS⟩ : ∃ S, S = (zeros 8 16).set I x := ⟨_, rfl⟩
    have hSl : S.length = 16 := by rw [hS]; simp
    have kk := P2.out.set_ I (v8 x)
    rw [A8_set, ← hS] at kk
    have P3 := Lib.hid kk
    have d3 : Below w1.heap.size w1 (W2.setCell ⟨gs, I, none⟩ (v8 x)) := by rw [hgs]; exact b2.setCell (p := ⟨gs, I, none⟩) (by simp) (v8 x)
    have D3 := Lib.hid d3
    clear P2 b2 kk hS hW2 d3
    go_upto_region 7 with fail
    generalize W2.setCell ⟨gs, I, none⟩ (v8 x) = W3 at *
    clear c1 fo q0 q1 hxv ht0 hI16 hge
    have len2 : len ≤ 140737488355328 := by omega
    have r0 := P3.out.row
    go_wp2_with fail
    refine (xcrypt_any k p m L S l a len cap W3 (K1.out.below D3.out) hSl (by omega) (by omega) (LL.out.below (B1.out.trans (D3.out.mono B1.out.size))) len2).mono ?_
    rintro e w2 ⟨v2, rfl, ho2, hb2⟩
    obtain ⟨c, hc⟩ : ∃ c, c = xcrypt L m S l := ⟨_, rfl⟩
    rw [← hc] at ho2
    have hcl : c.length = len := by rw [hc, xcrypt_length, LL.out.1]
    obtain ⟨a2, c2', rfl, hr2, _⟩ := ho2.rd
    rw [hcl] at hr2 ⊢
    have R2 := Lib.hid hr2
    have P4 := Lib.hid (P3.out.belowAll hb2)
    have D4 := Lib.hid (D3.out.trans (hb2.mono D3.out.size))
    have HC := Lib.hid hc
    clear r0 ho2 hr2 hb2 hc P3 D3
    have r0 := P4.out.row
    have j1 : (j : Int) ≤ (cap : Int) := by have := LL.out.2.1; omega
    have j0 : (0 : Int) ≤ (j : Int) := by omega
    have j2 : (j : Int) ≤ (len : Int) := by omega
    have j3 : (j : Int) < (len : Int) := by omega
    go_upto_region 8 with fail
    refine wp_region_text2 [0,1,0,0,0,2,0,0,0,0,0] (by kernel_rfl) (by kernel_rfl) (fun K3 hK3 => ?_)
    repeat
      first
        | ((with_reducible refine z_move (a' := ?_) ?_ ?_); rotate_left; · (simp only [Act.put, List.setIfInBounds_toArray, List.set_cons_succ, List.set_cons_zero, Act.eval, Array.getD_eq_getD_getElem?, List.getElem?_toArray, List.getElem?_cons_succ, List.getElem?_cons_zero, Option.getD_some]; exact rfl))
        | ((with_reducible refine z_assign (a' := ?_) ?_ ?_); rotate_left; · (simp only [Act.put, List.setIfInBounds_toArray, List.set_cons_succ, List.set_cons_zero, Act.eval, Array.getD_eq_getD_getElem?, List.getElem?_toArray, List.getElem?_cons_succ, List.getElem?_cons_zero, Option.getD_some]; exact rfl))
        | ((with_reducible refine z_obl (v := ?_) (a' := ?_) rfl (fun _ => ?_) ?_ ?_); rotate_left; rotate_left; (focus (go_simp; (try go_bits); exact rfl)); (focus (simp only [Act.put, List.setIfInBounds_toArray, List.set_cons_succ, List.set_cons_zero, Act.eval, Array.getD_eq_getD_getElem?, List.getElem?_toArray, List.getElem?_cons_succ, List.getElem?_cons_zero, Option.getD_some]; exact rfl)))
        | ((with_reducible refine z_read (v := ?_) (a' := ?_) rfl ?_ ?_ ?_); rotate_left; rotate_left; (focus (go_simp; (try go_bits); exact rfl)); (focus (simp only [Act.put, List.setIfInBounds_toArray, List.set_cons_succ, List.set_cons_zero, Act.eval, Array.getD_eq_getD_getElem?, List.getElem?_toArray, List.getElem?_cons_succ, List.getElem?_cons_zero, Option.getD_some]; exact rfl)))
    (with_reducible refine z_callw rfl ?_)
    go_simp
    refine entersW_of ?_
    refine (xcrypt_any k p m L S (l.take j) a j cap w2.drew (K1.out.below D4.out.drew) hSl (by omega) (by omega) (((LL.out.below (B1.out.trans (D4.out.mono B1.out.size))).pre (Nat.le_of_lt hjl)).drew) (by omega)).mono ?_
    rintro e w3 ⟨v3, rfl, ho3, hb3⟩
    refine ⟨_, rfl, ?_⟩
    try simp only [Act.put, List.setIfInBounds_toArray, List.set_cons_succ, List.set_cons_zero]
    repeat
      first
        | ((with_reducible refine z_move (a' := ?_) ?_ ?_); rotate_left; · (simp only [Act.put, List.setIfInBounds_toArray, List.set_cons_succ, List.set_cons_zero, Act.eval, Array.getD_eq_getD_getElem?, List.getElem?_toArray, List.getElem?_cons_succ, List.getElem?_cons_zero, Option.getD_some]; exact rfl))
        | ((with_reducible refine z_assign (a' := ?_) ?_ ?_); rotate_left; · (simp only [Act.put, List.setIfInBounds_toArray, List.set_cons_succ, List.set_cons_zero, Act.eval, Array.getD_eq_getD_getElem?, List.getElem?_toArray, List.getElem?_cons_succ, List.getElem?_cons_zero, Option.getD_some]; exact rfl))
        | ((with_reducible refine z_obl (v := ?_) (a' := ?_) rfl (fun _ => ?_) ?_ ?_); rotate_left; rotate_left; (focus (go_simp; (try go_bits); exact rfl)); (focus (simp only [Act.put, List.setIfInBounds_toArray, List.set_cons_succ, List.set_cons_zero, Act.eval, Array.getD_eq_getD_getElem?, List.getElem?_toArray, List.getElem?_cons_succ, List.getElem?_cons_zero, Option.getD_some]; exact rfl)))
        | ((with_reducible refine z_read (v := ?_) (a' := ?_) rfl ?_ ?_ ?_); rotate_left; rotate_left; (focus (go_simp; (try go_bits); exact rfl)); (focus (simp only [Act.put, List.setIfInBounds_toArray, List.set_cons_succ, List.set_cons_zero, Act.eval, Array.getD_eq_getD_getElem?, List.getElem?_toArray, List.getElem?_cons_succ, List.getElem?_cons_zero, Option.getD_some]; exact rfl)))
    refine z_nil (hK3 _ _ ?_)
    rw [xcrypt, str16_take, ← xcrypt, ← HC.out] at ho3
    obtain ⟨a3, c3', rfl, hr3, _⟩ := ho3.rd
    rw [List.length_take, hcl, Nat.min_eq_left (Nat.le_of_lt hjl)] at hr3 ⊢
    have R3 := Lib.hid hr3
    have R2' := Lib.hid (R2.out.drew.below hb3)
    have P5 := Lib.hid (P4.out.drew.belowAll hb3)
    have D5 := Lib.hid (D4.out.drew.trans (hb3.mono D4.out.size))
    clear r0 ho3 hr3 hb3 R2 P4 D4
    go_upto_region 9 with fail
    refine wp_region_plain [2,0,2,0] rfl (fun ops' K4 hK4 => ?_)
    refine z_build0 (B := w3.heap.size) (Nat.le_refl _) Tryd.underlying32 info8 (fun w4 v4 ho4 hb4 => ?_)
    simp only [Act.put, List.setIfInBounds_toArray, List.set_cons_succ, List.set_cons_zero]
    repeat
      first
        | ((with_reducible refine z_move (a' := ?_) ?_ ?_); rotate_left; · (simp only [Act.put, List.setIfInBounds_toArray, List.set_cons_succ, List.set_cons_zero, Act.eval, Array.getD_eq_getD_getElem?, List.getElem?_toArray, List.getElem?_cons_succ, List.getElem?_cons_zero, Option.getD_some]; exact rfl))
        | ((with_reducible refine z_assign (a' := ?_) ?_ ?_); rotate_left; · (simp only [Act.put, List.setIfInBounds_toArray, List.set_cons_succ, List.set_cons_zero, Act.eval, Array.getD_eq_getD_getElem?, List.getElem?_toArray, List.getElem?_cons_succ, List.getElem?_cons_zero, Option.getD_some]; exact rfl))
        | ((with_reducible refine z_obl (v := ?_) (a' := ?_) rfl (fun _ => ?_) ?_ ?_); rotate_left; rotate_left; (focus (go_simp; (try go_bits); exact rfl)); (focus (simp only [Act.put, List.setIfInBounds_toArray, List.set_cons_succ, List.set_cons_zero, Act.eval, Array.getD_eq_getD_getElem?, List.getElem?_toArray, List.getElem?_cons_succ, List.getElem?_cons_zero, Option.getD_some]; exact rfl)))
        | ((with_reducible refine z_read (v := ?_) (a' := ?_) rfl ?_ ?_ ?_); rotate_left; rotate_left; (focus (go_simp; (try go_bits); exact rfl)); (focus (simp only [Act.put, List.setIfInBounds_toArray, List.set_cons_succ, List.set_cons_zero, Act.eval, Array.getD_eq_getD_getElem?, List.getElem?_toArray, List.getElem?_cons_succ, List.getElem?_cons_zero, Option.getD_some]; exact rfl)))
    have l4 := (LL.out.below (B1.out.trans (D5.out.mono B1.out.size))).below hb4
    refine z_append8 ho4 l4 rfl rfl Tryd.underlying32 info8 (by simp; omega) hb4.size (fun w5 v5 o5 g5 b5 => ?_)
    simp only [Act.put, List.setIfInBounds_toArray, List.set_cons_succ, List.set_cons_zero]
    repeat
      first
        | ((with_reducible refine z_move (a' := ?_) ?_ ?_); rotate_left; · (simp only [Act.put, List.setIfInBounds_toArray, List.set_cons_succ, List.set_cons_zero, Act.eval, Array.getD_eq_getD_getElem?, List.getElem?_toArray, List.getElem?_cons_succ, List.getElem?_cons_zero, Option.getD_some]; exact rfl))
        | ((with_reducible refine z_assign (a' := ?_) ?_ ?_); rotate_left; · (simp only [Act.put, List.setIfInBounds_toArray, List.set_cons_succ, List.set_cons_zero, Act.eval, Array.getD_eq_getD_getElem?, List.getElem?_toArray, List.getElem?_cons_succ, List.getElem?_cons_zero, Option.getD_some]; exact rfl))
        | ((with_reducible refine z_obl (v := ?_) (a' := ?_) rfl (fun _ => ?_) ?_ ?_); rotate_left; rotate_left; (focus (go_simp; (try go_bits); exact rfl)); (focus (simp only [Act.put, List.setIfInBounds_toArray, List.set_cons_succ, List.set_cons_zero, Act.eval, Array.getD_eq_getD_getElem?, List.getElem?_toArray, List.getElem?_cons_succ, List.getElem?_cons_zero, Option.getD_some]; exact rfl)))
        | ((with_reducible refine z_read (v := ?_) (a' := ?_) rfl ?_ ?_ ?_); rotate_left; rotate_left; (focus (go_simp; (try go_bits); exact rfl)); (focus (simp only [Act.put, List.setIfInBounds_toArray, List.set_cons_succ, List.set_cons_zero, Act.eval, Array.getD_eq_getD_getElem?, List.getElem?_toArray, List.getElem?_cons_succ, List.getElem?_cons_zero, Option.getD_some]; exact rfl)))
    refine z_nil (hK4 _ _ ?_)
    rw [List.nil_append] at o5
    obtain ⟨g, cap5, rfl, hg5, hg5'⟩ := o5.form (by rw [LL.out.1]; omega)
    have hll := LL.out.1
    have k5 := o5.cell j (by omega)
    have f5 := o5.frozen j
    obtain ⟨s5, gs5⟩ := o5.stored j (nth l j ^^^ 255#8)
    rw [hll] at s5 ⊢
    have b35 := b5.trans (grown_below gs5 hg5 (Nat.le_trans hb4.size b5.size))
    have b36 := hb4.trans b35
    have P6 := Lib.hid (P5.out.belowAll b36)
    have D6 := Lib.hid (D5.out.trans (b36.mono D5.out.size))
    have R6 := Lib.hid (R3.out.below b36)
    have R6' := Lib.hid (R2'.out.below b36)
    have S6 := Lib.hid s5
    clear ho4 hb4 l4 o5 g5 b5 gs5 s5 b35 b36 hg5 hg5' hll P5 D5
    go_upto_region 11 with fail
    generalize w5.setCell ⟨g, j, none⟩ (v8 (nth l j ^^^ 255#8)) = w6 at *
    clear k5 f5
    have r0 := P6.out.row
    go_wp2_with fail
    refine (xcrypt_any k p m L S (l.set j (nth l j ^^^ 255#8)) _ len cap5 w6 (K1.out.below D6.out) hSl (by omega) (by omega) S6.out.rdAt len2).mono ?_
    rintro e w7 ⟨v7, rfl, ho7, hb7⟩
    obtain ⟨a7, c7, rfl, hr7, _⟩ := ho7.rd
    rw [xcrypt_length, List.length_set, LL.out.1] at hr7 ⊢
    rw [xcrypt, str16_set _ _ _ (by rw [LL.out.1]; exact hjl), ← xcrypt, ← HC.out] at hr7
    have D7 := Lib.hid (D6.out.trans (hb7.mono D6.out.size))
    have R7 := Lib.hid hr7
    have R8 := Lib.hid (R6.out.below hb7)
    have R9 := Lib.hid (R6'.out.below hb7)
    clear r0 ho7 hr7 hb7 P6 D6 R6 R6' S6
    have s1 := run_str (P := Tryd.prog) w7.drew 32 9 5 _ _ _ _ Tryd.underlying32 Tryd.underlying9 Tryd.underlying5 R8.out.drew
    have s2 := run_str (P := Tryd.prog) w7.drew 32 9 5 _ _ _ _ Tryd.underlying32 Tryd.underlying9 Tryd.underlying5 (R9.out.pre (Nat.le_of_lt hjl)).drew
    have j4 : (j : Int) ≤ (c2' : Int) := by have := R9.out.2.1; omega
    have j5 : (j : Int) ≤ (c7 : Int) := by have := R7.out.2.1; omega
    go_upto_region 12 with fail
    refine wp_region_text3 (0 :: 0 :: 0 :: 0 :: 0 :: 0 :: 0 :: 0 :: 0 :: 0 :: 0 :: 0 :: 0 :: 0 :: 0 :: 0 :: 0 :: 0 :: 0 :: 0 :: 0 :: 0 :: 0 :: 0 :: 0 :: 0 :: 1 :: 0 :: 0 :: 0 :: 1 :: 0 :: 0 :: []) (by kernel_rfl) (by kernel_rfl) (fun K9 hK9 => ?_)
    repeat
      first
        | ((with_reducible refine z_move (a' := ?_) ?_ ?_); rotate_left; · (simp only [Act.put, List.setIfInBounds_toArray, List.set_cons_succ, List.set_cons_zero, Act.eval, Array.getD_eq_getD_getElem?, List.getElem?_toArray, List.getElem?_cons_succ, List.getElem?_cons_zero, Option.getD_some]; exact rfl))
        | ((with_reducible refine z_assign (a' := ?_) ?_ ?_); rotate_left; · (simp only [Act.put, List.setIfInBounds_toArray, List.set_cons_succ, List.set_cons_zero, Act.eval, Array.getD_eq_getD_getElem?, List.getElem?_toArray, List.getElem?_cons_succ, List.getElem?_cons_zero, Option.getD_some]; exact rfl))
        | ((with_reducible refine z_obl (v := ?_) (a' := ?_) rfl (fun _ => ?_) ?_ ?_); rotate_left; rotate_left; (focus (go_simp; (try go_bits); exact rfl)); (focus (simp only [Act.put, List.setIfInBounds_toArray, List.set_cons_succ, List.set_cons_zero, Act.eval, Array.getD_eq_getD_getElem?, List.getElem?_toArray, List.getElem?_cons_succ, List.getElem?_cons_zero, Option.getD_some]; exact rfl)))
        | ((with_reducible refine z_read (v := ?_) (a' := ?_) rfl ?_ ?_ ?_); rotate_left; rotate_left; (focus (go_simp; (try go_bits); exact rfl)); (focus (simp only [Act.put, List.setIfInBounds_toArray, List.set_cons_succ, List.set_cons_zero, Act.eval, Array.getD_eq_getD_getElem?, List.getElem?_toArray, List.getElem?_cons_succ, List.getElem?_cons_zero, Option.getD_some]; exact rfl)))
        | ((with_reducible refine z_oblG (v := ?_) (a' := ?_) ?_ (fun _ => ?_) ?_ ?_); rotate_left; rotate_left; (focus (exact rfl)); (focus (go_simp; (try go_bits); exact rfl)); (focus (simp only [Act.put, List.setIfInBounds_toArray, List.set_cons_succ, List.set_cons_zero, Act.eval, Array.getD_eq_getD_getElem?, List.getElem?_toArray, List.getElem?_cons_succ, List.getElem?_cons_zero, Option.getD_some]; exact rfl)))
        | ((with_reducible refine z_readG (v := ?_) (a' := ?_) ?_ ?_ ?_ ?_); rotate_left; rotate_left; (focus (exact rfl)); (focus (go_simp; (try go_bits); exact rfl)); (focus (simp only [Act.put, List.setIfInBounds_toArray, List.set_cons_succ, List.set_cons_zero, Act.eval, Array.getD_eq_getD_getElem?, List.getElem?_toArray, List.getElem?_cons_succ, List.getElem?_cons_zero, Option.getD_some]; exact rfl)))
    refine z_nil (hK9 _ _ ?_)
    clear s1 s2
    have r1 := R7.out
    have r2 := R9.out
    obtain ⟨b7, o7, rfl, _, h7⟩ := R7.out.2.2.2 (by omega)
    obtain ⟨b2, o2, rfl, _, h2⟩ := R9.out.2.2.2 (by omega)
    have k7 := h7 j hjl
    have k2 := h2 j hjl
    clear h7 h2
    rw [nth_set _ _ _ _ (by rw [hcl]; exact hjl), if_pos rfl] at k7
    have hst : (c.set j (nth c j ^^^ 255#8)).take j = c.take j := by
      apply List.ext_getElem?
      intro i
      simp only [List.getElem?_take, List.getElem?_set]
      split
      · rw [if_neg (by omega)]
      · rfl
    have hsd : (c.set j (nth c j ^^^ 255#8)).drop (j + 1) = c.drop (j + 1) := by
      apply List.ext_getElem?
      intro i
      simp only [List.getElem?_drop, List.getElem?_set]
      rw [if_neg (by omega)]
    obtain ⟨J, hJ⟩ : ∃ J, J = j + 1 := ⟨_, rfl⟩
    have hJl : J ≤ len := by omega
    rw [← hJ] at hsd
    have q1 := r1.pre (Nat.le_of_lt hjl)
    have q3 := r1.cut (j := J) (k := len) hJl (Nat.le_refl _)
    have q4 := r2.cut (j := J) (k := len) hJl (Nat.le_refl _)
    rw [List.take_of_length_le (Nat.le_of_eq r1.1), hsd] at q3
    rw [List.take_of_length_le (Nat.le_of_eq r2.1)] at q4
    rw [hst] at q1
    have s1 := run_str (P := Tryd.prog) w7.drew.drew 32 9 5 _ _ _ _ Tryd.underlying32 Tryd.underlying9 Tryd.underlying5 q1.drew.drew
    have s2 := run_str (P := Tryd.prog) w7.drew.drew 32 9 5 _ _ _ _ Tryd.underlying32 Tryd.underlying9 Tryd.underlying5 (r2.pre (Nat.le_of_lt hjl)).drew.drew
    have s3 := run_str (P := Tryd.prog) w7.drew.drew 32 9 5 _ _ _ _ Tryd.underlying32 Tryd.underlying9 Tryd.underlying5 q3.drew.drew
    have s4 := run_str (P := Tryd.prog) w7.drew.drew 32 9 5 _ _ _ _ Tryd.underlying32 Tryd.underlying9 Tryd.underlying5 q4.drew.drew
    have j6 : (J : Int) ≤ (len : Int) := by omega
    have j7 : (0 : Int) ≤ (J : Int) := by omega
    have lc2 : (len : Int) ≤ (c2' : Int) := by have := R9.out.2.1; omega
    have lc7 : (len : Int) ≤ (c7 : Int) := by have := R7.out.2.1; omega
    simp only [Option.map_some, Addr.add_lit] at s3 s4
    obtain ⟨A7, eA7⟩ : ∃ A, (if c7 = J then some (⟨b7, o7, none⟩ : Addr) else some ⟨b7, o7 + J, none⟩) = A := ⟨_, rfl⟩
    obtain ⟨A2, eA2⟩ : ∃ A, (if c2' = J then some (⟨b2, o2, none⟩ : Addr) else some ⟨b2, o2 + J, none⟩) = A := ⟨_, rfl⟩
    rw [eA7] at s3
    rw [eA2] at s4
    have jj : (j : Int) + 1 = (J : Int) := by omega
    have j8 : IntKind.i64.wrap (J : Int) = (J : Int) := by rw [IntKind.wrap_i64]; omega
    clear hJ hJl
    clear q1 q3 q4 r1 r2 hst hsd R7 R8 R9
    go_upto_region 14 with fail
    refine wp_region_text3 (0 :: 0 :: 0 :: 1 :: 0 :: 0 :: 0 :: 1 :: 0 :: 0 :: 0 :: 0 :: 0 :: 0 :: 1 :: 0 :: 0 :: 0 :: 0 :: 1 :: 0 :: 0 :: 0 :: 0 :: 0 :: 0 :: 1 :: 0 :: 0 :: 0 :: 1 :: 0 :: 0 :: 0 :: 0 :: 2 :: 0 :: 0 :: []) (by kernel_rfl) (by kernel_rfl) (fun K9 hK9 => ?_)
    repeat
      first
        | ((with_reducible refine z_move (a' := ?_) ?_ ?_); rotate_left; · (simp only [Act.put, List.setIfInBounds_toArray, List.set_cons_succ, List.set_cons_zero, Act.eval, Array.getD_eq_getD_getElem?, List.getElem?_toArray, List.getElem?_cons_succ, List.getElem?_cons_zero, Option.getD_some]; exact rfl))
        | ((with_reducible refine z_assign (a' := ?_) ?_ ?_); rotate_left; · (simp only [Act.put, List.setIfInBounds_toArray, List.set_cons_succ, List.set_cons_zero, Act.eval, Array.getD_eq_getD_getElem?, List.getElem?_toArray, List.getElem?_cons_succ, List.getElem?_cons_zero, Option.getD_some]; exact rfl))
        | ((with_reducible refine z_obl (v := ?_) (a' := ?_) rfl (fun _ => ?_) ?_ ?_); rotate_left; rotate_left; (focus (go_simp; (try go_bits); exact rfl)); (focus (simp only [Act.put, List.setIfInBounds_toArray, List.set_cons_succ, List.set_cons_zero, Act.eval, Array.getD_eq_getD_getElem?, List.getElem?_toArray, List.getElem?_cons_succ, List.getElem?_cons_zero, Option.getD_some]; exact rfl)))
        | ((with_reducible refine z_read (v := ?_) (a' := ?_) rfl ?_ ?_ ?_); rotate_left; rotate_left; (focus (go_simp; (try go_bits); exact rfl)); (focus (simp only [Act.put, List.setIfInBounds_toArray, List.set_cons_succ, List.set_cons_zero, Act.eval, Array.getD_eq_getD_getElem?, List.getElem?_toArray, List.getElem?_cons_succ, List.getElem?_cons_zero, Option.getD_some]; exact rfl)))
        | ((with_reducible refine z_oblG (v := ?_) (a' := ?_) ?_ (fun _ => ?_) ?_ ?_); rotate_left; rotate_left; (focus (exact rfl)); (focus (go_simp; (try go_bits); exact rfl)); (focus (simp only [Act.put, List.setIfInBounds_toArray, List.set_cons_succ, List.set_cons_zero, Act.eval, Array.getD_eq_getD_getElem?, List.getElem?_toArray, List.getElem?_cons_succ, List.getElem?_cons_zero, Option.getD_some]; exact rfl)))
        | ((with_reducible refine z_readG (v := ?_) (a' := ?_) ?_ ?_ ?_ ?_); rotate_left; rotate_left; (focus (exact rfl)); (focus (go_simp; (try go_bits); exact rfl)); (focus (simp only [Act.put, List.setIfInBounds_toArray, List.set_cons_succ, List.set_cons_zero, Act.eval, Array.getD_eq_getD_getElem?, List.getElem?_toArray, List.getElem?_cons_succ, List.getElem?_cons_zero, Option.getD_some]; exact rfl)))
    (with_reducible refine z_callwG ?_ ?_)
    · exact rfl
    go_simp
    refine entersW_of ?_
    refine (awake13_any _ (T1.out.below D7.out.drew.drew)).mono ?_
    rintro e w9 ⟨rfl, hb9⟩
    refine ⟨_, rfl, ?_⟩
    try simp only [Act.put, List.setIfInBounds_toArray, List.set_cons_succ, List.set_cons_zero]
    repeat
      first
        | ((with_reducible refine z_move (a' := ?_) ?_ ?_); rotate_left; · (simp only [Act.put, List.setIfInBounds_toArray, List.set_cons_succ, List.set_cons_zero, Act.eval, Array.getD_eq_getD_getElem?, List.getElem?_toArray, List.getElem?_cons_succ, List.getElem?_cons_zero, Option.getD_some]; exact rfl))
        | ((with_reducible refine z_assign (a' := ?_) ?_ ?_); rotate_left; · (simp only [Act.put, List.setIfInBounds_toArray, List.set_cons_succ, List.set_cons_zero, Act.eval, Array.getD_eq_getD_getElem?, List.getElem?_toArray, List.getElem?_cons_succ, List.getElem?_cons_zero, Option.getD_some]; exact rfl))
        | ((with_reducible refine z_obl (v := ?_) (a' := ?_) rfl (fun _ => ?_) ?_ ?_); rotate_left; rotate_left; (focus (go_simp; (try go_bits); exact rfl)); (focus (simp only [Act.put, List.setIfInBounds_toArray, List.set_cons_succ, List.set_cons_zero, Act.eval, Array.getD_eq_getD_getElem?, List.getElem?_toArray, List.getElem?_cons_succ, List.getElem?_cons_zero, Option.getD_some]; exact rfl)))
        | ((with_reducible refine z_read (v := ?_) (a' := ?_) rfl ?_ ?_ ?_); rotate_left; rotate_left; (focus (go_simp; (try go_bits); exact rfl)); (focus (simp only [Act.put, List.setIfInBounds_toArray, List.set_cons_succ, List.set_cons_zero, Act.eval, Array.getD_eq_getD_getElem?, List.getElem?_toArray, List.getElem?_cons_succ, List.getElem?_cons_zero, Option.getD_some]; exact rfl)))
        | ((with_reducible refine z_oblG (v := ?_) (a' := ?_) ?_ (fun _ => ?_) ?_ ?_); rotate_left; rotate_left; (focus (exact rfl)); (focus (go_simp; (try go_bits); exact rfl)); (focus (simp only [Act.put, List.setIfInBounds_toArray, List.set_cons_succ, List.set_cons_zero, Act.eval, Array.getD_eq_getD_getElem?, List.getElem?_toArray, List.getElem?_cons_succ, List.getElem?_cons_zero, Option.getD_some]; exact rfl)))
        | ((with_reducible refine z_readG (v := ?_) (a' := ?_) ?_ ?_ ?_ ?_); rotate_left; rotate_left; (focus (exact rfl)); (focus (go_simp; (try go_bits); exact rfl)); (focus (simp only [Act.put, List.setIfInBounds_toArray, List.set_cons_succ, List.set_cons_zero, Act.eval, Array.getD_eq_getD_getElem?, List.getElem?_toArray, List.getElem?_cons_succ, List.getElem?_cons_zero, Option.getD_some]; exact rfl)))
    refine z_nil (hK9 _ _ ?_)
    have C9 := D7.out.drew.drew.trans (hb9.mono D7.out.size)
    go_wp2
    go_ret
    exact ⟨rfl, B1.out.trans (C9.mono B1.out.size)⟩
  · by_cases h200 : len ≤ 200
    · have n1 : ¬ (200 : Int) < (len : Int) := by omega
      have n2 : (len : Int) = 0 := by omega
      go_wp2
      go_ret
      exact ⟨rfl, B0.out⟩
    · have n1 : (200 : Int) < (len : Int) := by omega
      go_wp2
      go_ret
      exact ⟨rfl, B0.out⟩
end Go.Proofs.YthogbbigglmapaaDoor
