/- AesBlocks: the walk -/
import Derived.Test.YtepijmidafndaaaDoorLaw4
import Derived.Test.YtepijmidafndaaaDoorEq
import Derived.Test.YtepijmidafndaaaDoorRg5
import Derived.Test.YtepijmidafndaaaDoorRg9
namespace Go.Proofs.YtepijmidafndaaaDoor
open Go.RowKit
set_option linter.unusedSimpArgs false in
set_option maxRecDepth 100000 in
set_option maxHeartbeats 1600000 in
theorem AesBlocks_walk (K b : List (BitVec 8)) (w : World) (hK : K.length = 33) (hb16 : b.length = 16) (hT : Turning w) :
    Calls Tryd.prog 8 #[.agg (A8 K), .agg (A8 b)] w fun e w' => e = .returned (.bool true) ∧ Below w.heap.size w w' := by
  obtain ⟨W, hW⟩ : ∃ W, (w.alloc (.cells (A8 K) 58)).alloc (.cells (A8 b) 31) = W := ⟨_, rfl⟩
  obtain ⟨b0, b1, hb, hz⟩ := new2 _ _ _ _ _ _ hW
  have K0 := Lib.hid b0
  have P0 := Lib.hid b1
  have B0 := Lib.hid hb
  have T0 := Lib.hid (hT.below hb)
  have HK := Lib.hid hK
  clear b0 b1 hb hz hT
  go_enter Tryd.func8, Tryd.ntmps8
  go_upto_region 1 with fail
  clear hW
  refine wp_region_tail [2,5,2,2,0,0,0,0,0] (by kernel_rfl) (by kernel_rfl) (fun C hC0 hCb K' hK' => ?_)
  have R0 : ∀ w1, C w1 → rowAt w1 w.heap.size = A8 K := fun w1 h => (K0.out.drew.belowAll (hCb w1 h)).row
  (with_reducible refine h_call ?_ ?_)
  · exact rfl
  go_simp
  refine entersW_of ?_
  refine (tables_any W.drew T0.out).mono ?_
  rintro e w1 ⟨p, rfl, t1, d1⟩
  refine ⟨_, rfl, d1, ?_⟩
  try simp only [Act.put, List.setIfInBounds_toArray, List.set_cons_succ, List.set_cons_zero]
  repeat
    first
      | ((with_reducible refine h_pure (v := ?_) (a' := ?_) ?_ (fun _ => ?_) ?_ ?_); rotate_left; rotate_left; (focus (exact rfl)); (focus (go_simp; (try go_bits); exact rfl)); (focus (simp only [Act.put, List.setIfInBounds_toArray, List.set_cons_succ, List.set_cons_zero, Act.eval, Array.getD_eq_getD_getElem?, List.getElem?_toArray, List.getElem?_cons_succ, List.getElem?_cons_zero, Option.getD_some]; exact rfl)))
      | ((with_reducible refine h_obl (v := ?_) (a' := ?_) ?_ (fun _ hcw => ?_) ?_ ?_); rotate_left; rotate_left; (focus (exact rfl)); (focus (have f := R0 _ hcw; go_simp; (try go_bits); exact rfl)); (focus (simp only [Act.put, List.setIfInBounds_toArray, List.set_cons_succ, List.set_cons_zero, Act.eval, Array.getD_eq_getD_getElem?, List.getElem?_toArray, List.getElem?_cons_succ, List.getElem?_cons_zero, Option.getD_some]; exact rfl)))
      | ((with_reducible refine h_read (v := ?_) (a' := ?_) ?_ (fun _ hbw => ?_) ?_ ?_); rotate_left; rotate_left; (focus (exact rfl)); (focus (skip; go_simp; (try go_bits); exact rfl)); (focus (simp only [Act.put, List.setIfInBounds_toArray, List.set_cons_succ, List.set_cons_zero, Act.eval, Array.getD_eq_getD_getElem?, List.getElem?_toArray, List.getElem?_cons_succ, List.getElem?_cons_zero, Option.getD_some]; exact rfl)))
  (with_reducible refine h_call ?_ ?_)
  · exact rfl
  go_simp
  refine entersW_of ?_
  refine (bytes4_any K w1 HK.out).mono ?_
  rintro e w2 ⟨v2, rfl, o2, d2⟩
  refine ⟨_, rfl, d2, ?_⟩
  try simp only [Act.put, List.setIfInBounds_toArray, List.set_cons_succ, List.set_cons_zero]
  obtain ⟨a2, c2, rfl, hr2, _⟩ := o2.rd
  rw [keyB_length K HK.out] at hr2 ⊢
  (with_reducible refine h_call ?_ ?_)
  · exact rfl
  go_simp
  refine entersW_of ?_
  refine (expand_yes p (keyB K) a2 (keyN K) c2 w2 (t1.below d2) hr2 (keyN_or K)).mono ?_
  rintro e w3 ⟨k, rfl, k3, _, d3⟩
  refine ⟨_, rfl, d3, ?_⟩
  try simp only [Act.put, List.setIfInBounds_toArray, List.set_cons_succ, List.set_cons_zero]
  repeat
    first
      | ((with_reducible refine h_pure (v := ?_) (a' := ?_) ?_ (fun _ => ?_) ?_ ?_); rotate_left; rotate_left; (focus (exact rfl)); (focus (go_simp; (try go_bits); exact rfl)); (focus (simp only [Act.put, List.setIfInBounds_toArray, List.set_cons_succ, List.set_cons_zero, Act.eval, Array.getD_eq_getD_getElem?, List.getElem?_toArray, List.getElem?_cons_succ, List.getElem?_cons_zero, Option.getD_some]; exact rfl)))
      | ((with_reducible refine h_obl (v := ?_) (a' := ?_) ?_ (fun _ hcw => ?_) ?_ ?_); rotate_left; rotate_left; (focus (exact rfl)); (focus (skip; go_simp; (try go_bits); exact rfl)); (focus (simp only [Act.put, List.setIfInBounds_toArray, List.set_cons_succ, List.set_cons_zero, Act.eval, Array.getD_eq_getD_getElem?, List.getElem?_toArray, List.getElem?_cons_succ, List.getElem?_cons_zero, Option.getD_some]; exact rfl)))
      | ((with_reducible refine h_read (v := ?_) (a' := ?_) ?_ (fun _ hbw => ?_) ?_ ?_); rotate_left; rotate_left; (focus (exact rfl)); (focus (skip; go_simp; (try go_bits); exact rfl)); (focus (simp only [Act.put, List.setIfInBounds_toArray, List.set_cons_succ, List.set_cons_zero, Act.eval, Array.getD_eq_getD_getElem?, List.getElem?_toArray, List.getElem?_cons_succ, List.getElem?_cons_zero, Option.getD_some]; exact rfl)))
  refine h_tail [] rfl (by simp) (z_nil (hK' _ _ ?_))
  have D3 := d1.trans ((d2.trans (d3.mono d2.size)).mono d1.size)
  have B3 := Lib.hid (B0.out.drew.trans (D3.mono B0.out.size))
  have P3 := Lib.hid (P0.out.drew.belowAll D3)
  have Z3 := Lib.hid (K0.out.drew.belowAll D3)
  have T3 := Lib.hid (T0.out.below (((Below.refl _ W).drew).trans D3))
  obtain ⟨m, hm⟩ : ∃ m, m = keyN K / 4 + 7 := ⟨_, rfl⟩
  obtain ⟨L, hL⟩ : ∃ L, L = sch (keyN K / 4) (keyB K) (3 * (keyN K / 4) + 28) := ⟨_, rfl⟩
  have hm3 : 3 ≤ m := by omega
  have hm100 : m ≤ 100 := by have := keyN_or K; omega
  rw [← hm, ← hL] at k3
  have K3 := Lib.hid k3
  have HM := Lib.hid hm
  have HL := Lib.hid hL
  clear R0 hC0 hCb hK' t1 d1 d2 o2 hr2 d3 D3 k3 hm hL K0 P0 B0 T0
  go_wp2_with fail
  refine (refMake_any w3).mono ?_
  rintro e w4 ⟨rfl, d4⟩
  obtain ⟨X, hX⟩ : ∃ X, X = boxesL := ⟨_, rfl⟩
  rw [← hX]
  have HX := Lib.hid hX
  have BX : BoxL X boxT backT := by rw [hX]; exact boxL_all
  have hXl := BX.len
  have HBX := Lib.hid BX
  obtain ⟨W5, hW5⟩ : ∃ W5, w4.alloc (.cells (A8 X) 38) = W5 := ⟨_, rfl⟩
  obtain ⟨x5, d5, z5⟩ := new1 _ _ _ _ hW5
  have X5 := Lib.hid x5
  have D5 := d4.trans (d5.mono d4.size)
  have B5 := Lib.hid (B3.out.trans (D5.mono B3.out.size))
  have K5 := Lib.hid (K3.out.below D5)
  have P5 := Lib.hid (P3.out.belowAll D5)
  have Z5 := Lib.hid (Z3.out.belowAll D5)
  have T5 := Lib.hid (T3.out.below D5)
  obtain ⟨px, hpx⟩ : ∃ px, px = w4.heap.size := ⟨_, rfl⟩
  clear hX BX d4 x5 d5 z5 D5 B3 K3 P3 Z3 T3
  go_upto_region 3 with fail
  rw [← hpx] at X5 ⊢
  clear hpx hW5
  refine wp_region_tail [5,5,2,2,0] (by kernel_rfl) (by kernel_rfl) (fun C hC0 hCb K' hK' => ?_)
  have q0 : ∀ w1, C w1 → rowAt w1 w.heap.size = A8 K := fun w1 h => (Z5.out.drew.belowAll (hCb w1 h)).row
  have q1 : ∀ w1, C w1 → rowAt w1 px = A8 X := fun w1 h => (X5.out.drew.belowAll (hCb w1 h)).row
  repeat
    first
      | ((with_reducible refine h_pure (v := ?_) (a' := ?_) ?_ (fun _ => ?_) ?_ ?_); rotate_left; rotate_left; (focus (exact rfl)); (focus (go_simp; (try go_bits); exact rfl)); (focus (simp only [Act.put, List.setIfInBounds_toArray, List.set_cons_succ, List.set_cons_zero, Act.eval, Array.getD_eq_getD_getElem?, List.getElem?_toArray, List.getElem?_cons_succ, List.getElem?_cons_zero, Option.getD_some]; exact rfl)))
      | ((with_reducible refine h_obl (v := ?_) (a' := ?_) ?_ (fun _ hcw => ?_) ?_ ?_); rotate_left; rotate_left; (focus (exact rfl)); (focus (have f := q0 _ hcw; have f' := q1 _ hcw; go_simp; (try go_bits); exact rfl)); (focus (simp only [Act.put, List.setIfInBounds_toArray, List.set_cons_succ, List.set_cons_zero, Act.eval, Array.getD_eq_getD_getElem?, List.getElem?_toArray, List.getElem?_cons_succ, List.getElem?_cons_zero, Option.getD_some]; exact rfl)))
      | ((with_reducible refine h_read (v := ?_) (a' := ?_) ?_ (fun _ hbw => ?_) ?_ ?_); rotate_left; rotate_left; (focus (exact rfl)); (focus (skip; go_simp; (try go_bits); exact rfl)); (focus (simp only [Act.put, List.setIfInBounds_toArray, List.set_cons_succ, List.set_cons_zero, Act.eval, Array.getD_eq_getD_getElem?, List.getElem?_toArray, List.getElem?_cons_succ, List.getElem?_cons_zero, Option.getD_some]; exact rfl)))
  (with_reducible refine h_call ?_ ?_)
  · exact rfl
  go_simp
  refine entersW_of ?_
  refine (bytes4_any K W5.drew HK.out).mono ?_
  rintro e w6 ⟨v6, rfl, o6, d6⟩
  refine ⟨_, rfl, d6, ?_⟩
  try simp only [Act.put, List.setIfInBounds_toArray, List.set_cons_succ, List.set_cons_zero]
  obtain ⟨a6, c6, rfl, hr6, _⟩ := o6.rd
  rw [keyB_length K HK.out] at hr6 ⊢
  have hkk := refKeys_any (keyB K) a6 (keyN K) c6 w6 hr6 (keyN_or K)
  rw [← HX.out, ← HM.out, ← HL.out] at hkk
  (with_reducible refine h_call ?_ ?_)
  · exact rfl
  go_simp
  refine entersW_of ?_
  refine (hkk).mono ?_
  rintro e w7 ⟨v7, rfl, o7, d7⟩
  refine ⟨_, rfl, d7, ?_⟩
  try simp only [Act.put, List.setIfInBounds_toArray, List.set_cons_succ, List.set_cons_zero]
  repeat
    first
      | ((with_reducible refine h_pure (v := ?_) (a' := ?_) ?_ (fun _ => ?_) ?_ ?_); rotate_left; rotate_left; (focus (exact rfl)); (focus (go_simp; (try go_bits); exact rfl)); (focus (simp only [Act.put, List.setIfInBounds_toArray, List.set_cons_succ, List.set_cons_zero, Act.eval, Array.getD_eq_getD_getElem?, List.getElem?_toArray, List.getElem?_cons_succ, List.getElem?_cons_zero, Option.getD_some]; exact rfl)))
      | ((with_reducible refine h_obl (v := ?_) (a' := ?_) ?_ (fun _ hcw => ?_) ?_ ?_); rotate_left; rotate_left; (focus (exact rfl)); (focus (skip; go_simp; (try go_bits); exact rfl)); (focus (simp only [Act.put, List.setIfInBounds_toArray, List.set_cons_succ, List.set_cons_zero, Act.eval, Array.getD_eq_getD_getElem?, List.getElem?_toArray, List.getElem?_cons_succ, List.getElem?_cons_zero, Option.getD_some]; exact rfl)))
      | ((with_reducible refine h_read (v := ?_) (a' := ?_) ?_ (fun _ hbw => ?_) ?_ ?_); rotate_left; rotate_left; (focus (exact rfl)); (focus (skip; go_simp; (try go_bits); exact rfl)); (focus (simp only [Act.put, List.setIfInBounds_toArray, List.set_cons_succ, List.set_cons_zero, Act.eval, Array.getD_eq_getD_getElem?, List.getElem?_toArray, List.getElem?_cons_succ, List.getElem?_cons_zero, Option.getD_some]; exact rfl)))
  refine h_tail [] rfl (by simp) (z_nil (hK' _ _ ?_))
  obtain ⟨g7, c7, rfl, hg71, _, _, _⟩ := o7.form (by omega)
  have R7 := Lib.hid o7.rdAt
  have D7 := d6.trans (d7.mono d6.size)
  have B7 := Lib.hid (B5.out.drew.trans (D7.mono B5.out.size))
  have K7 := Lib.hid (K5.out.drew.below D7)
  have P7 := Lib.hid (P5.out.drew.belowAll D7)
  have X7 := Lib.hid (X5.out.drew.belowAll D7)
  have T7 := Lib.hid (T5.out.below (((Below.refl _ W5).drew).trans D7))
  clear q0 q1 hC0 hCb hK' o6 hr6 d6 hkk o7 d7 D7 B5 K5 P5 X5 T5 Z5
  have r1 := P7.out.row
  go_wp2_with fail
  refine (encrypt_nil b w7).mono ?_
  rintro e w8 ⟨rfl, d8⟩
  have P8 := Lib.hid (P7.out.belowAll d8)
  clear r1
  have r1 := P8.out.row
  go_wp2_with fail
  refine (decrypt_nil b w8).mono ?_
  rintro e w9 ⟨rfl, d9⟩
  have P9 := Lib.hid (P8.out.belowAll d9)
  have D9 := d8.trans (d9.mono d8.size)
  have X9 := Lib.hid (X7.out.belowAll D9)
  have K9 := Lib.hid (K7.out.below D9)
  have R9 := Lib.hid (R7.out.below D9)
  have T9 := Lib.hid (T7.out.below D9)
  have B9 := Lib.hid (B7.out.trans (D9.mono B7.out.size))
  clear r1 d8 d9 D9 P7 P8 X7 K7 R7 T7 B7
  go_upto_region 7 with fail
  refine wp_region_tail [0,5,2,5,0,5,2,0,0,0,5,2,5,0,5,2,0,0,0,2,0,0] (by kernel_rfl) (by kernel_rfl) (fun C hC0 hCb K' hK' => ?_)
  have q1 : ∀ w1, C w1 → rowAt w1 px = A8 X := fun w1 h => (X9.out.drew.belowAll (hCb w1 h)).row
  have q2 : ∀ w1, C w1 → rowAt w1 (w.heap.size + 1) = A8 b := fun w1 h => (P9.out.drew.belowAll (hCb w1 h)).row
  repeat
    first
      | ((with_reducible refine h_pure (v := ?_) (a' := ?_) ?_ (fun _ => ?_) ?_ ?_); rotate_left; rotate_left; (focus (exact rfl)); (focus (go_simp; (try go_bits); exact rfl)); (focus (simp only [Act.put, List.setIfInBounds_toArray, List.set_cons_succ, List.set_cons_zero, Act.eval, Array.getD_eq_getD_getElem?, List.getElem?_toArray, List.getElem?_cons_succ, List.getElem?_cons_zero, Option.getD_some]; exact rfl)))
      | ((with_reducible refine h_obl (v := ?_) (a' := ?_) ?_ (fun _ hcw => ?_) ?_ ?_); rotate_left; rotate_left; (focus (exact rfl)); (focus (have f := q1 _ hcw; have f' := q2 _ hcw; go_simp; (try go_bits); exact rfl)); (focus (simp only [Act.put, List.setIfInBounds_toArray, List.set_cons_succ, List.set_cons_zero, Act.eval, Array.getD_eq_getD_getElem?, List.getElem?_toArray, List.getElem?_cons_succ, List.getElem?_cons_zero, Option.getD_some]; exact rfl)))
      | ((with_reducible refine h_read (v := ?_) (a' := ?_) ?_ (fun _ hbw => ?_) ?_ ?_); rotate_left; rotate_left; (focus (exact rfl)); (focus (skip; go_simp; (try go_bits); exact rfl)); (focus (simp only [Act.put, List.setIfInBounds_toArray, List.set_cons_succ, List.set_cons_zero, Act.eval, Array.getD_eq_getD_getElem?, List.getElem?_toArray, List.getElem?_cons_succ, List.getElem?_cons_zero, Option.getD_some]; exact rfl)))
  (with_reducible refine h_call ?_ ?_)
  · exact rfl
  go_simp
  refine entersW_of ?_
  refine (encrypt_any k p m L b w9.drew K9.out.drew hb16 hm3 hm100).mono ?_
  rintro e v1 ⟨rfl, e1⟩
  refine ⟨_, rfl, e1, ?_⟩
  try simp only [Act.put, List.setIfInBounds_toArray, List.set_cons_succ, List.set_cons_zero]
  repeat
    first
      | ((with_reducible refine h_pure (v := ?_) (a' := ?_) ?_ (fun _ => ?_) ?_ ?_); rotate_left; rotate_left; (focus (exact rfl)); (focus (go_simp; (try go_bits); exact rfl)); (focus (simp only [Act.put, List.setIfInBounds_toArray, List.set_cons_succ, List.set_cons_zero, Act.eval, Array.getD_eq_getD_getElem?, List.getElem?_toArray, List.getElem?_cons_succ, List.getElem?_cons_zero, Option.getD_some]; exact rfl)))
      | ((with_reducible refine h_obl (v := ?_) (a' := ?_) ?_ (fun _ hcw => ?_) ?_ ?_); rotate_left; rotate_left; (focus (exact rfl)); (focus (have f := q1 _ hcw; have f' := q2 _ hcw; go_simp; (try go_bits); exact rfl)); (focus (simp only [Act.put, List.setIfInBounds_toArray, List.set_cons_succ, List.set_cons_zero, Act.eval, Array.getD_eq_getD_getElem?, List.getElem?_toArray, List.getElem?_cons_succ, List.getElem?_cons_zero, Option.getD_some]; exact rfl)))
      | ((with_reducible refine h_read (v := ?_) (a' := ?_) ?_ (fun _ hbw => ?_) ?_ ?_); rotate_left; rotate_left; (focus (exact rfl)); (focus (skip; go_simp; (try go_bits); exact rfl)); (focus (simp only [Act.put, List.setIfInBounds_toArray, List.set_cons_succ, List.set_cons_zero, Act.eval, Array.getD_eq_getD_getElem?, List.getElem?_toArray, List.getElem?_cons_succ, List.getElem?_cons_zero, Option.getD_some]; exact rfl)))
  (with_reducible refine h_call ?_ ?_)
  · exact rfl
  go_simp
  refine entersW_of ?_
  refine (refEncrypt_any X boxT backT L b g7 c7 m v1 HBX.out (R9.out.drew.below e1) hb16 hm3 hm100).mono ?_
  rintro e v2 ⟨rfl, e2⟩
  refine ⟨_, rfl, e2, ?_⟩
  try simp only [Act.put, List.setIfInBounds_toArray, List.set_cons_succ, List.set_cons_zero]
  have E2 := e1.trans (e2.mono e1.size)
  have hEl := encS_length L m b
  have hDl := decS_length L m b
  obtain ⟨EE, hEE⟩ : ∃ EE, EE = encS L m b := ⟨_, rfl⟩
  rw [← hEE] at hEl ⊢
  clear hEE
  repeat
    first
      | ((with_reducible refine h_pure (v := ?_) (a' := ?_) ?_ (fun _ => ?_) ?_ ?_); rotate_left; rotate_left; (focus (exact rfl)); (focus (go_simp; (try go_bits); exact rfl)); (focus (simp only [Act.put, List.setIfInBounds_toArray, List.set_cons_succ, List.set_cons_zero, Act.eval, Array.getD_eq_getD_getElem?, List.getElem?_toArray, List.getElem?_cons_succ, List.getElem?_cons_zero, Option.getD_some]; exact rfl)))
      | ((with_reducible refine h_obl (v := ?_) (a' := ?_) ?_ (fun _ hcw => ?_) ?_ ?_); rotate_left; rotate_left; (focus (exact rfl)); (focus (have f := q1 _ hcw; have f' := q2 _ hcw; go_simp; (try go_bits); exact rfl)); (focus (simp only [Act.put, List.setIfInBounds_toArray, List.set_cons_succ, List.set_cons_zero, Act.eval, Array.getD_eq_getD_getElem?, List.getElem?_toArray, List.getElem?_cons_succ, List.getElem?_cons_zero, Option.getD_some]; exact rfl)))
      | ((with_reducible refine h_read (v := ?_) (a' := ?_) ?_ (fun _ hbw => ?_) ?_ ?_); rotate_left; rotate_left; (focus (exact rfl)); (focus (skip; go_simp; (try go_bits); exact rfl)); (focus (simp only [Act.put, List.setIfInBounds_toArray, List.set_cons_succ, List.set_cons_zero, Act.eval, Array.getD_eq_getD_getElem?, List.getElem?_toArray, List.getElem?_cons_succ, List.getElem?_cons_zero, Option.getD_some]; exact rfl)))
  (with_reducible refine h_call ?_ ?_)
  · exact rfl
  go_simp
  refine entersW_of ?_
  refine (decrypt_any k p m L b v2 (K9.out.drew.below E2) hb16 hm3 hm100).mono ?_
  rintro e v3 ⟨rfl, e3⟩
  refine ⟨_, rfl, e3, ?_⟩
  try simp only [Act.put, List.setIfInBounds_toArray, List.set_cons_succ, List.set_cons_zero]
  have E3 := E2.trans (e3.mono E2.size)
  repeat
    first
      | ((with_reducible refine h_pure (v := ?_) (a' := ?_) ?_ (fun _ => ?_) ?_ ?_); rotate_left; rotate_left; (focus (exact rfl)); (focus (go_simp; (try go_bits); exact rfl)); (focus (simp only [Act.put, List.setIfInBounds_toArray, List.set_cons_succ, List.set_cons_zero, Act.eval, Array.getD_eq_getD_getElem?, List.getElem?_toArray, List.getElem?_cons_succ, List.getElem?_cons_zero, Option.getD_some]; exact rfl)))
      | ((with_reducible refine h_obl (v := ?_) (a' := ?_) ?_ (fun _ hcw => ?_) ?_ ?_); rotate_left; rotate_left; (focus (exact rfl)); (focus (have f := q1 _ hcw; have f' := q2 _ hcw; go_simp; (try go_bits); exact rfl)); (focus (simp only [Act.put, List.setIfInBounds_toArray, List.set_cons_succ, List.set_cons_zero, Act.eval, Array.getD_eq_getD_getElem?, List.getElem?_toArray, List.getElem?_cons_succ, List.getElem?_cons_zero, Option.getD_some]; exact rfl)))
      | ((with_reducible refine h_read (v := ?_) (a' := ?_) ?_ (fun _ hbw => ?_) ?_ ?_); rotate_left; rotate_left; (focus (exact rfl)); (focus (skip; go_simp; (try go_bits); exact rfl)); (focus (simp only [Act.put, List.setIfInBounds_toArray, List.set_cons_succ, List.set_cons_zero, Act.eval, Array.getD_eq_getD_getElem?, List.getElem?_toArray, List.getElem?_cons_succ, List.getElem?_cons_zero, Option.getD_some]; exact rfl)))
  (with_reducible refine h_call ?_ ?_)
  · exact rfl
  go_simp
  refine entersW_of ?_
  refine (refDecrypt_any X boxT backT L b g7 c7 m v3 HBX.out (R9.out.drew.below E3) hb16 hm3 hm100).mono ?_
  rintro e v4 ⟨rfl, e4⟩
  refine ⟨_, rfl, e4, ?_⟩
  try simp only [Act.put, List.setIfInBounds_toArray, List.set_cons_succ, List.set_cons_zero]
  have E4 := E3.trans (e4.mono E3.size)
  obtain ⟨DD, hDD⟩ : ∃ DD, DD = decS L m b := ⟨_, rfl⟩
  rw [← hDD] at hDl ⊢
  clear hDD
  repeat
    first
      | ((with_reducible refine h_pure (v := ?_) (a' := ?_) ?_ (fun _ => ?_) ?_ ?_); rotate_left; rotate_left; (focus (exact rfl)); (focus (go_simp; (try go_bits); exact rfl)); (focus (simp only [Act.put, List.setIfInBounds_toArray, List.set_cons_succ, List.set_cons_zero, Act.eval, Array.getD_eq_getD_getElem?, List.getElem?_toArray, List.getElem?_cons_succ, List.getElem?_cons_zero, Option.getD_some]; exact rfl)))
      | ((with_reducible refine h_obl (v := ?_) (a' := ?_) ?_ (fun _ hcw => ?_) ?_ ?_); rotate_left; rotate_left; (focus (exact rfl)); (focus (have f := q1 _ hcw; have f' := q2 _ hcw; go_simp; (try go_bits); exact rfl)); (focus (simp only [Act.put, List.setIfInBounds_toArray, List.set_cons_succ, List.set_cons_zero, Act.eval, Array.getD_eq_getD_getElem?, List.getElem?_toArray, List.getElem?_cons_succ, List.getElem?_cons_zero, Option.getD_some]; exact rfl)))
      | ((with_reducible refine h_read (v := ?_) (a' := ?_) ?_ (fun _ hbw => ?_) ?_ ?_); rotate_left; rotate_left; (focus (exact rfl)); (focus (skip; go_simp; (try go_bits); exact rfl)); (focus (simp only [Act.put, List.setIfInBounds_toArray, List.set_cons_succ, List.set_cons_zero, Act.eval, Array.getD_eq_getD_getElem?, List.getElem?_toArray, List.getElem?_cons_succ, List.getElem?_cons_zero, Option.getD_some]; exact rfl)))
  (with_reducible refine h_call ?_ ?_)
  · exact rfl
  go_simp
  refine entersW_of ?_
  refine (awake4_any v4 (T9.out.below (((Below.refl _ w9).drew).trans E4))).mono ?_
  rintro e v5 ⟨rfl, e5⟩
  refine ⟨_, rfl, e5, ?_⟩
  try simp only [Act.put, List.setIfInBounds_toArray, List.set_cons_succ, List.set_cons_zero]
  repeat
    first
      | ((with_reducible refine h_pure (v := ?_) (a' := ?_) ?_ (fun _ => ?_) ?_ ?_); rotate_left; rotate_left; (focus (exact rfl)); (focus (go_simp; (try go_bits); exact rfl)); (focus (simp only [Act.put, List.setIfInBounds_toArray, List.set_cons_succ, List.set_cons_zero, Act.eval, Array.getD_eq_getD_getElem?, List.getElem?_toArray, List.getElem?_cons_succ, List.getElem?_cons_zero, Option.getD_some]; exact rfl)))
      | ((with_reducible refine h_obl (v := ?_) (a' := ?_) ?_ (fun _ hcw => ?_) ?_ ?_); rotate_left; rotate_left; (focus (exact rfl)); (focus (skip; go_simp; (try go_bits); exact rfl)); (focus (simp only [Act.put, List.setIfInBounds_toArray, List.set_cons_succ, List.set_cons_zero, Act.eval, Array.getD_eq_getD_getElem?, List.getElem?_toArray, List.getElem?_cons_succ, List.getElem?_cons_zero, Option.getD_some]; exact rfl)))
      | ((with_reducible refine h_read (v := ?_) (a' := ?_) ?_ (fun _ hbw => ?_) ?_ ?_); rotate_left; rotate_left; (focus (exact rfl)); (focus (skip; go_simp; (try go_bits); exact rfl)); (focus (simp only [Act.put, List.setIfInBounds_toArray, List.set_cons_succ, List.set_cons_zero, Act.eval, Array.getD_eq_getD_getElem?, List.getElem?_toArray, List.getElem?_cons_succ, List.getElem?_cons_zero, Option.getD_some]; exact rfl)))
  refine h_tail [] rfl (by simp) (z_nil (hK' _ _ ?_))
  have E5 := E4.trans (e5.mono E4.size)
  have B10 := B9.out.drew.trans (E5.mono B9.out.size)
  clear q1 q2 hC0 hCb hK' e1 e2 e3 e4 e5 E2 E3 E4 E5
  go_wp2
  go_ret
  exact ⟨rfl, B10⟩
end Go.Proofs.YtepijmidafndaaaDoor
