/- AesBack: the walk -/
import Derived.Test.YthogbbigglmapaaDoorLawK
namespace Go.Proofs.YthogbbigglmapaaDoor
open Go.RowKit
set_option linter.unusedSimpArgs false in
set_option maxRecDepth 100000 in
set_option maxHeartbeats 800000 in
theorem AesBack_walk (K b : List (BitVec 8)) (w : World) (hK : K.length = 33) (hb16 : b.length = 16) (hT : Turning w) :
    Calls Tryd.prog 15 #[.agg (A8 K), .agg (A8 b)] w fun e w' => e = .returned (.bool true) ∧ Below w.heap.size w w' := by
  obtain ⟨W, hW⟩ : ∃ W, (w.alloc (.cells (A8 K) 24)).alloc (.cells (A8 b) 25) = W := ⟨_, rfl⟩
  obtain ⟨b0, b1, hb, hz⟩ := new2 _ _ _ _ _ _ hW
  have K0 := Lib.hid b0
  have P0 := Lib.hid b1
  have B0 := Lib.hid hb
  have T0 := Lib.hid (hT.below hb)
  clear b0 b1 hb hz hT
  go_enter Tryd.func15, Tryd.ntmps15
  go_upto_region 1 with fail
  clear hW
  refine wp_region_tail [2,5,2,2,0,0,0,0,0] (by kernel_rfl) (by kernel_rfl) (fun C hC0 hCb K' hK' => ?_)
  have R0 : ∀ w1, C w1 → rowAt w1 w.heap.size = A8 K := fun w1 h => (K0.out.drew.belowAll (hCb w1 h)).row
  (with_reducible refine h_call ?_ ?_)
  · exact rfl
  go_simp
  refine entersW_of ?_
  refine (tables_any W.drew T0.out).mono ?_
  rintro e w1 ⟨p, rfl, t1, d1⟩
  refine ⟨_, rfl, d1, ?_⟩
  try simp only [Act.put, List.setIfInBounds_toArray, List.set_cons_succ, List.set_cons_zero]
  repeat
    first
      | ((with_reducible refine h_pure (v := ?_) (a' := ?_) ?_ (fun _ => ?_) ?_ ?_); rotate_left; rotate_left; (focus (exact rfl)); (focus (go_simp; (try go_bits); exact rfl)); (focus (simp only [Act.put, List.setIfInBounds_toArray, List.set_cons_succ, List.set_cons_zero, Act.eval, Array.getD_eq_getD_getElem?, List.getElem?_toArray, List.getElem?_cons_succ, List.getElem?_cons_zero, Option.getD_some]; exact rfl)))
      | ((with_reducible refine h_obl (v := ?_) (a' := ?_) ?_ (fun _ hcw => ?_) ?_ ?_); rotate_left; rotate_left; (focus (exact rfl)); (focus (have f := R0 _ hcw; go_simp; (try go_bits); exact rfl)); (focus (simp only [Act.put, List.setIfInBounds_toArray, List.set_cons_succ, List.set_cons_zero, Act.eval, Array.getD_eq_getD_getElem?, List.getElem?_toArray, List.getElem?_cons_succ, List.getElem?_cons_zero, Option.getD_some]; exact rfl)))
      | ((with_reducible refine h_read (v := ?_) (a' := ?_) ?_ (fun _ hbw => ?_) ?_ ?_); rotate_left; rotate_left; (focus (exact rfl)); (focus (skip; go_simp; (try go_bits); exact rfl)); (focus (simp only [Act.put, List.setIfInBounds_toArray, List.set_cons_succ, List.set_cons_zero, Act.eval, Array.getD_eq_getD_getElem?, List.getElem?_toArray, List.getElem?_cons_succ, List.getElem?_cons_zero, Option.getD_some]; exact rfl)))
  (with_reducible refine h_call ?_ ?_)
  · exact rfl
  go_simp
  refine entersW_of ?_
  refine (bytes4_any K w1 hK).mono ?_
  rintro e w2 ⟨v2, rfl, o2, d2⟩
  refine ⟨_, rfl, d2, ?_⟩
  try simp only [Act.put, List.setIfInBounds_toArray, List.set_cons_succ, List.set_cons_zero]
  obtain ⟨a2, c2, rfl, hr2, _⟩ := o2.rd
  rw [keyB_length K hK] at hr2 ⊢
  (with_reducible refine h_call ?_ ?_)
  · exact rfl
  go_simp
  refine entersW_of ?_
  refine (expandK_any p K a2 c2 w2 (t1.below d2) hr2).mono ?_
  rintro e w3 ⟨k, rfl, k3, d3⟩
  refine ⟨_, rfl, d3, ?_⟩
  try simp only [Act.put, List.setIfInBounds_toArray, List.set_cons_succ, List.set_cons_zero]
  repeat
    first
      | ((with_reducible refine h_pure (v := ?_) (a' := ?_) ?_ (fun _ => ?_) ?_ ?_); rotate_left; rotate_left; (focus (exact rfl)); (focus (go_simp; (try go_bits); exact rfl)); (focus (simp only [Act.put, List.setIfInBounds_toArray, List.set_cons_succ, List.set_cons_zero, Act.eval, Array.getD_eq_getD_getElem?, List.getElem?_toArray, List.getElem?_cons_succ, List.getElem?_cons_zero, Option.getD_some]; exact rfl)))
      | ((with_reducible refine h_obl (v := ?_) (a' := ?_) ?_ (fun _ hcw => ?_) ?_ ?_); rotate_left; rotate_left; (focus (exact rfl)); (focus (skip; go_simp; (try go_bits); exact rfl)); (focus (simp only [Act.put, List.setIfInBounds_toArray, List.set_cons_succ, List.set_cons_zero, Act.eval, Array.getD_eq_getD_getElem?, List.getElem?_toArray, List.getElem?_cons_succ, List.getElem?_cons_zero, Option.getD_some]; exact rfl)))
      | ((with_reducible refine h_read (v := ?_) (a' := ?_) ?_ (fun _ hbw => ?_) ?_ ?_); rotate_left; rotate_left; (focus (exact rfl)); (focus (skip; go_simp; (try go_bits); exact rfl)); (focus (simp only [Act.put, List.setIfInBounds_toArray, List.set_cons_succ, List.set_cons_zero, Act.eval, Array.getD_eq_getD_getElem?, List.getElem?_toArray, List.getElem?_cons_succ, List.getElem?_cons_zero, Option.getD_some]; exact rfl)))
  refine h_tail [] rfl (by simp) (z_nil (hK' _ _ ?_))
  have D3 := d1.trans ((d2.trans (d3.mono d2.size)).mono d1.size)
  have B3 := Lib.hid (B0.out.drew.trans (D3.mono B0.out.size))
  have P3 := Lib.hid (P0.out.drew.belowAll D3)
  have T3 := Lib.hid (T0.out.below (((Below.refl _ W).drew).trans D3))
  have hLl := LK_length K hK
  obtain ⟨hm3, hm15⟩ := mK_bounds K
  obtain ⟨m, hm⟩ : ∃ m, m = mK K := ⟨_, rfl⟩
  obtain ⟨L, hL⟩ : ∃ L, L = LK K := ⟨_, rfl⟩
  rw [← hm] at hm3 hm15
  rw [← hm, ← hL] at k3 hLl
  have K3 := Lib.hid k3
  have HLL := Lib.hid hLl
  clear R0 hC0 hCb hK' t1 d1 d2 o2 hr2 d3 D3 k3 hm hL hLl K0 P0 B0 T0
  go_upto_region 2 with fail
  refine wp_region_tail [0,0,0,0,0,0,0,0,0,5,2,2,5,0,0,0,0,0,5,2,2,5,0,0,0,2,0,0] (by kernel_rfl) (by kernel_rfl) (fun C hC0 hCb K' hK' => ?_)
  have R1 : ∀ w1, C w1 → rowAt w1 (w.heap.size + 1) = A8 b := fun w1 h => (P3.out.drew.belowAll (hCb w1 h)).row
  repeat
    first
      | ((with_reducible refine h_pure (v := ?_) (a' := ?_) ?_ (fun _ => ?_) ?_ ?_); rotate_left; rotate_left; (focus (exact rfl)); (focus (go_simp; (try go_bits); exact rfl)); (focus (simp only [Act.put, List.setIfInBounds_toArray, List.set_cons_succ, List.set_cons_zero, Act.eval, Array.getD_eq_getD_getElem?, List.getElem?_toArray, List.getElem?_cons_succ, List.getElem?_cons_zero, Option.getD_some]; exact rfl)))
      | ((with_reducible refine h_obl (v := ?_) (a' := ?_) ?_ (fun _ hcw => ?_) ?_ ?_); rotate_left; rotate_left; (focus (exact rfl)); (focus (have f := R1 _ hcw; go_simp; (try go_bits); exact rfl)); (focus (simp only [Act.put, List.setIfInBounds_toArray, List.set_cons_succ, List.set_cons_zero, Act.eval, Array.getD_eq_getD_getElem?, List.getElem?_toArray, List.getElem?_cons_succ, List.getElem?_cons_zero, Option.getD_some]; exact rfl)))
      | ((with_reducible refine h_read (v := ?_) (a' := ?_) ?_ (fun _ hbw => ?_) ?_ ?_); rotate_left; rotate_left; (focus (exact rfl)); (focus (skip; go_simp; (try go_bits); exact rfl)); (focus (simp only [Act.put, List.setIfInBounds_toArray, List.set_cons_succ, List.set_cons_zero, Act.eval, Array.getD_eq_getD_getElem?, List.getElem?_toArray, List.getElem?_cons_succ, List.getElem?_cons_zero, Option.getD_some]; exact rfl)))
  (with_reducible refine h_call ?_ ?_)
  · exact rfl
  go_simp
  refine entersW_of ?_
  refine (encrypt_any k p m L b w3.drew K3.out.drew hb16 (by omega) (by omega)).mono ?_
  rintro e w4 ⟨rfl, d4⟩
  refine ⟨_, rfl, d4, ?_⟩
  try simp only [Act.put, List.setIfInBounds_toArray, List.set_cons_succ, List.set_cons_zero]
  have hXl := encS_length L m b
  have hX' := dec_enc_aes L m b hb16 HLL.out (by omega)
  obtain ⟨X, hX⟩ : ∃ X, X = encS L m b := ⟨_, rfl⟩
  rw [← hX] at hXl hX' ⊢
  have HX := Lib.hid hX'
  clear hX hX'
  (with_reducible refine h_call ?_ ?_)
  · exact rfl
  go_simp
  refine entersW_of ?_
  refine (decrypt_any k p m L X w4 (K3.out.drew.below d4) hXl (by omega) (by omega)).mono ?_
  rintro e w5 ⟨rfl, d5⟩
  refine ⟨_, rfl, d5, ?_⟩
  try simp only [Act.put, List.setIfInBounds_toArray, List.set_cons_succ, List.set_cons_zero]
  rw [HX.out]
  have D5 := d4.trans (d5.mono d4.size)
  clear HX hXl
  repeat
    first
      | ((with_reducible refine h_pure (v := ?_) (a' := ?_) ?_ (fun _ => ?_) ?_ ?_); rotate_left; rotate_left; (focus (exact rfl)); (focus (go_simp; (try go_bits); exact rfl)); (focus (simp only [Act.put, List.setIfInBounds_toArray, List.set_cons_succ, List.set_cons_zero, Act.eval, Array.getD_eq_getD_getElem?, List.getElem?_toArray, List.getElem?_cons_succ, List.getElem?_cons_zero, Option.getD_some]; exact rfl)))
      | ((with_reducible refine h_obl (v := ?_) (a' := ?_) ?_ (fun _ hcw => ?_) ?_ ?_); rotate_left; rotate_left; (focus (exact rfl)); (focus (have f := R1 _ hcw; go_simp; (try go_bits); exact rfl)); (focus (simp only [Act.put, List.setIfInBounds_toArray, List.set_cons_succ, List.set_cons_zero, Act.eval, Array.getD_eq_getD_getElem?, List.getElem?_toArray, List.getElem?_cons_succ, List.getElem?_cons_zero, Option.getD_some]; exact rfl)))
      | ((with_reducible refine h_read (v := ?_) (a' := ?_) ?_ (fun _ hbw => ?_) ?_ ?_); rotate_left; rotate_left; (focus (exact rfl)); (focus (skip; go_simp; (try go_bits); exact rfl)); (focus (simp only [Act.put, List.setIfInBounds_toArray, List.set_cons_succ, List.set_cons_zero, Act.eval, Array.getD_eq_getD_getElem?, List.getElem?_toArray, List.getElem?_cons_succ, List.getElem?_cons_zero, Option.getD_some]; exact rfl)))
  (with_reducible refine h_call ?_ ?_)
  · exact rfl
  go_simp
  refine entersW_of ?_
  refine (decrypt_any k p m L b w5 (K3.out.drew.below D5) hb16 (by omega) (by omega)).mono ?_
  rintro e w6 ⟨rfl, d6⟩
  refine ⟨_, rfl, d6, ?_⟩
  try simp only [Act.put, List.setIfInBounds_toArray, List.set_cons_succ, List.set_cons_zero]
  have hXl := decS_length L m b
  have hX' := enc_dec_aes L m b hb16 HLL.out (by omega)
  obtain ⟨X, hX⟩ : ∃ X, X = decS L m b := ⟨_, rfl⟩
  rw [← hX] at hXl hX' ⊢
  have HX := Lib.hid hX'
  clear hX hX'
  have D6 := D5.trans (d6.mono D5.size)
  (with_reducible refine h_call ?_ ?_)
  · exact rfl
  go_simp
  refine entersW_of ?_
  refine (encrypt_any k p m L X w6 (K3.out.drew.below D6) hXl (by omega) (by omega)).mono ?_
  rintro e w7 ⟨rfl, d7⟩
  refine ⟨_, rfl, d7, ?_⟩
  try simp only [Act.put, List.setIfInBounds_toArray, List.set_cons_succ, List.set_cons_zero]
  rw [HX.out]
  have D7 := D6.trans (d7.mono D6.size)
  clear HX hXl
  repeat
    first
      | ((with_reducible refine h_pure (v := ?_) (a' := ?_) ?_ (fun _ => ?_) ?_ ?_); rotate_left; rotate_left; (focus (exact rfl)); (focus (go_simp; (try go_bits); exact rfl)); (focus (simp only [Act.put, List.setIfInBounds_toArray, List.set_cons_succ, List.set_cons_zero, Act.eval, Array.getD_eq_getD_getElem?, List.getElem?_toArray, List.getElem?_cons_succ, List.getElem?_cons_zero, Option.getD_some]; exact rfl)))
      | ((with_reducible refine h_obl (v := ?_) (a' := ?_) ?_ (fun _ hcw => ?_) ?_ ?_); rotate_left; rotate_left; (focus (exact rfl)); (focus (have f := R1 _ hcw; go_simp; (try go_bits); exact rfl)); (focus (simp only [Act.put, List.setIfInBounds_toArray, List.set_cons_succ, List.set_cons_zero, Act.eval, Array.getD_eq_getD_getElem?, List.getElem?_toArray, List.getElem?_cons_succ, List.getElem?_cons_zero, Option.getD_some]; exact rfl)))
      | ((with_reducible refine h_read (v := ?_) (a' := ?_) ?_ (fun _ hbw => ?_) ?_ ?_); rotate_left; rotate_left; (focus (exact rfl)); (focus (skip; go_simp; (try go_bits); exact rfl)); (focus (simp only [Act.put, List.setIfInBounds_toArray, List.set_cons_succ, List.set_cons_zero, Act.eval, Array.getD_eq_getD_getElem?, List.getElem?_toArray, List.getElem?_cons_succ, List.getElem?_cons_zero, Option.getD_some]; exact rfl)))
  (with_reducible refine h_call ?_ ?_)
  · exact rfl
  go_simp
  refine entersW_of ?_
  refine (awake4_any w7 (T3.out.below (((Below.refl _ w3).drew).trans D7))).mono ?_
  rintro e w8 ⟨rfl, d8⟩
  refine ⟨_, rfl, d8, ?_⟩
  try simp only [Act.put, List.setIfInBounds_toArray, List.set_cons_succ, List.set_cons_zero]
  repeat
    first
      | ((with_reducible refine h_pure (v := ?_) (a' := ?_) ?_ (fun _ => ?_) ?_ ?_); rotate_left; rotate_left; (focus (exact rfl)); (focus (go_simp; (try go_bits); exact rfl)); (focus (simp only [Act.put, List.setIfInBounds_toArray, List.set_cons_succ, List.set_cons_zero, Act.eval, Array.getD_eq_getD_getElem?, List.getElem?_toArray, List.getElem?_cons_succ, List.getElem?_cons_zero, Option.getD_some]; exact rfl)))
      | ((with_reducible refine h_obl (v := ?_) (a' := ?_) ?_ (fun _ hcw => ?_) ?_ ?_); rotate_left; rotate_left; (focus (exact rfl)); (focus (skip; go_simp; (try go_bits); exact rfl)); (focus (simp only [Act.put, List.setIfInBounds_toArray, List.set_cons_succ, List.set_cons_zero, Act.eval, Array.getD_eq_getD_getElem?, List.getElem?_toArray, List.getElem?_cons_succ, List.getElem?_cons_zero, Option.getD_some]; exact rfl)))
      | ((with_reducible refine h_read (v := ?_) (a' := ?_) ?_ (fun _ hbw => ?_) ?_ ?_); rotate_left; rotate_left; (focus (exact rfl)); (focus (skip; go_simp; (try go_bits); exact rfl)); (focus (simp only [Act.put, List.setIfInBounds_toArray, List.set_cons_succ, List.set_cons_zero, Act.eval, Array.getD_eq_getD_getElem?, List.getElem?_toArray, List.getElem?_cons_succ, List.getElem?_cons_zero, Option.getD_some]; exact rfl)))
  refine h_tail [] rfl (by simp) (z_nil (hK' _ _ ?_))
  have D8 := D7.trans (d8.mono D7.size)
  have B8 := B3.out.drew.trans (D8.mono B3.out.size)
  clear R1 hC0 hCb hK' d4 d5 d6 d7 d8 D5 D6 D7 D8
  go_wp2
  go_ret
  exact ⟨rfl, B8⟩
end Go.Proofs.YthogbbigglmapaaDoor
