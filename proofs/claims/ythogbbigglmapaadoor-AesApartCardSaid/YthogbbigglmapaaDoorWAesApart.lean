/- AesApart: the walk -/
import Derived.Test.YthogbbigglmapaaDoorLaw4
import Derived.Test.YthogbbigglmapaaDoorEq
namespace Go.Proofs.YthogbbigglmapaaDoor
open Go.RowKit
set_option linter.unusedSimpArgs false in
set_option maxRecDepth 100000 in
set_option maxHeartbeats 800000 in
theorem AesApart_walk (K a b : List (BitVec 8)) (w : World) (hK : K.length = 33) (ha : a.length = 16) (hb16 : b.length = 16) (hT : Turning w) :
    Calls Tryd.prog 3 #[.agg (A8 K), .agg (A8 a), .agg (A8 b)] w fun e w' => e = .returned (.bool true) ∧ Below w.heap.size w w' := by
  obtain ⟨W, hW⟩ : ∃ W, ((w.alloc (.cells (A8 K) 24)).alloc (.cells (A8 a) 25)).alloc (.cells (A8 b) 25) = W := ⟨_, rfl⟩
  obtain ⟨b0, b1, b2, hb, hz⟩ := new3 _ _ _ _ _ _ _ _ hW
  have K0 := Lib.hid b0
  have P0 := Lib.hid b1
  have Q0 := Lib.hid b2
  have B0 := Lib.hid hb
  have T0 := Lib.hid (hT.below hb)
  have HK := Lib.hid hK
  clear b0 b1 b2 hb hz hT
  go_enter Tryd.func3, Tryd.ntmps3
  go_upto_region 1 with fail
  clear hW
  refine wp_region_tail [2,5,2,2,0,0,0,0,0] (by kernel_rfl) (by kernel_rfl) (fun C hC0 hCb K' hK' => ?_)
  have R0 : ∀ w1, C w1 → rowAt w1 w.heap.size = A8 K := fun w1 h => (K0.out.drew.belowAll (hCb w1 h)).row
  (with_reducible refine h_call ?_ ?_)
  · exact rfl
  go_simp
  refine entersW_of ?_
  refine (tables_any W.drew T0.out).mono ?_
  rintro e w1 ⟨p, rfl, t1, d1⟩
  refine ⟨_, rfl, d1, ?_⟩
  try simp only [Act.put, List.setIfInBounds_toArray, List.set_cons_succ, List.set_cons_zero]
  repeat
    first
      | ((with_reducible refine h_pure (v := ?_) (a' := ?_) ?_ (fun _ => ?_) ?_ ?_); rotate_left; rotate_left; (focus (exact rfl)); (focus (go_simp; (try go_bits); exact rfl)); (focus (simp only [Act.put, List.setIfInBounds_toArray, List.set_cons_succ, List.set_cons_zero, Act.eval, Array.getD_eq_getD_getElem?, List.getElem?_toArray, List.getElem?_cons_succ, List.getElem?_cons_zero, Option.getD_some]; exact rfl)))
      | ((with_reducible refine h_obl (v := ?_) (a' := ?_) ?_ (fun _ hcw => ?_) ?_ ?_); rotate_left; rotate_left; (focus (exact rfl)); (focus (have f := R0 _ hcw; go_simp; (try go_bits); exact rfl)); (focus (simp only [Act.put, List.setIfInBounds_toArray, List.set_cons_succ, List.set_cons_zero, Act.eval, Array.getD_eq_getD_getElem?, List.getElem?_toArray, List.getElem?_cons_succ, List.getElem?_cons_zero, Option.getD_some]; exact rfl)))
      | ((with_reducible refine h_read (v := ?_) (a' := ?_) ?_ (fun _ hbw => ?_) ?_ ?_); rotate_left; rotate_left; (focus (exact rfl)); (focus (skip; go_simp; (try go_bits); exact rfl)); (focus (simp only [Act.put, List.setIfInBounds_toArray, List.set_cons_succ, List.set_cons_zero, Act.eval, Array.getD_eq_getD_getElem?, List.getElem?_toArray, List.getElem?_cons_succ, List.getElem?_cons_zero, Option.getD_some]; exact rfl)))
  (with_reducible refine h_call ?_ ?_)
  · exact rfl
  go_simp
  refine entersW_of ?_
  refine (bytes4_any K w1 HK.out).mono ?_
  rintro e w2 ⟨v2, rfl, o2, d2⟩
  refine ⟨_, rfl, d2, ?_⟩
  try simp only [Act.put, List.setIfInBounds_toArray, List.set_cons_succ, List.set_cons_zero]
  obtain ⟨a2, c2, rfl, hr2, _⟩ := o2.rd
  rw [keyB_length K HK.out] at hr2 ⊢
  (with_reducible refine h_call ?_ ?_)
  · exact rfl
  go_simp
  refine entersW_of ?_
  refine (expand_yes p (keyB K) a2 (keyN K) c2 w2 (t1.below d2) hr2 (keyN_or K)).mono ?_
  rintro e w3 ⟨k, rfl, k3, _, d3⟩
  refine ⟨_, rfl, d3, ?_⟩
  try simp only [Act.put, List.setIfInBounds_toArray, List.set_cons_succ, List.set_cons_zero]
  repeat
    first
      | ((with_reducible refine h_pure (v := ?_) (a' := ?_) ?_ (fun _ => ?_) ?_ ?_); rotate_left; rotate_left; (focus (exact rfl)); (focus (go_simp; (try go_bits); exact rfl)); (focus (simp only [Act.put, List.setIfInBounds_toArray, List.set_cons_succ, List.set_cons_zero, Act.eval, Array.getD_eq_getD_getElem?, List.getElem?_toArray, List.getElem?_cons_succ, List.getElem?_cons_zero, Option.getD_some]; exact rfl)))
      | ((with_reducible refine h_obl (v := ?_) (a' := ?_) ?_ (fun _ hcw => ?_) ?_ ?_); rotate_left; rotate_left; (focus (exact rfl)); (focus (skip; go_simp; (try go_bits); exact rfl)); (focus (simp only [Act.put, List.setIfInBounds_toArray, List.set_cons_succ, List.set_cons_zero, Act.eval, Array.getD_eq_getD_getElem?, List.getElem?_toArray, List.getElem?_cons_succ, List.getElem?_cons_zero, Option.getD_some]; exact rfl)))
      | ((with_reducible refine h_read (v := ?_) (a' := ?_) ?_ (fun _ hbw => ?_) ?_ ?_); rotate_left; rotate_left; (focus (exact rfl)); (focus (skip; go_simp; (try go_bits); exact rfl)); (focus (simp only [Act.put, List.setIfInBounds_toArray, List.set_cons_succ, List.set_cons_zero, Act.eval, Array.getD_eq_getD_getElem?, List.getElem?_toArray, List.getElem?_cons_succ, List.getElem?_cons_zero, Option.getD_some]; exact rfl)))
  refine h_tail [] rfl (by simp) (z_nil (hK' _ _ ?_))
  have B3 := Lib.hid (B0.out.drew.trans ((d1.trans ((d2.trans (d3.mono d2.size)).mono d1.size)).mono B0.out.size))
  have D3 := d1.trans ((d2.trans (d3.mono d2.size)).mono d1.size)
  have P3 := Lib.hid (P0.out.drew.belowAll D3)
  have Q3 := Lib.hid (Q0.out.drew.belowAll D3)
  have T3 := Lib.hid (T0.out.below (((Below.refl _ W).drew).trans D3))
  obtain ⟨m, hm⟩ : ∃ m, m = keyN K / 4 + 7 := ⟨_, rfl⟩
  obtain ⟨L, hL⟩ : ∃ L, L = sch (keyN K / 4) (keyB K) (3 * (keyN K / 4) + 28) := ⟨_, rfl⟩
  have hLl : L.length = m * 16 := by
    rw [hL, hm, sch_length _ _ (by rw [keyB_length K hK]; have := keyN_or K; omega)]
    have := keyN_or K; omega
  have hm3 : 3 ≤ m := by omega
  have hm100 : m ≤ 100 := by have := keyN_or K; omega
  rw [← hm, ← hL] at k3
  have K3 := Lib.hid k3
  have HLL := Lib.hid hLl
  clear R0 hC0 hCb hK' t1 d1 d2 o2 hr2 d3 D3 k3 hm hL hLl K0 P0 Q0 B0 T0 HK
  go_upto_region 2 with fail
  refine wp_region_tail [0,0,0,0,0,0,0,0,5,2,0,5,2,0,5,5,0,0,0,0,2,0,0] (by kernel_rfl) (by kernel_rfl) (fun C hC0 hCb K' hK' => ?_)
  have R1 : ∀ w1, C w1 → rowAt w1 (w.heap.size + 1) = A8 a := fun w1 h => (P3.out.drew.belowAll (hCb w1 h)).row
  have R2 : ∀ w1, C w1 → rowAt w1 (w.heap.size + 2) = A8 b := fun w1 h => (Q3.out.drew.belowAll (hCb w1 h)).row
  repeat
    first
      | ((with_reducible refine h_pure (v := ?_) (a' := ?_) ?_ (fun _ => ?_) ?_ ?_); rotate_left; rotate_left; (focus (exact rfl)); (focus (go_simp; (try go_bits); exact rfl)); (focus (simp only [Act.put, List.setIfInBounds_toArray, List.set_cons_succ, List.set_cons_zero, Act.eval, Array.getD_eq_getD_getElem?, List.getElem?_toArray, List.getElem?_cons_succ, List.getElem?_cons_zero, Option.getD_some]; exact rfl)))
      | ((with_reducible refine h_obl (v := ?_) (a' := ?_) ?_ (fun _ hcw => ?_) ?_ ?_); rotate_left; rotate_left; (focus (exact rfl)); (focus (have f := R1 _ hcw; have f' := R2 _ hcw; go_simp; (try go_bits); exact rfl)); (focus (simp only [Act.put, List.setIfInBounds_toArray, List.set_cons_succ, List.set_cons_zero, Act.eval, Array.getD_eq_getD_getElem?, List.getElem?_toArray, List.getElem?_cons_succ, List.getElem?_cons_zero, Option.getD_some]; exact rfl)))
      | ((with_reducible refine h_read (v := ?_) (a' := ?_) ?_ (fun _ hbw => ?_) ?_ ?_); rotate_left; rotate_left; (focus (exact rfl)); (focus (skip; go_simp; (try go_bits); exact rfl)); (focus (simp only [Act.put, List.setIfInBounds_toArray, List.set_cons_succ, List.set_cons_zero, Act.eval, Array.getD_eq_getD_getElem?, List.getElem?_toArray, List.getElem?_cons_succ, List.getElem?_cons_zero, Option.getD_some]; exact rfl)))
  (with_reducible refine h_call ?_ ?_)
  · exact rfl
  go_simp
  refine entersW_of ?_
  refine (encrypt_any k p m L a w3.drew K3.out.drew ha hm3 hm100).mono ?_
  rintro e w4 ⟨rfl, d4⟩
  refine ⟨_, rfl, d4, ?_⟩
  try simp only [Act.put, List.setIfInBounds_toArray, List.set_cons_succ, List.set_cons_zero]
  repeat
    first
      | ((with_reducible refine h_pure (v := ?_) (a' := ?_) ?_ (fun _ => ?_) ?_ ?_); rotate_left; rotate_left; (focus (exact rfl)); (focus (go_simp; (try go_bits); exact rfl)); (focus (simp only [Act.put, List.setIfInBounds_toArray, List.set_cons_succ, List.set_cons_zero, Act.eval, Array.getD_eq_getD_getElem?, List.getElem?_toArray, List.getElem?_cons_succ, List.getElem?_cons_zero, Option.getD_some]; exact rfl)))
      | ((with_reducible refine h_obl (v := ?_) (a' := ?_) ?_ (fun _ hcw => ?_) ?_ ?_); rotate_left; rotate_left; (focus (exact rfl)); (focus (have f := R1 _ hcw; have f' := R2 _ hcw; go_simp; (try go_bits); exact rfl)); (focus (simp only [Act.put, List.setIfInBounds_toArray, List.set_cons_succ, List.set_cons_zero, Act.eval, Array.getD_eq_getD_getElem?, List.getElem?_toArray, List.getElem?_cons_succ, List.getElem?_cons_zero, Option.getD_some]; exact rfl)))
      | ((with_reducible refine h_read (v := ?_) (a' := ?_) ?_ (fun _ hbw => ?_) ?_ ?_); rotate_left; rotate_left; (focus (exact rfl)); (focus (skip; go_simp; (try go_bits); exact rfl)); (focus (simp only [Act.put, List.setIfInBounds_toArray, List.set_cons_succ, List.set_cons_zero, Act.eval, Array.getD_eq_getD_getElem?, List.getElem?_toArray, List.getElem?_cons_succ, List.getElem?_cons_zero, Option.getD_some]; exact rfl)))
  (with_reducible refine h_call ?_ ?_)
  · exact rfl
  go_simp
  refine entersW_of ?_
  refine (encrypt_any k p m L b w4 (K3.out.drew.below d4) hb16 hm3 hm100).mono ?_
  rintro e w5 ⟨rfl, d5⟩
  refine ⟨_, rfl, d5, ?_⟩
  try simp only [Act.put, List.setIfInBounds_toArray, List.set_cons_succ, List.set_cons_zero]
  have hpq : decide (encS L m a = encS L m b) = decide (a = b) := decide_eq_decide.2 (enc_inj_aes L m a b ha hb16 HLL.out hm3)
  have hXl := encS_length L m a
  have hYl := encS_length L m b
  obtain ⟨X, hX⟩ : ∃ X, X = encS L m a := ⟨_, rfl⟩
  obtain ⟨Y, hY⟩ : ∃ Y, Y = encS L m b := ⟨_, rfl⟩
  rw [← hX, ← hY] at hpq
  rw [← hX] at hXl ⊢
  rw [← hY] at hYl ⊢
  clear hX hY
  repeat
    first
      | ((with_reducible refine h_pure (v := ?_) (a' := ?_) ?_ (fun _ => ?_) ?_ ?_); rotate_left; rotate_left; (focus (exact rfl)); (focus (go_simp; (try go_bits); exact rfl)); (focus (simp only [Act.put, List.setIfInBounds_toArray, List.set_cons_succ, List.set_cons_zero, Act.eval, Array.getD_eq_getD_getElem?, List.getElem?_toArray, List.getElem?_cons_succ, List.getElem?_cons_zero, Option.getD_some]; exact rfl)))
      | ((with_reducible refine h_obl (v := ?_) (a' := ?_) ?_ (fun _ hcw => ?_) ?_ ?_); rotate_left; rotate_left; (focus (exact rfl)); (focus (have f := R1 _ hcw; have f' := R2 _ hcw; go_simp; (try go_bits); exact rfl)); (focus (simp only [Act.put, List.setIfInBounds_toArray, List.set_cons_succ, List.set_cons_zero, Act.eval, Array.getD_eq_getD_getElem?, List.getElem?_toArray, List.getElem?_cons_succ, List.getElem?_cons_zero, Option.getD_some]; exact rfl)))
      | ((with_reducible refine h_read (v := ?_) (a' := ?_) ?_ (fun _ hbw => ?_) ?_ ?_); rotate_left; rotate_left; (focus (exact rfl)); (focus (skip; go_simp; (try go_bits); exact rfl)); (focus (simp only [Act.put, List.setIfInBounds_toArray, List.set_cons_succ, List.set_cons_zero, Act.eval, Array.getD_eq_getD_getElem?, List.getElem?_toArray, List.getElem?_cons_succ, List.getElem?_cons_zero, Option.getD_some]; exact rfl)))
  have D5 := d4.trans (d5.mono d4.size)
  (with_reducible refine h_call ?_ ?_)
  · exact rfl
  go_simp
  refine entersW_of ?_
  refine (awake4_any w5 (T3.out.below (((Below.refl _ w3).drew).trans D5))).mono ?_
  rintro e w6 ⟨rfl, d6⟩
  refine ⟨_, rfl, d6, ?_⟩
  try simp only [Act.put, List.setIfInBounds_toArray, List.set_cons_succ, List.set_cons_zero]
  repeat
    first
      | ((with_reducible refine h_pure (v := ?_) (a' := ?_) ?_ (fun _ => ?_) ?_ ?_); rotate_left; rotate_left; (focus (exact rfl)); (focus (go_simp; (try go_bits); exact rfl)); (focus (simp only [Act.put, List.setIfInBounds_toArray, List.set_cons_succ, List.set_cons_zero, Act.eval, Array.getD_eq_getD_getElem?, List.getElem?_toArray, List.getElem?_cons_succ, List.getElem?_cons_zero, Option.getD_some]; exact rfl)))
      | ((with_reducible refine h_obl (v := ?_) (a' := ?_) ?_ (fun _ hcw => ?_) ?_ ?_); rotate_left; rotate_left; (focus (exact rfl)); (focus (skip; go_simp; (try go_bits); exact rfl)); (focus (simp only [Act.put, List.setIfInBounds_toArray, List.set_cons_succ, List.set_cons_zero, Act.eval, Array.getD_eq_getD_getElem?, List.getElem?_toArray, List.getElem?_cons_succ, List.getElem?_cons_zero, Option.getD_some]; exact rfl)))
      | ((with_reducible refine h_read (v := ?_) (a' := ?_) ?_ (fun _ hbw => ?_) ?_ ?_); rotate_left; rotate_left; (focus (exact rfl)); (focus (skip; go_simp; (try go_bits); exact rfl)); (focus (simp only [Act.put, List.setIfInBounds_toArray, List.set_cons_succ, List.set_cons_zero, Act.eval, Array.getD_eq_getD_getElem?, List.getElem?_toArray, List.getElem?_cons_succ, List.getElem?_cons_zero, Option.getD_some]; exact rfl)))
  refine h_tail [] rfl (by simp) (z_nil (hK' _ _ ?_))
  have D6 := D5.trans (d6.mono D5.size)
  have B6 := B3.out.drew.trans (D6.mono B3.out.size)
  clear R1 R2 hC0 hCb hK' d4 d5 d6 D5 D6
  go_wp2
  go_ret
  exact ⟨rfl, B6⟩
end Go.Proofs.YthogbbigglmapaaDoor
