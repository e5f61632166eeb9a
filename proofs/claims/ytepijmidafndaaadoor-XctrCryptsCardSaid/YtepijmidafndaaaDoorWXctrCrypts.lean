/- XctrCrypts: the walk -/
import Derived.Test.YtepijmidafndaaaDoorLaw13
import Derived.Test.YtepijmidafndaaaDoorEq
import Derived.Test.YtepijmidafndaaaDoorGs
import Derived.Test.YtepijmidafndaaaDoorRx3
import Derived.Test.YtepijmidafndaaaDoorRg5
namespace Go.Proofs.YtepijmidafndaaaDoor
open Go.RowKit
set_option linter.unusedSimpArgs false in
set_option maxRecDepth 100000 in
set_option maxHeartbeats 3200000 in
theorem XctrCrypts_walk (K s : List (BitVec 8)) (a : Option Addr) (len cap : Nat) (l : List (BitVec 8)) (w : World) (hK : K.length = 33) (hs : s.length = 16) (hl : Rd8 w a len cap l) (hT : Turning w) :
    Calls Tryd.prog 6 #[.agg (A8 K), .agg (A8 s), .slice a len cap] w fun e w' => e = .returned (.bool true) ∧ Below w.heap.size w w' := by
  obtain ⟨W, hW⟩ : ∃ W, (w.alloc (.cells (A8 K) 43)).alloc (.cells (A8 s) 31) = W := ⟨_, rfl⟩
  obtain ⟨b0, b1, hb, hz⟩ := new2 _ _ _ _ _ _ hW
  have K0 := Lib.hid b0
  have P0 := Lib.hid b1
  have B0 := Lib.hid hb
  have T0 := Lib.hid (hT.below hb)
  have LL := Lib.hid hl
  have hll := hl.1
  clear b0 b1 hb hz hT hl
  go_enter Tryd.func6, Tryd.ntmps6
  by_cases hlen : len ≤ 200
  · have n1 : ¬ (200 : Int) < (len : Int) := by omega
    obtain ⟨m, hm⟩ : ∃ m, m = keyN K / 4 + 7 := ⟨_, rfl⟩
    obtain ⟨L, hL⟩ : ∃ L, L = sch (keyN K / 4) (keyB K) (3 * (keyN K / 4) + 28) := ⟨_, rfl⟩
    have hm3 : 3 ≤ m := by omega
    have hm100 : m ≤ 100 := by have := keyN_or K; omega
    have HM := Lib.hid hm
    have HL := Lib.hid hL
    clear hm hL
    go_wp2_with fail
    clear hW
    refine (refMake_any W).mono ?_
    rintro e w4 ⟨rfl, d4⟩
    obtain ⟨X, hX⟩ : ∃ X, X = boxesL := ⟨_, rfl⟩
    rw [← hX]
    have HXX := Lib.hid hX
    have BX : BoxL X boxT backT := by rw [hX]; exact boxL_all
    have hXl := BX.len
    have HBX := Lib.hid BX
    obtain ⟨W5, hW5⟩ : ∃ W5, w4.alloc (.cells (A8 X) 38) = W5 := ⟨_, rfl⟩
    obtain ⟨x5, d5, z5⟩ := new1 _ _ _ _ hW5
    have D5 := d4.trans (d5.mono d4.size)
    have X5 := Lib.hid x5
    have B5 := Lib.hid (B0.out.trans (D5.mono B0.out.size))
    have K5 := Lib.hid (K0.out.belowAll D5)
    have P5 := Lib.hid (P0.out.belowAll D5)
    have T5 := Lib.hid (T0.out.below D5)
    obtain ⟨px, hpx⟩ : ∃ px, px = w4.heap.size := ⟨_, rfl⟩
    clear hX BX d4 x5 d5 z5 D5 B0 K0 P0 T0
    go_upto_region 4 with fail
    rw [← hpx] at X5 ⊢
    clear hpx hW5
    refine wp_region_tail [5,2,5,0,2,0,0,0,0,0] (by kernel_rfl) (by kernel_rfl) (fun C hC0 hCb K' hK' => ?_)
    have R0 : ∀ w1, C w1 → rowAt w1 w.heap.size = A8 K := fun w1 h => (K5.out.drew.belowAll (hCb w1 h)).row
    have R1 : ∀ w1, C w1 → rowAt w1 (w.heap.size + 1) = A8 s := fun w1 h => (P5.out.drew.belowAll (hCb w1 h)).row
    repeat
      first
        | ((with_reducible refine h_pure (v := ?_) (a' := ?_) ?_ (fun _ => ?_) ?_ ?_); rotate_left; rotate_left; (focus (exact rfl)); (focus (go_simp; (try go_bits); exact rfl)); (focus (simp only [Act.put, List.setIfInBounds_toArray, List.set_cons_succ, List.set_cons_zero, Act.eval, Array.getD_eq_getD_getElem?, List.getElem?_toArray, List.getElem?_cons_succ, List.getElem?_cons_zero, Option.getD_some]; exact rfl)))
        | ((with_reducible refine h_obl (v := ?_) (a' := ?_) ?_ (fun _ hcw => ?_) ?_ ?_); rotate_left; rotate_left; (focus (exact rfl)); (focus (have f := R0 _ hcw; have f1 := R1 _ hcw; go_simp; (try go_bits); exact rfl)); (focus (simp only [Act.put, List.setIfInBounds_toArray, List.set_cons_succ, List.set_cons_zero, Act.eval, Array.getD_eq_getD_getElem?, List.getElem?_toArray, List.getElem?_cons_succ, List.getElem?_cons_zero, Option.getD_some]; exact rfl)))
        | ((with_reducible refine h_read (v := ?_) (a' := ?_) ?_ (fun _ hbw => ?_) ?_ ?_); rotate_left; rotate_left; (focus (exact rfl)); (focus (skip; go_simp; (try go_bits); exact rfl)); (focus (simp only [Act.put, List.setIfInBounds_toArray, List.set_cons_succ, List.set_cons_zero, Act.eval, Array.getD_eq_getD_getElem?, List.getElem?_toArray, List.getElem?_cons_succ, List.getElem?_cons_zero, Option.getD_some]; exact rfl)))
    (with_reducible refine h_call ?_ ?_)
    · exact rfl
    go_simp
    refine entersW_of ?_
    refine (key13_any K W5.drew hK (T5.out.below ((Below.refl _ W5).drew))).mono ?_
    rintro e w6 ⟨k, p, rfl, k6, d6⟩
    refine ⟨_, rfl, d6, ?_⟩
    try simp only [Act.put, List.setIfInBounds_toArray, List.set_cons_succ, List.set_cons_zero]
    rw [show mK K = m from HM.out.symm, show LK K = L from HL.out.symm] at k6
    repeat
      first
        | ((with_reducible refine h_pure (v := ?_) (a' := ?_) ?_ (fun _ => ?_) ?_ ?_); rotate_left; rotate_left; (focus (exact rfl)); (focus (go_simp; (try go_bits); exact rfl)); (focus (simp only [Act.put, List.setIfInBounds_toArray, List.set_cons_succ, List.set_cons_zero, Act.eval, Array.getD_eq_getD_getElem?, List.getElem?_toArray, List.getElem?_cons_succ, List.getElem?_cons_zero, Option.getD_some]; exact rfl)))
        | ((with_reducible refine h_obl (v := ?_) (a' := ?_) ?_ (fun _ hcw => ?_) ?_ ?_); rotate_left; rotate_left; (focus (exact rfl)); (focus (have f := R0 _ hcw; have f1 := R1 _ hcw; go_simp; (try go_bits); exact rfl)); (focus (simp only [Act.put, List.setIfInBounds_toArray, List.set_cons_succ, List.set_cons_zero, Act.eval, Array.getD_eq_getD_getElem?, List.getElem?_toArray, List.getElem?_cons_succ, List.getElem?_cons_zero, Option.getD_some]; exact rfl)))
        | ((with_reducible refine h_read (v := ?_) (a' := ?_) ?_ (fun _ hbw => ?_) ?_ ?_); rotate_left; rotate_left; (focus (exact rfl)); (focus (skip; go_simp; (try go_bits); exact rfl)); (focus (simp only [Act.put, List.setIfInBounds_toArray, List.set_cons_succ, List.set_cons_zero, Act.eval, Array.getD_eq_getD_getElem?, List.getElem?_toArray, List.getElem?_cons_succ, List.getElem?_cons_zero, Option.getD_some]; exact rfl)))
    have B6 := B5.out.drew.trans (d6.mono B5.out.drew.size)
    (with_reducible refine h_call ?_ ?_)
    · exact rfl
    go_simp
    refine entersW_of ?_
    refine (xcrypt_any k p m L s l a len cap w6 k6 hs hm3 hm100 (LL.out.below B6) (by omega)).mono ?_
    rintro e w7 ⟨v7, rfl, o7, d7⟩
    refine ⟨_, rfl, d7, ?_⟩
    try simp only [Act.put, List.setIfInBounds_toArray, List.set_cons_succ, List.set_cons_zero]
    obtain ⟨c, hc⟩ : ∃ c, c = xcrypt L m s l := ⟨_, rfl⟩
    rw [← hc] at o7
    have hcl : c.length = len := by rw [hc, xcrypt_length, hll]
    obtain ⟨a7, c7, rfl, hr7, _⟩ := o7.rd
    rw [hcl] at hr7 ⊢
    repeat
      first
        | ((with_reducible refine h_pure (v := ?_) (a' := ?_) ?_ (fun _ => ?_) ?_ ?_); rotate_left; rotate_left; (focus (exact rfl)); (focus (go_simp; (try go_bits); exact rfl)); (focus (simp only [Act.put, List.setIfInBounds_toArray, List.set_cons_succ, List.set_cons_zero, Act.eval, Array.getD_eq_getD_getElem?, List.getElem?_toArray, List.getElem?_cons_succ, List.getElem?_cons_zero, Option.getD_some]; exact rfl)))
        | ((with_reducible refine h_obl (v := ?_) (a' := ?_) ?_ (fun _ hcw => ?_) ?_ ?_); rotate_left; rotate_left; (focus (exact rfl)); (focus (skip; go_simp; (try go_bits); exact rfl)); (focus (simp only [Act.put, List.setIfInBounds_toArray, List.set_cons_succ, List.set_cons_zero, Act.eval, Array.getD_eq_getD_getElem?, List.getElem?_toArray, List.getElem?_cons_succ, List.getElem?_cons_zero, Option.getD_some]; exact rfl)))
        | ((with_reducible refine h_read (v := ?_) (a' := ?_) ?_ (fun _ hbw => ?_) ?_ ?_); rotate_left; rotate_left; (focus (exact rfl)); (focus (skip; go_simp; (try go_bits); exact rfl)); (focus (simp only [Act.put, List.setIfInBounds_toArray, List.set_cons_succ, List.set_cons_zero, Act.eval, Array.getD_eq_getD_getElem?, List.getElem?_toArray, List.getElem?_cons_succ, List.getElem?_cons_zero, Option.getD_some]; exact rfl)))
    refine h_tail [] rfl (by simp) (z_nil (hK' _ _ ?_))
    have D7 := d6.trans (d7.mono d6.size)
    have B7 := Lib.hid (B5.out.drew.trans (D7.mono B5.out.drew.size))
    have X7 := Lib.hid (X5.out.drew.belowAll D7)
    have K7 := Lib.hid (K5.out.drew.belowAll D7)
    have P7 := Lib.hid (P5.out.drew.belowAll D7)
    have T7 := Lib.hid (T5.out.below (((Below.refl _ W5).drew).trans D7))
    have R7 := Lib.hid hr7
    have HC := Lib.hid hc
    clear R0 R1 hC0 hCb hK' k6 d6 B6 d7 D7 o7 hr7 hc B5 X5 K5 P5 T5
    have r1 := P7.out.row
    go_wp2_with fail
    refine (xcrypt_nil (.agg (A8 s)) _ w7 s rfl).mono ?_
    rintro e w8 ⟨rfl, d8⟩
    have B8 := Lib.hid (B7.out.trans (d8.mono B7.out.size))
    have X8 := Lib.hid (X7.out.belowAll d8)
    have K8 := Lib.hid (K7.out.belowAll d8)
    have P8 := Lib.hid (P7.out.belowAll d8)
    have T8 := Lib.hid (T7.out.below d8)
    have R8 := Lib.hid (R7.out.below d8)
    clear r1 d8 B7 X7 K7 P7 T7 R7
    go_upto_region 6 with fail
    refine wp_region_tail [5,5,5,2,2,5,0,2,0] (by kernel_rfl) (by kernel_rfl) (fun C hC0 hCb K' hK' => ?_)
    have R0 : ∀ w1, C w1 → rowAt w1 w.heap.size = A8 K := fun w1 h => (K8.out.drew.belowAll (hCb w1 h)).row
    have R1 : ∀ w1, C w1 → rowAt w1 (w.heap.size + 1) = A8 s := fun w1 h => (P8.out.drew.belowAll (hCb w1 h)).row
    have R2 : ∀ w1, C w1 → rowAt w1 px = A8 X := fun w1 h => (X8.out.drew.belowAll (hCb w1 h)).row
    repeat
      first
        | ((with_reducible refine h_pure (v := ?_) (a' := ?_) ?_ (fun _ => ?_) ?_ ?_); rotate_left; rotate_left; (focus (exact rfl)); (focus (go_simp; (try go_bits); exact rfl)); (focus (simp only [Act.put, List.setIfInBounds_toArray, List.set_cons_succ, List.set_cons_zero, Act.eval, Array.getD_eq_getD_getElem?, List.getElem?_toArray, List.getElem?_cons_succ, List.getElem?_cons_zero, Option.getD_some]; exact rfl)))
        | ((with_reducible refine h_obl (v := ?_) (a' := ?_) ?_ (fun _ hcw => ?_) ?_ ?_); rotate_left; rotate_left; (focus (exact rfl)); (focus (have f := R0 _ hcw; have f1 := R1 _ hcw; have f2 := R2 _ hcw; go_simp; (try go_bits); exact rfl)); (focus (simp only [Act.put, List.setIfInBounds_toArray, List.set_cons_succ, List.set_cons_zero, Act.eval, Array.getD_eq_getD_getElem?, List.getElem?_toArray, List.getElem?_cons_succ, List.getElem?_cons_zero, Option.getD_some]; exact rfl)))
        | ((with_reducible refine h_read (v := ?_) (a' := ?_) ?_ (fun _ hbw => ?_) ?_ ?_); rotate_left; rotate_left; (focus (exact rfl)); (focus (skip; go_simp; (try go_bits); exact rfl)); (focus (simp only [Act.put, List.setIfInBounds_toArray, List.set_cons_succ, List.set_cons_zero, Act.eval, Array.getD_eq_getD_getElem?, List.getElem?_toArray, List.getElem?_cons_succ, List.getElem?_cons_zero, Option.getD_some]; exact rfl)))
    (with_reducible refine h_call ?_ ?_)
    · exact rfl
    go_simp
    refine entersW_of ?_
    refine (bytes13_any K w8.drew hK).mono ?_
    rintro e w9 ⟨v9, rfl, o9, d9⟩
    refine ⟨_, rfl, d9, ?_⟩
    try simp only [Act.put, List.setIfInBounds_toArray, List.set_cons_succ, List.set_cons_zero]
    obtain ⟨a9, c9, rfl, hr9, _⟩ := o9.rd
    rw [keyB_length K hK] at hr9 ⊢
    have hkk := refKeys_any (keyB K) a9 (keyN K) c9 w9 hr9 (keyN_or K)
    rw [← HXX.out, ← HM.out, ← HL.out] at hkk
    (with_reducible refine h_call ?_ ?_)
    · exact rfl
    go_simp
    refine entersW_of ?_
    refine (hkk).mono ?_
    rintro e w10 ⟨v10, rfl, o10, d10⟩
    refine ⟨_, rfl, d10, ?_⟩
    try simp only [Act.put, List.setIfInBounds_toArray, List.set_cons_succ, List.set_cons_zero]
    obtain ⟨gy, cy, rfl, _, _, _, _⟩ := o10.form (by omega)
    have ry := o10.rdAt
    have D10 := d9.trans (d10.mono d9.size)
    have B10 := B8.out.drew.trans (D10.mono B8.out.drew.size)
    repeat
      first
        | ((with_reducible refine h_pure (v := ?_) (a' := ?_) ?_ (fun _ => ?_) ?_ ?_); rotate_left; rotate_left; (focus (exact rfl)); (focus (go_simp; (try go_bits); exact rfl)); (focus (simp only [Act.put, List.setIfInBounds_toArray, List.set_cons_succ, List.set_cons_zero, Act.eval, Array.getD_eq_getD_getElem?, List.getElem?_toArray, List.getElem?_cons_succ, List.getElem?_cons_zero, Option.getD_some]; exact rfl)))
        | ((with_reducible refine h_obl (v := ?_) (a' := ?_) ?_ (fun _ hcw => ?_) ?_ ?_); rotate_left; rotate_left; (focus (exact rfl)); (focus (have f := R0 _ hcw; have f1 := R1 _ hcw; have f2 := R2 _ hcw; go_simp; (try go_bits); exact rfl)); (focus (simp only [Act.put, List.setIfInBounds_toArray, List.set_cons_succ, List.set_cons_zero, Act.eval, Array.getD_eq_getD_getElem?, List.getElem?_toArray, List.getElem?_cons_succ, List.getElem?_cons_zero, Option.getD_some]; exact rfl)))
        | ((with_reducible refine h_read (v := ?_) (a' := ?_) ?_ (fun _ hbw => ?_) ?_ ?_); rotate_left; rotate_left; (focus (exact rfl)); (focus (skip; go_simp; (try go_bits); exact rfl)); (focus (simp only [Act.put, List.setIfInBounds_toArray, List.set_cons_succ, List.set_cons_zero, Act.eval, Array.getD_eq_getD_getElem?, List.getElem?_toArray, List.getElem?_cons_succ, List.getElem?_cons_zero, Option.getD_some]; exact rfl)))
    (with_reducible refine h_call ?_ ?_)
    · exact rfl
    go_simp
    refine entersW_of ?_
    refine (refXCrypt_any X boxT backT L s l a gy cy m len cap w10 HBX.out ry hs hm3 hm100 (LL.out.below B10) (by omega)).mono ?_
    rintro e w11 ⟨v11, rfl, o11, d11⟩
    refine ⟨_, rfl, d11, ?_⟩
    try simp only [Act.put, List.setIfInBounds_toArray, List.set_cons_succ, List.set_cons_zero]
    rw [← HC.out] at o11
    obtain ⟨a11, c11, rfl, hr11, _⟩ := o11.rd
    rw [hcl] at hr11 ⊢
    repeat
      first
        | ((with_reducible refine h_pure (v := ?_) (a' := ?_) ?_ (fun _ => ?_) ?_ ?_); rotate_left; rotate_left; (focus (exact rfl)); (focus (go_simp; (try go_bits); exact rfl)); (focus (simp only [Act.put, List.setIfInBounds_toArray, List.set_cons_succ, List.set_cons_zero, Act.eval, Array.getD_eq_getD_getElem?, List.getElem?_toArray, List.getElem?_cons_succ, List.getElem?_cons_zero, Option.getD_some]; exact rfl)))
        | ((with_reducible refine h_obl (v := ?_) (a' := ?_) ?_ (fun _ hcw => ?_) ?_ ?_); rotate_left; rotate_left; (focus (exact rfl)); (focus (skip; go_simp; (try go_bits); exact rfl)); (focus (simp only [Act.put, List.setIfInBounds_toArray, List.set_cons_succ, List.set_cons_zero, Act.eval, Array.getD_eq_getD_getElem?, List.getElem?_toArray, List.getElem?_cons_succ, List.getElem?_cons_zero, Option.getD_some]; exact rfl)))
        | ((with_reducible refine h_read (v := ?_) (a' := ?_) ?_ (fun _ hbw => ?_) ?_ ?_); rotate_left; rotate_left; (focus (exact rfl)); (focus (skip; go_simp; (try go_bits); exact rfl)); (focus (simp only [Act.put, List.setIfInBounds_toArray, List.set_cons_succ, List.set_cons_zero, Act.eval, Array.getD_eq_getD_getElem?, List.getElem?_toArray, List.getElem?_cons_succ, List.getElem?_cons_zero, Option.getD_some]; exact rfl)))
    refine h_tail [] rfl (by simp) (z_nil (hK' _ _ ?_))
    have D11 := D10.trans (d11.mono D10.size)
    have B11 := Lib.hid (B8.out.drew.trans (D11.mono B8.out.drew.size))
    have T11 := Lib.hid (T8.out.below (((Below.refl _ w8).drew).trans D11))
    have R11 := Lib.hid (R8.out.drew.below D11)
    have s1 := run_str (P := Tryd.prog) w11 22 9 5 a11 len c11 c Tryd.underlying22 Tryd.underlying9 Tryd.underlying5 hr11
    have s2 := run_str (P := Tryd.prog) w11 22 9 5 a7 len c7 c Tryd.underlying22 Tryd.underlying9 Tryd.underlying5 R11.out
    clear R0 R1 R2 hC0 hCb hK' hkk d9 d10 D10 B10 d11 D11 o9 hr9 o10 ry o11 hr11 B8 X8 K8 P8 T8 R8
    go_wp2_with fail
    refine (awake13_any _ T11.out).mono ?_
    rintro e w12 ⟨rfl, d12⟩
    go_wp2
    go_ret
    exact ⟨rfl, B11.out.trans (d12.mono B11.out.size)⟩
  · have n1 : (200 : Int) < (len : Int) := by omega
    go_wp2
    go_ret
    exact ⟨rfl, B0.out⟩
end Go.Proofs.YtepijmidafndaaaDoor
