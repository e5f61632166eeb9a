/- the laws of xctr: a key's bytes, a key's rounds, awake -/
import Derived.Test.YtepijmidafndaaaDoorLawK
import Derived.Test.YtepijmidafndaaaDoorXctr2
namespace Go.Proofs.YtepijmidafndaaaDoor
open Go.RowKit
set_option linter.unusedSimpArgs false in
set_option maxRecDepth 100000 in
theorem bytes13_any (K : List (BitVec 8)) (w : World) (hK : K.length = 33) :
    Calls Tryd.prog 28 #[.agg (A8 K)] w fun e w' => ∃ v, e = .returned v ∧ Own8 w' w.heap.size 5 v (keyB K) ∧ Below w.heap.size w w' := by
  obtain ⟨W, hW⟩ : ∃ W, (w.alloc (.cells (A8 K) 43)) = W := ⟨_, rfl⟩
  obtain ⟨b0, hb, hz⟩ := new1 _ _ _ _ hW
  have c1 := b0.cell8 hK 32 (by omega)
  have hn := keyN_or K
  have Q1 := (b0.rd8 33 (by omega) (by rw [hK]; unfold maxLen; omega)).pre (j := keyN K) (by omega)
  rw [List.take_of_length_le (l := K) (by omega)] at Q1
  have Q0 : Rd8 W (some ⟨w.heap.size, 0, none⟩) (keyN K) 32 (K.take (keyN K)) := ⟨Q1.1, by omega, by unfold maxLen; omega, Q1.2.2.2⟩
  have B0 := Lib.hid hb
  have q0 : ((nth K 32 % 3#8).toNat : Int) = ((nth K 32).toNat : Int) % 3 := by rw [BitVec.toNat_umod]; simp
  have n0 : IntKind.i64.wrap (8 * (((nth K 32).toNat : Int) % 3)) = 8 * (((nth K 32).toNat : Int) % 3) := by
    rw [IntKind.wrap_i64]; omega
  have n1 : (16 : Int) + 8 * (((nth K 32).toNat : Int) % 3) = (keyN K : Int) := by unfold keyN; omega
  have n2 : IntKind.i64.wrap (keyN K : Int) = (keyN K : Int) := by rw [IntKind.wrap_i64]; omega
  obtain ⟨N, hN⟩ : ∃ N, N = keyN K := ⟨_, rfl⟩
  rw [← hN] at n1 n2 Q0
  have HN := Lib.hid hN
  have LL := Lib.hid Q0
  rw [← hN] at hn
  have n3 : (0 : Int) ≤ (N : Int) := by omega
  have n4 : (N : Int) ≤ 32 := by omega
  clear b0 hb hz Q0 Q1 hN q0
  go_enter Tryd.func28, Tryd.ntmps28
  go_upto_region 2 with fail
  refine wp_region_plain [2,0,0,0,2,0] rfl (fun ops' K4 hK4 => ?_)
  refine z_build0 (B := w.heap.size) (by have := B0.out.size; omega) Tryd.underlying22 info8 (fun w4 v4 ho4 hb4 => ?_)
  simp only [Act.put, List.setIfInBounds_toArray, List.set_cons_succ, List.set_cons_zero]
  repeat
    first
      | ((with_reducible refine z_move (a' := ?_) ?_ ?_); rotate_left; · (simp only [Act.put, List.setIfInBounds_toArray, List.set_cons_succ, List.set_cons_zero, Act.eval, Array.getD_eq_getD_getElem?, List.getElem?_toArray, List.getElem?_cons_succ, List.getElem?_cons_zero, Option.getD_some]; exact rfl))
      | ((with_reducible refine z_assign (a' := ?_) ?_ ?_); rotate_left; · (simp only [Act.put, List.setIfInBounds_toArray, List.set_cons_succ, List.set_cons_zero, Act.eval, Array.getD_eq_getD_getElem?, List.getElem?_toArray, List.getElem?_cons_succ, List.getElem?_cons_zero, Option.getD_some]; exact rfl))
      | ((with_reducible refine z_obl (v := ?_) (a' := ?_) rfl (fun _ => ?_) ?_ ?_); rotate_left; rotate_left; (focus (go_simp; (try go_bits); exact rfl)); (focus (simp only [Act.put, List.setIfInBounds_toArray, List.set_cons_succ, List.set_cons_zero, Act.eval, Array.getD_eq_getD_getElem?, List.getElem?_toArray, List.getElem?_cons_succ, List.getElem?_cons_zero, Option.getD_some]; exact rfl)))
      | ((with_reducible refine z_read (v := ?_) (a' := ?_) rfl ?_ ?_ ?_); rotate_left; rotate_left; (focus (go_simp; (try go_bits); exact rfl)); (focus (simp only [Act.put, List.setIfInBounds_toArray, List.set_cons_succ, List.set_cons_zero, Act.eval, Array.getD_eq_getD_getElem?, List.getElem?_toArray, List.getElem?_cons_succ, List.getElem?_cons_zero, Option.getD_some]; exact rfl)))
  refine z_append8 ho4 (LL.out.below hb4) rfl rfl Tryd.underlying22 info8 (by simp; omega) (Nat.le_trans B0.out.size hb4.size) (fun w5 v5 o5 g5 b5 => ?_)
  simp only [Act.put, List.setIfInBounds_toArray, List.set_cons_succ, List.set_cons_zero]
  repeat
    first
      | ((with_reducible refine z_move (a' := ?_) ?_ ?_); rotate_left; · (simp only [Act.put, List.setIfInBounds_toArray, List.set_cons_succ, List.set_cons_zero, Act.eval, Array.getD_eq_getD_getElem?, List.getElem?_toArray, List.getElem?_cons_succ, List.getElem?_cons_zero, Option.getD_some]; exact rfl))
      | ((with_reducible refine z_assign (a' := ?_) ?_ ?_); rotate_left; · (simp only [Act.put, List.setIfInBounds_toArray, List.set_cons_succ, List.set_cons_zero, Act.eval, Array.getD_eq_getD_getElem?, List.getElem?_toArray, List.getElem?_cons_succ, List.getElem?_cons_zero, Option.getD_some]; exact rfl))
      | ((with_reducible refine z_obl (v := ?_) (a' := ?_) rfl (fun _ => ?_) ?_ ?_); rotate_left; rotate_left; (focus (go_simp; (try go_bits); exact rfl)); (focus (simp only [Act.put, List.setIfInBounds_toArray, List.set_cons_succ, List.set_cons_zero, Act.eval, Array.getD_eq_getD_getElem?, List.getElem?_toArray, List.getElem?_cons_succ, List.getElem?_cons_zero, Option.getD_some]; exact rfl)))
      | ((with_reducible refine z_read (v := ?_) (a' := ?_) rfl ?_ ?_ ?_); rotate_left; rotate_left; (focus (go_simp; (try go_bits); exact rfl)); (focus (simp only [Act.put, List.setIfInBounds_toArray, List.set_cons_succ, List.set_cons_zero, Act.eval, Array.getD_eq_getD_getElem?, List.getElem?_toArray, List.getElem?_cons_succ, List.getElem?_cons_zero, Option.getD_some]; exact rfl)))
  refine z_nil (hK4 _ _ ?_)
  rw [List.nil_append] at o5
  have B5 := (B0.out.trans (hb4.mono B0.out.size)).trans b5
  clear hK4 ho4 hb4 g5 b5
  go_wp2
  go_ret
  exact ⟨_, rfl, by rw [keyB, ← HN.out]; exact o5, B5⟩
set_option linter.unusedSimpArgs false in
set_option maxRecDepth 100000 in
theorem key13_any (K : List (BitVec 8)) (w : World) (hK : K.length = 33) (hT : Turning w) :
    Calls Tryd.prog 30 #[.agg (A8 K)] w fun e w' => ∃ k p, e = .returned (.pointer (some ⟨k, 0, none⟩)) ∧ KeyAt w' k p (mK K) (LK K) ∧ Below w.heap.size w w' := by
  obtain ⟨W, hW⟩ : ∃ W, (w.alloc (.cells (A8 K) 43)) = W := ⟨_, rfl⟩
  obtain ⟨b0, hb, hz⟩ := new1 _ _ _ _ hW
  have K0 := Lib.hid b0
  have B0 := Lib.hid hb
  have T0 := Lib.hid (hT.below hb)
  clear b0 hb hz hT
  go_enter Tryd.func30, Tryd.ntmps30
  go_upto_region 1 with fail
  clear hW
  refine wp_region_tail [2,2,5,2,2,0,0,0,0,0] (by kernel_rfl) (by kernel_rfl) (fun C hC0 hCb K' hK' => ?_)
  have R0 : ∀ w1, C w1 → rowAt w1 w.heap.size = A8 K := fun w1 h => (K0.out.drew.belowAll (hCb w1 h)).row
  (with_reducible refine h_call ?_ ?_)
  · exact rfl
  go_simp
  refine entersW_of ?_
  refine (gfmake_any W.drew).mono ?_
  rintro e w0 ⟨q, rfl, q0, _, d0⟩
  refine ⟨_, rfl, d0, ?_⟩
  try simp only [Act.put, List.setIfInBounds_toArray, List.set_cons_succ, List.set_cons_zero]
  (with_reducible refine h_call ?_ ?_)
  · exact rfl
  go_simp
  refine entersW_of ?_
  refine (new_any q w0 (T0.out.below (((Below.refl _ W).drew).trans d0)) q0).mono ?_
  rintro e w1 ⟨p, rfl, p1, _, d1⟩
  refine ⟨_, rfl, d1, ?_⟩
  try simp only [Act.put, List.setIfInBounds_toArray, List.set_cons_succ, List.set_cons_zero]
  repeat
    first
      | ((with_reducible refine h_pure (v := ?_) (a' := ?_) ?_ (fun _ => ?_) ?_ ?_); rotate_left; rotate_left; (focus (exact rfl)); (focus (go_simp; (try go_bits); exact rfl)); (focus (simp only [Act.put, List.setIfInBounds_toArray, List.set_cons_succ, List.set_cons_zero, Act.eval, Array.getD_eq_getD_getElem?, List.getElem?_toArray, List.getElem?_cons_succ, List.getElem?_cons_zero, Option.getD_some]; exact rfl)))
      | ((with_reducible refine h_obl (v := ?_) (a' := ?_) ?_ (fun _ hcw => ?_) ?_ ?_); rotate_left; rotate_left; (focus (exact rfl)); (focus (have f := R0 _ hcw; go_simp; (try go_bits); exact rfl)); (focus (simp only [Act.put, List.setIfInBounds_toArray, List.set_cons_succ, List.set_cons_zero, Act.eval, Array.getD_eq_getD_getElem?, List.getElem?_toArray, List.getElem?_cons_succ, List.getElem?_cons_zero, Option.getD_some]; exact rfl)))
      | ((with_reducible refine h_read (v := ?_) (a' := ?_) ?_ (fun _ hbw => ?_) ?_ ?_); rotate_left; rotate_left; (focus (exact rfl)); (focus (skip; go_simp; (try go_bits); exact rfl)); (focus (simp only [Act.put, List.setIfInBounds_toArray, List.set_cons_succ, List.set_cons_zero, Act.eval, Array.getD_eq_getD_getElem?, List.getElem?_toArray, List.getElem?_cons_succ, List.getElem?_cons_zero, Option.getD_some]; exact rfl)))
  (with_reducible refine h_call ?_ ?_)
  · exact rfl
  go_simp
  refine entersW_of ?_
  refine (bytes13_any K w1 hK).mono ?_
  rintro e w2 ⟨v2, rfl, o2, d2⟩
  refine ⟨_, rfl, d2, ?_⟩
  try simp only [Act.put, List.setIfInBounds_toArray, List.set_cons_succ, List.set_cons_zero]
  obtain ⟨a2, c2, rfl, hr2, _⟩ := o2.rd
  rw [keyB_length K hK] at hr2 ⊢
  have t1 : TabAt w1 p := ⟨q, p1, q0.belowAll d1⟩
  (with_reducible refine h_call ?_ ?_)
  · exact rfl
  go_simp
  refine entersW_of ?_
  refine (expandK_any p K a2 c2 w2 (t1.below d2) hr2).mono ?_
  rintro e w3 ⟨k, rfl, k3, d3⟩
  refine ⟨_, rfl, d3, ?_⟩
  try simp only [Act.put, List.setIfInBounds_toArray, List.set_cons_succ, List.set_cons_zero]
  repeat
    first
      | ((with_reducible refine h_pure (v := ?_) (a' := ?_) ?_ (fun _ => ?_) ?_ ?_); rotate_left; rotate_left; (focus (exact rfl)); (focus (go_simp; (try go_bits); exact rfl)); (focus (simp only [Act.put, List.setIfInBounds_toArray, List.set_cons_succ, List.set_cons_zero, Act.eval, Array.getD_eq_getD_getElem?, List.getElem?_toArray, List.getElem?_cons_succ, List.getElem?_cons_zero, Option.getD_some]; exact rfl)))
      | ((with_reducible refine h_obl (v := ?_) (a' := ?_) ?_ (fun _ hcw => ?_) ?_ ?_); rotate_left; rotate_left; (focus (exact rfl)); (focus (skip; go_simp; (try go_bits); exact rfl)); (focus (simp only [Act.put, List.setIfInBounds_toArray, List.set_cons_succ, List.set_cons_zero, Act.eval, Array.getD_eq_getD_getElem?, List.getElem?_toArray, List.getElem?_cons_succ, List.getElem?_cons_zero, Option.getD_some]; exact rfl)))
      | ((with_reducible refine h_read (v := ?_) (a' := ?_) ?_ (fun _ hbw => ?_) ?_ ?_); rotate_left; rotate_left; (focus (exact rfl)); (focus (skip; go_simp; (try go_bits); exact rfl)); (focus (simp only [Act.put, List.setIfInBounds_toArray, List.set_cons_succ, List.set_cons_zero, Act.eval, Array.getD_eq_getD_getElem?, List.getElem?_toArray, List.getElem?_cons_succ, List.getElem?_cons_zero, Option.getD_some]; exact rfl)))
  refine h_tail [] rfl (by simp) (z_nil (hK' _ _ ?_))
  have D3 := d0.trans ((d1.trans ((d2.trans (d3.mono d2.size)).mono d1.size)).mono d0.size)
  have B3 := B0.out.drew.trans (D3.mono B0.out.size)
  clear R0 hC0 hCb hK' d0 d1 d2 d3 D3 o2 hr2
  go_wp2
  go_ret
  exact ⟨k, p, rfl, k3, B3⟩
def one16 : List (BitVec 8) := 1#8 :: zeros 8 15
@[go_sem ↓ high] theorem build_key13 (w : World) : (Instr.build 43 #[]).run Tryd.prog w = .ok (.agg (A8 (zeros 8 33))) w := by kernel_rfl
@[go_sem ↓ high] theorem build_one16 (w : World) : (Instr.build 31 #[(0, .int .u8 1)]).run Tryd.prog w = .ok (.agg (A8 one16)) w := by kernel_rfl
theorem awake_key : mK (zeros 8 33) = 11 ∧ LK (zeros 8 33) = sch 4 (zeros 8 16) 40 ∧ xctS one16 1#64 = zeros 8 16 := by
  refine ⟨by kernel_rfl, ?_, by kernel_rfl⟩
  unfold LK
  rw [show keyN (zeros 8 33) = 16 by kernel_rfl, show keyB (zeros 8 33) = zeros 8 16 by kernel_rfl]
theorem awake_block13 : (fun b : List (BitVec 8) => (nth b 0, nth b 1, nth b 15)) (xblock (LK (zeros 8 33)) (mK (zeros 8 33)) one16 1#64) = (102#8, 233#8, 46#8) := by
  obtain ⟨h1, h2, h3⟩ := awake_key
  rw [h1, h2, xblock, h3]; exact awake_block
set_option linter.unusedSimpArgs false in
set_option maxRecDepth 100000 in
set_option maxHeartbeats 800000 in
theorem awake13_any (w : World) (hT : Turning w) :
    Calls Tryd.prog 31 #[] w fun e w' => e = .returned (.bool true) ∧ Below w.heap.size w w' := by
  have T0 := Lib.hid hT
  clear hT
  go_enter Tryd.func31, Tryd.ntmps31
  go_wp2_with fail
  refine (key13_any _ _ rfl T0.out).mono ?_
  rintro e w1 ⟨k, p, rfl, k1, d1⟩
  go_wp2_with fail
  refine (xblock_any k p _ _ one16 1#64 w1 k1 rfl (by have := mK_bounds (zeros 8 33); omega) (by have := mK_bounds (zeros 8 33); omega)).mono ?_
  rintro e w3 ⟨rfl, b3⟩
  obtain ⟨E, hE⟩ : ∃ E, E = xblock (LK (zeros 8 33)) (mK (zeros 8 33)) one16 1#64 := ⟨_, rfl⟩
  have hEl : E.length = 16 := by rw [hE]; exact xblock_length _ _ _ _
  have hA := awake_block13
  rw [← hE] at hA ⊢
  simp only [Prod.mk.injEq] at hA
  obtain ⟨a0, a1, a2⟩ := hA
  have P3 := Blk.new w3 31 (A8 E)
  have d3 := d1.trans (b3.mono d1.size)
  have B3 := Lib.hid (d3.alloc d3.size (.cells (A8 E) 31))
  have c0 := P3.cell8 hEl 0 (by omega)
  have c1 := P3.cell8 hEl 1 (by omega)
  have c2 := P3.cell8 hEl 15 (by omega)
  rw [a0] at c0
  rw [a1] at c1
  rw [a2] at c2
  clear hE P3 d3 a0 a1 a2 b3 k1 d1
  go_upto_region 2 with fail
  generalize w3.alloc (.cells (A8 E) 31) = W3 at *
  generalize w3.heap.size = pE at *
  go_wp2
  go_ret
  exact ⟨rfl, B3.out⟩
end Go.Proofs.YtepijmidafndaaaDoor
