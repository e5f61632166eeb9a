/- the laws of aes: the tables, a key's bytes, awake -/
import Derived.Test.YtepijmidafndaaaDoorAesP
import Derived.Test.YtepijmidafndaaaDoorAes6
import Derived.Test.YtepijmidafndaaaDoorKey
import Derived.Test.YtepijmidafndaaaDoorTail2
import Derived.Test.YtepijmidafndaaaDoorTwo
namespace Go.Proofs.YtepijmidafndaaaDoor
open Go.RowKit
section
variable {P : Program} {ops : Array Oper} {C : World → Prop} {K : Act → World → Prop} {ks : List Nat} {l : List Oper} {a : Act} {w : World}
/-- make([]byte, n) in a region with a tail -/
theorem h_make8 {d : Option Tmp} {x y : Operand} {t ty e : TypeId} {pos : String} {after : Array Edge} {n : Nat} (hx : a.eval x = .int .i64 n) (hy : a.eval y = .int .i64 n) (hn : n ≤ 1000000) (ht : P.underlying t = some (.slice e)) (hi : (P.info? e).map (fun i => (i.zero, i.size, i.bytes)) = some (some (.int .u8 0), 1, 1))
    (h : ∀ w1 ad, Rd8 w1 ad n n (zeros 8 n) → Below w.heap.size w w1 → wpH P ops C K ks l (a.put d (.slice ad n n)) w1) :
    wpH P ops C K (2 :: ks) (⟨d, .makeSlice t x y, ty, pos, after, none⟩ :: l) a w := by
  have hmk := run_make8 (P := P) w t e n n ht hi (by omega) (by omega) (by omega)
  rw [Int.toNat_natCast] at hmk
  have hr : (execOp a.eval ⟨d, .makeSlice t x y, ty, pos, after, none⟩).run P w = .ok (.value (.slice (some ⟨w.heap.size, 0, none⟩) n n)) (w.alloc (.cells (A8 (zeros 8 n)) e)) := by
    simp only [execOp, hx, hy, Sem.run_bind, hmk, Result.andThen_ok, Sem.run_pure]
  have hbel : Below w.heap.size w (w.alloc (.cells (A8 (zeros 8 n)) e)) := (Below.refl _ _).alloc (Nat.le_refl _) _
  have ho := (Own8.made w w.heap.size e (zeros 8 n) n (Nat.le_refl _) (by simp) (by rw [zeros_length]; unfold maxLen; omega)).rdAt
  rw [zeros_length, List.take_of_length_le (by simp)] at ho
  exact h_made rfl hr hbel (h _ _ ho hbel)
end
theorem tables_any (w : World) (hT : Turning w) :
    Calls Tryd.prog 20 #[] w fun e w' => ∃ p, e = .returned (.pointer (some ⟨p, 0, none⟩)) ∧ TabAt w' p ∧ Below w.heap.size w w' := by
  go_enter Tryd.func20, Tryd.ntmps20
  go_wp2_with fail
  refine (gfmake_any _).mono ?_
  rintro e w1 ⟨q, rfl, hq, _, hb⟩
  go_wp2_with fail
  refine (new_any q _ (hT.below hb) hq).mono ?_
  rintro e w2 ⟨p, rfl, hp, _, hb2⟩
  go_wp2
  go_ret
  exact ⟨p, rfl, ⟨q, hp, hq.belowAll hb2⟩, hb.trans (hb2.mono hb.size)⟩
set_option linter.unusedSimpArgs false in
set_option maxRecDepth 100000 in
theorem bytes4_any (K : List (BitVec 8)) (w : World) (hK : K.length = 33) :
    Calls Tryd.prog 35 #[.agg (A8 K)] w fun e w' => ∃ v, e = .returned v ∧ Own8 w' w.heap.size 5 v (keyB K) ∧ Below w.heap.size w w' := by
  obtain ⟨W, hW⟩ : ∃ W, (w.alloc (.cells (A8 K) 58)) = W := ⟨_, rfl⟩
  obtain ⟨b0, hb, hz⟩ := new1 _ _ _ _ hW
  have c1 := b0.cell8 hK 32 (by omega)
  have hn := keyN_or K
  have Q1 := (b0.rd8 33 (by omega) (by rw [hK]; unfold maxLen; omega)).pre (j := keyN K) (by omega)
  rw [List.take_of_length_le (l := K) (by omega)] at Q1
  have Q0 : Rd8 W (some ⟨w.heap.size, 0, none⟩) (keyN K) 32 (K.take (keyN K)) := ⟨Q1.1, by omega, by unfold maxLen; omega, Q1.2.2.2⟩
  have B0 := Lib.hid hb
  have q0 : ((nth K 32 % 3#8).toNat : Int) = ((nth K 32).toNat : Int) % 3 := by rw [BitVec.toNat_umod]; simp
  have n0 : IntKind.i64.wrap (8 * (((nth K 32).toNat : Int) % 3)) = 8 * (((nth K 32).toNat : Int) % 3) := by
    rw [IntKind.wrap_i64]; omega
  have n1 : (16 : Int) + 8 * (((nth K 32).toNat : Int) % 3) = (keyN K : Int) := by unfold keyN; omega
  have n2 : IntKind.i64.wrap (keyN K : Int) = (keyN K : Int) := by rw [IntKind.wrap_i64]; omega
  obtain ⟨N, hN⟩ : ∃ N, N = keyN K := ⟨_, rfl⟩
  rw [← hN] at n1 n2 Q0
  have HN := Lib.hid hN
  have LL := Lib.hid Q0
  rw [← hN] at hn
  have n3 : (0 : Int) ≤ (N : Int) := by omega
  have n4 : (N : Int) ≤ 32 := by omega
  clear b0 hb hz Q0 Q1 hN q0
  go_enter Tryd.func35, Tryd.ntmps35
  go_upto_region 2 with fail
  refine wp_region_plain [2,0,0,0,2,0] rfl (fun ops' K4 hK4 => ?_)
  refine z_build0 (B := w.heap.size) (by have := B0.out.size; omega) Tryd.underlying22 info8 (fun w4 v4 ho4 hb4 => ?_)
  simp only [Act.put, List.setIfInBounds_toArray, List.set_cons_succ, List.set_cons_zero]
  repeat
    first
      | ((with_reducible refine z_move (a' := ?_) ?_ ?_); rotate_left; · (simp only [Act.put, List.setIfInBounds_toArray, List.set_cons_succ, List.set_cons_zero, Act.eval, Array.getD_eq_getD_getElem?, List.getElem?_toArray, List.getElem?_cons_succ, List.getElem?_cons_zero, Option.getD_some]; exact rfl))
      | ((with_reducible refine z_assign (a' := ?_) ?_ ?_); rotate_left; · (simp only [Act.put, List.setIfInBounds_toArray, List.set_cons_succ, List.set_cons_zero, Act.eval, Array.getD_eq_getD_getElem?, List.getElem?_toArray, List.getElem?_cons_succ, List.getElem?_cons_zero, Option.getD_some]; exact rfl))
      | ((with_reducible refine z_obl (v := ?_) (a' := ?_) rfl (fun _ => ?_) ?_ ?_); rotate_left; rotate_left; (focus (go_simp; (try go_bits); exact rfl)); (focus (simp only [Act.put, List.setIfInBounds_toArray, List.set_cons_succ, List.set_cons_zero, Act.eval, Array.getD_eq_getD_getElem?, List.getElem?_toArray, List.getElem?_cons_succ, List.getElem?_cons_zero, Option.getD_some]; exact rfl)))
      | ((with_reducible refine z_read (v := ?_) (a' := ?_) rfl ?_ ?_ ?_); rotate_left; rotate_left; (focus (go_simp; (try go_bits); exact rfl)); (focus (simp only [Act.put, List.setIfInBounds_toArray, List.set_cons_succ, List.set_cons_zero, Act.eval, Array.getD_eq_getD_getElem?, List.getElem?_toArray, List.getElem?_cons_succ, List.getElem?_cons_zero, Option.getD_some]; exact rfl)))
  refine z_append8 ho4 (LL.out.below hb4) rfl rfl Tryd.underlying22 info8 (by simp; omega) (Nat.le_trans B0.out.size hb4.size) (fun w5 v5 o5 g5 b5 => ?_)
  simp only [Act.put, List.setIfInBounds_toArray, List.set_cons_succ, List.set_cons_zero]
  repeat
    first
      | ((with_reducible refine z_move (a' := ?_) ?_ ?_); rotate_left; · (simp only [Act.put, List.setIfInBounds_toArray, List.set_cons_succ, List.set_cons_zero, Act.eval, Array.getD_eq_getD_getElem?, List.getElem?_toArray, List.getElem?_cons_succ, List.getElem?_cons_zero, Option.getD_some]; exact rfl))
      | ((with_reducible refine z_assign (a' := ?_) ?_ ?_); rotate_left; · (simp only [Act.put, List.setIfInBounds_toArray, List.set_cons_succ, List.set_cons_zero, Act.eval, Array.getD_eq_getD_getElem?, List.getElem?_toArray, List.getElem?_cons_succ, List.getElem?_cons_zero, Option.getD_some]; exact rfl))
      | ((with_reducible refine z_obl (v := ?_) (a' := ?_) rfl (fun _ => ?_) ?_ ?_); rotate_left; rotate_left; (focus (go_simp; (try go_bits); exact rfl)); (focus (simp only [Act.put, List.setIfInBounds_toArray, List.set_cons_succ, List.set_cons_zero, Act.eval, Array.getD_eq_getD_getElem?, List.getElem?_toArray, List.getElem?_cons_succ, List.getElem?_cons_zero, Option.getD_some]; exact rfl)))
      | ((with_reducible refine z_read (v := ?_) (a' := ?_) rfl ?_ ?_ ?_); rotate_left; rotate_left; (focus (go_simp; (try go_bits); exact rfl)); (focus (simp only [Act.put, List.setIfInBounds_toArray, List.set_cons_succ, List.set_cons_zero, Act.eval, Array.getD_eq_getD_getElem?, List.getElem?_toArray, List.getElem?_cons_succ, List.getElem?_cons_zero, Option.getD_some]; exact rfl)))
  refine z_nil (hK4 _ _ ?_)
  rw [List.nil_append] at o5
  have B5 := (B0.out.trans (hb4.mono B0.out.size)).trans b5
  clear hK4 ho4 hb4 g5 b5
  go_wp2
  go_ret
  exact ⟨_, rfl, by rw [keyB, ← HN.out]; exact o5, B5⟩
set_option linter.unusedSimpArgs false in
set_option maxRecDepth 100000 in
set_option maxHeartbeats 800000 in
theorem awake4_any (w : World) (hT : Turning w) :
    Calls Tryd.prog 24 #[] w fun e w' => e = .returned (.bool true) ∧ Below w.heap.size w w' := by
  have T0 := Lib.hid hT
  have D0 := (Below.refl w.heap.size w).drew
  clear hT
  go_enter Tryd.func24, Tryd.ntmps24
  go_upto_region 1 with fail
  go_cut [1, 2] from 4 to 9 (fun s1 s2 wx => ∃ k p : Nat, s1 = .pointer (some ⟨k, 0, none⟩) ∧ s2 = .int .i64 0 ∧ KeyAt wx k p 11 (sch 4 (zeros 8 16) 40) ∧ Below w.heap.size w wx)
  case first =>
    refine wp_region_two [] [] [2,0,0,0,0,0] rfl (by kernel_rfl) (by kernel_rfl) (fun C hC0 hCb K' hK' => ⟨?_, ?_⟩)
    · (with_reducible refine h_call ?_ ?_)
      · exact rfl
      go_simp
      refine entersW_of ?_
      refine (tables_any w.drew T0.out).mono ?_
      rintro e w1 ⟨p, rfl, t1, b1⟩
      refine ⟨_, rfl, b1, ?_⟩
      try simp only [Act.put, List.setIfInBounds_toArray, List.set_cons_succ, List.set_cons_zero]
      refine h_make8 (n := 16) rfl rfl (by omega) Tryd.underlying22 info8 (fun w2 ad r2 b2 => ?_)
      simp only [Act.put, List.setIfInBounds_toArray, List.set_cons_succ, List.set_cons_zero]
      (with_reducible refine h_call ?_ ?_)
      · exact rfl
      go_simp
      refine entersW_of ?_
      refine (expand_yes p (zeros 8 16) ad 16 16 w2 (t1.below b2) r2 (by omega)).mono ?_
      rintro e w3 ⟨k, rfl, k3, _, b3⟩
      refine ⟨_, rfl, b3, ?_⟩
      try simp only [Act.put, List.setIfInBounds_toArray, List.set_cons_succ, List.set_cons_zero]
      repeat
        first
          | ((with_reducible refine h_pure (v := ?_) (a' := ?_) ?_ (fun _ => ?_) ?_ ?_); rotate_left; rotate_left; (focus (exact rfl)); (focus (go_simp; (try go_bits); exact rfl)); (focus (simp only [Act.put, List.setIfInBounds_toArray, List.set_cons_succ, List.set_cons_zero, Act.eval, Array.getD_eq_getD_getElem?, List.getElem?_toArray, List.getElem?_cons_succ, List.getElem?_cons_zero, Option.getD_some]; exact rfl)))
          | ((with_reducible refine h_obl (v := ?_) (a' := ?_) ?_ (fun _ hcw => ?_) ?_ ?_); rotate_left; rotate_left; (focus (exact rfl)); (focus (skip; go_simp; (try go_bits); exact rfl)); (focus (simp only [Act.put, List.setIfInBounds_toArray, List.set_cons_succ, List.set_cons_zero, Act.eval, Array.getD_eq_getD_getElem?, List.getElem?_toArray, List.getElem?_cons_succ, List.getElem?_cons_zero, Option.getD_some]; exact rfl)))
          | ((with_reducible refine h_read (v := ?_) (a' := ?_) ?_ (fun _ hbw => ?_) ?_ ?_); rotate_left; rotate_left; (focus (exact rfl)); (focus (skip; go_simp; (try go_bits); exact rfl)); (focus (simp only [Act.put, List.setIfInBounds_toArray, List.set_cons_succ, List.set_cons_zero, Act.eval, Array.getD_eq_getD_getElem?, List.getElem?_toArray, List.getElem?_cons_succ, List.getElem?_cons_zero, Option.getD_some]; exact rfl)))
      refine h_tail [] rfl (by simp) (z_nil (hK' _ _ ?_))
      go_wp2
      go_meet
      exact ⟨k, p, rfl, rfl, k3, D0.trans (b1.trans ((b2.trans (b3.mono b2.size)).mono b1.size))⟩
    · refine h_make8 (n := 16) rfl rfl (by omega) Tryd.underlying22 info8 (fun w2 ad r2 b2 => ?_)
      simp only [Act.put, List.setIfInBounds_toArray, List.set_cons_succ, List.set_cons_zero]
      (with_reducible refine h_call ?_ ?_)
      · exact rfl
      go_simp
      refine entersW_of ?_
      refine (tables_any w2 (T0.out.below (D0.trans b2))).mono ?_
      rintro e w1 ⟨p, rfl, t1, b1⟩
      refine ⟨_, rfl, b1, ?_⟩
      try simp only [Act.put, List.setIfInBounds_toArray, List.set_cons_succ, List.set_cons_zero]
      (with_reducible refine h_call ?_ ?_)
      · exact rfl
      go_simp
      refine entersW_of ?_
      refine (expand_yes p (zeros 8 16) ad 16 16 w1 t1 (r2.below b1) (by omega)).mono ?_
      rintro e w3 ⟨k, rfl, k3, _, b3⟩
      refine ⟨_, rfl, b3, ?_⟩
      try simp only [Act.put, List.setIfInBounds_toArray, List.set_cons_succ, List.set_cons_zero]
      repeat
        first
          | ((with_reducible refine h_pure (v := ?_) (a' := ?_) ?_ (fun _ => ?_) ?_ ?_); rotate_left; rotate_left; (focus (exact rfl)); (focus (go_simp; (try go_bits); exact rfl)); (focus (simp only [Act.put, List.setIfInBounds_toArray, List.set_cons_succ, List.set_cons_zero, Act.eval, Array.getD_eq_getD_getElem?, List.getElem?_toArray, List.getElem?_cons_succ, List.getElem?_cons_zero, Option.getD_some]; exact rfl)))
          | ((with_reducible refine h_obl (v := ?_) (a' := ?_) ?_ (fun _ hcw => ?_) ?_ ?_); rotate_left; rotate_left; (focus (exact rfl)); (focus (skip; go_simp; (try go_bits); exact rfl)); (focus (simp only [Act.put, List.setIfInBounds_toArray, List.set_cons_succ, List.set_cons_zero, Act.eval, Array.getD_eq_getD_getElem?, List.getElem?_toArray, List.getElem?_cons_succ, List.getElem?_cons_zero, Option.getD_some]; exact rfl)))
          | ((with_reducible refine h_read (v := ?_) (a' := ?_) ?_ (fun _ hbw => ?_) ?_ ?_); rotate_left; rotate_left; (focus (exact rfl)); (focus (skip; go_simp; (try go_bits); exact rfl)); (focus (simp only [Act.put, List.setIfInBounds_toArray, List.set_cons_succ, List.set_cons_zero, Act.eval, Array.getD_eq_getD_getElem?, List.getElem?_toArray, List.getElem?_cons_succ, List.getElem?_cons_zero, Option.getD_some]; exact rfl)))
      refine h_tail [] rfl (by simp) (z_nil (hK' _ _ ?_))
      go_wp2
      go_meet
      exact ⟨k, p, rfl, rfl, k3, D0.trans (b2.trans ((b1.trans (b3.mono b1.size)).mono b2.size))⟩
  case rest =>
    obtain ⟨k, p, rfl, rfl, hk, hb⟩ := hcut
    have K1 := Lib.hid hk
    have B1 := Lib.hid hb
    clear hk hb
    go_wp2_with fail
    refine (encrypt_any k p 11 _ (zeros 8 16) _ K1.out rfl (by omega) (by omega)).mono ?_
    rintro e w3 ⟨rfl, b3⟩
    obtain ⟨E, hE⟩ : ∃ E, E = encS (sch 4 (zeros 8 16) 40) 11 (zeros 8 16) := ⟨_, rfl⟩
    have hEl : E.length = 16 := by rw [hE]; exact encS_length _ _ _
    have hA := awake_block
    rw [← hE] at hA ⊢
    simp only [Prod.mk.injEq] at hA
    obtain ⟨a0, a1, a2⟩ := hA
    have K3 := Lib.hid ((K1.out.below b3).below ((Below.refl w3.heap.size w3).alloc (Nat.le_refl _) (.cells (A8 E) 31)))
    have P3 := Blk.new w3 31 (A8 E)
    have d3 := B1.out.trans (b3.mono B1.out.size)
    have B3 := Lib.hid (d3.alloc d3.size (.cells (A8 E) 31))
    have c0 := P3.cell8 hEl 0 (by omega)
    have c1 := P3.cell8 hEl 1 (by omega)
    have c2 := P3.cell8 hEl 15 (by omega)
    rw [a0] at c0
    rw [a1] at c1
    rw [a2] at c2
    clear hE P3 d3 a0 a1 a2 b3 K1 B1
    go_upto_region 3 with fail
    generalize w3.alloc (.cells (A8 E) 31) = W3 at *
    generalize w3.heap.size = pE at *
    go_wp2_with fail
    refine (krounds_any k p 11 _ W3 K3.out).mono ?_
    rintro e w4 ⟨rfl, rfl⟩
    go_wp2
    go_ret
    exact ⟨rfl, B3.out⟩
end Go.Proofs.YtepijmidafndaaaDoor
