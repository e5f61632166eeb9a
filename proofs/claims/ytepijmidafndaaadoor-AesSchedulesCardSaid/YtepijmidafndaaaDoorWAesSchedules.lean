/- AesSchedules: the walk -/
import Derived.Test.YtepijmidafndaaaDoorLaw4
import Derived.Test.YtepijmidafndaaaDoorEq
import Derived.Test.YtepijmidafndaaaDoorRg5
import Derived.Test.YtepijmidafndaaaDoorRg9
namespace Go.Proofs.YtepijmidafndaaaDoor
open Go.RowKit
set_option linter.unusedSimpArgs false in
set_option maxRecDepth 100000 in
set_option maxHeartbeats 1600000 in
theorem AesSchedules_walk (a : Option Addr) (n c : Nat) (key : List (BitVec 8)) (i : Int) (w : World) (hr : Rd8 w a n c key) (_hi : (Lit.int .i64 i).wf = true) (hT : Turning w) :
    Calls Tryd.prog 3 #[.slice a n c, .int .i64 i] w fun e w' => e = .returned (.bool true) ∧ Below w.heap.size w w' := by
  have R0 := Lib.hid hr
  have T0 := Lib.hid hT
  clear hr hT
  go_enter Tryd.func3, Tryd.ntmps3
  by_cases hn : n ≤ 64
  · have n1 : ¬ (64 : Int) < (n : Int) := by omega
    go_wp2_with fail
    refine (expand_nil _ w).mono ?_
    rintro e w1 ⟨rfl, rfl⟩
    go_wp2_with fail
    refine (tables_any w T0.out).mono ?_
    rintro e w1 ⟨p, rfl, t1, d1⟩
    by_cases h3 : n = 16 ∨ n = 24 ∨ n = 32
    · go_wp2_with fail
      refine (expand_yes p key a n c w1 t1 (R0.out.below d1) h3).mono ?_
      rintro e w2 ⟨k, rfl, k2, _, d2⟩
      have D2 := d1.trans (d2.mono d1.size)
      obtain ⟨m, hm⟩ : ∃ m, m = n / 4 + 7 := ⟨_, rfl⟩
      obtain ⟨L, hL⟩ : ∃ L, L = sch (n / 4) key (3 * (n / 4) + 28) := ⟨_, rfl⟩
      rw [← hm, ← hL] at k2
      have HM := Lib.hid hm
      have HL := Lib.hid hL
      have K2 := Lib.hid k2
      have B2 := Lib.hid D2
      have hm3 : 3 ≤ m := by omega
      have hm100 : m ≤ 100 := by omega
      clear t1 d1 d2 D2 hm hL k2
      go_wp2_with fail
      refine (refRight_yes n w2 h3).mono ?_
      rintro e w3 ⟨rfl, rfl⟩
      go_wp2_with fail
      refine (refMake_any w2).mono ?_
      rintro e w4 ⟨rfl, d4⟩
      obtain ⟨X, hX⟩ : ∃ X, X = boxesL := ⟨_, rfl⟩
      rw [← hX]
      have HX := Lib.hid hX
      clear hX
      go_wp2_with fail
      have B4 := B2.out.trans (d4.mono B2.out.size)
      have hkk := refKeys_any key a n c w4 (R0.out.below B4) h3
      rw [← HX.out, ← HM.out, ← HL.out] at hkk
      refine hkk.mono ?_
      rintro e w5 ⟨v5, rfl, o5, d5⟩
      obtain ⟨g5, c5, rfl, hg5, _, _, _⟩ := o5.form (by omega)
      have R5 := Lib.hid o5.rdAt
      have D5 := d4.trans (d5.mono d4.size)
      have K5 := Lib.hid (K2.out.below D5)
      have B5 := Lib.hid (B2.out.trans (D5.mono B2.out.size))
      have hLl := o5.rdAt.1
      have HLL := Lib.hid hLl
      clear hkk B4 o5 d4 d5 D5 K2 B2 hLl
      obtain ⟨M, hM⟩ : ∃ M, M = m - 1 := ⟨_, rfl⟩
      have m1 : (m : Int) - 1 = (M : Int) := by omega
      have m2 : IntKind.i64.wrap (M : Int) = (M : Int) := by rw [IntKind.wrap_i64]; omega
      clear hM
      go_wp2_with fail
      refine (krounds_any k p m L w5 K5.out).mono ?_
      rintro e w6 ⟨rfl, rfl⟩
      go_wp2_with fail
      go_loopw [10] (fun s10 wr => ∃ j : Nat, j ≤ m ∧ s10 = .int .i64 j ∧ Below w5.heap.size w5 wr) (fun s10 _ => m - (intOf s10).toNat)
      case atStart => exact ⟨0, by omega, rfl, Below.refl _ _⟩
      case round =>
        obtain ⟨j, hj, rfl, hB⟩ := hrel
        have E1 := Lib.hid hB
        clear hB
        by_cases hjm : j < m
        · have j1 : (j : Int) < (m : Int) := by omega
          have j0 : (0 : Int) ≤ (j : Int) := by omega
          obtain ⟨ke, hke⟩ : ∃ ke, ke = keyAt L j := ⟨_, rfl⟩
          have hkel : ke.length = 16 := by rw [hke]; exact keyAt_length L m _ HLL.out hjm
          have HKE := Lib.hid hke
          clear hke
          go_upto_region 15 with fail
          refine wp_region_tail [0,0,2,0,0,0,5,0] (by kernel_rfl) (by kernel_rfl) (fun C hC0 hCb K' hK' => ?_)
          have q2 : ∀ w1, C w1 → (getAt 31 (.pointer (some ⟨g5, j * 16, none⟩))).run Tryd.prog w1 = .ok (.agg (A8 ke)) w1 := fun w1 h => by
            have c3 := ((R5.out.below E1.out).drew.below (hCb w1 h)).row (t := 31) (Tryd.isAgg31 _) (Tryd.sizeOf31 _) j (by omega)
            rw [Nat.zero_add] at c3
            rw [HKE.out]; exact c3
          repeat
            first
              | ((with_reducible refine h_pure (v := ?_) (a' := ?_) ?_ (fun _ => ?_) ?_ ?_); rotate_left; rotate_left; (focus (exact rfl)); (focus (go_simp; (try go_bits); exact rfl)); (focus (simp only [Act.put, List.setIfInBounds_toArray, List.set_cons_succ, List.set_cons_zero, Act.eval, Array.getD_eq_getD_getElem?, List.getElem?_toArray, List.getElem?_cons_succ, List.getElem?_cons_zero, Option.getD_some]; exact rfl)))
              | ((with_reducible refine h_obl (v := ?_) (a' := ?_) ?_ (fun _ hcw => ?_) ?_ ?_); rotate_left; rotate_left; (focus (exact rfl)); (focus (have f := q2 _ hcw; go_simp; (try go_bits); exact rfl)); (focus (simp only [Act.put, List.setIfInBounds_toArray, List.set_cons_succ, List.set_cons_zero, Act.eval, Array.getD_eq_getD_getElem?, List.getElem?_toArray, List.getElem?_cons_succ, List.getElem?_cons_zero, Option.getD_some]; exact rfl)))
              | ((with_reducible refine h_read (v := ?_) (a' := ?_) ?_ (fun _ hbw => ?_) ?_ ?_); rotate_left; rotate_left; (focus (exact rfl)); (focus (skip; go_simp; (try go_bits); exact rfl)); (focus (simp only [Act.put, List.setIfInBounds_toArray, List.set_cons_succ, List.set_cons_zero, Act.eval, Array.getD_eq_getD_getElem?, List.getElem?_toArray, List.getElem?_cons_succ, List.getElem?_cons_zero, Option.getD_some]; exact rfl)))
          (with_reducible refine h_call ?_ ?_)
          · exact rfl
          go_simp
          refine entersW_of ?_
          refine (kat_in k p m L j wr.drew (K5.out.below E1.out).drew hjm).mono ?_
          rintro e w7 ⟨rfl, d7⟩
          refine ⟨_, rfl, d7, ?_⟩
          try simp only [Act.put, List.setIfInBounds_toArray, List.set_cons_succ, List.set_cons_zero]
          rw [← HKE.out]
          repeat
            first
              | ((with_reducible refine h_pure (v := ?_) (a' := ?_) ?_ (fun _ => ?_) ?_ ?_); rotate_left; rotate_left; (focus (exact rfl)); (focus (go_simp; (try go_bits); exact rfl)); (focus (simp only [Act.put, List.setIfInBounds_toArray, List.set_cons_succ, List.set_cons_zero, Act.eval, Array.getD_eq_getD_getElem?, List.getElem?_toArray, List.getElem?_cons_succ, List.getElem?_cons_zero, Option.getD_some]; exact rfl)))
              | ((with_reducible refine h_obl (v := ?_) (a' := ?_) ?_ (fun _ hcw => ?_) ?_ ?_); rotate_left; rotate_left; (focus (exact rfl)); (focus (have f := q2 _ hcw; go_simp; (try go_bits); exact rfl)); (focus (simp only [Act.put, List.setIfInBounds_toArray, List.set_cons_succ, List.set_cons_zero, Act.eval, Array.getD_eq_getD_getElem?, List.getElem?_toArray, List.getElem?_cons_succ, List.getElem?_cons_zero, Option.getD_some]; exact rfl)))
              | ((with_reducible refine h_read (v := ?_) (a' := ?_) ?_ (fun _ hbw => ?_) ?_ ?_); rotate_left; rotate_left; (focus (exact rfl)); (focus (skip; go_simp; (try go_bits); exact rfl)); (focus (simp only [Act.put, List.setIfInBounds_toArray, List.set_cons_succ, List.set_cons_zero, Act.eval, Array.getD_eq_getD_getElem?, List.getElem?_toArray, List.getElem?_cons_succ, List.getElem?_cons_zero, Option.getD_some]; exact rfl)))
          refine h_tail [] rfl (by simp) (z_nil (hK' _ _ ?_))
          have E7 := Lib.hid (E1.out.drew.trans (d7.mono E1.out.drew.size))
          clear q2 hC0 hCb hK' d7
          go_wp2
          exact ⟨⟨j + 1, by omega, by go_num, E7.out⟩, by simp [intOf]; omega⟩
        · obtain rfl : j = m := by omega
          have D7 := Lib.hid (B5.out.trans (E1.out.mono B5.out.size))
          by_cases hi : 0 ≤ i ∧ i < (j : Int)
          · obtain ⟨i0, i1⟩ := hi
            go_wp2_with fail
            refine (awake4_any wr (T0.out.below D7.out)).mono ?_
            rintro e w9 ⟨rfl, d9⟩
            go_wp2
            go_ret
            exact ⟨rfl, D7.out.trans (d9.mono D7.out.size)⟩
          · by_cases i0 : 0 ≤ i
            · have i1 : ¬ i < (j : Int) := fun h => hi ⟨i0, h⟩
              clear hi
              go_wp2_with fail
              refine (kat_out k p j L i wr (K5.out.below E1.out) (by omega)).mono ?_
              rintro e w8 ⟨rfl, d8⟩
              have D8 := Lib.hid (D7.out.trans (d8.mono D7.out.size))
              go_wp2_with fail
              refine (awake4_any w8 (T0.out.below D8.out)).mono ?_
              rintro e w9 ⟨rfl, d9⟩
              go_wp2
              go_ret
              exact ⟨rfl, D8.out.trans (d9.mono D8.out.size)⟩
            · clear hi
              go_wp2_with fail
              refine (kat_out k p j L i wr (K5.out.below E1.out) (by omega)).mono ?_
              rintro e w8 ⟨rfl, d8⟩
              have D8 := Lib.hid (D7.out.trans (d8.mono D7.out.size))
              go_wp2_with fail
              refine (awake4_any w8 (T0.out.below D8.out)).mono ?_
              rintro e w9 ⟨rfl, d9⟩
              go_wp2
              go_ret
              exact ⟨rfl, D8.out.trans (d9.mono D8.out.size)⟩
    · go_wp2_with fail
      refine (expand_no p a n c w1 h3).mono ?_
      rintro e w2 ⟨rfl, rfl⟩
      have B1 := Lib.hid d1
      go_wp2_with fail
      refine (refRight_no n w1 h3).mono ?_
      rintro e w3 ⟨rfl, rfl⟩
      go_wp2_with fail
      refine (krounds_nil w1).mono ?_
      rintro e w4 ⟨rfl, rfl⟩
      go_wp2_with fail
      refine (kat_nil 0 w1).mono ?_
      rintro e w5 ⟨rfl, d5⟩
      have B5 := Lib.hid (B1.out.trans (d5.mono B1.out.size))
      go_wp2_with fail
      refine (awake4_any w5 (T0.out.below B5.out)).mono ?_
      rintro e w6 ⟨rfl, d6⟩
      go_wp2
      go_ret
      exact ⟨rfl, B5.out.trans (d6.mono B5.out.size)⟩
  · have n1 : (64 : Int) < (n : Int) := by omega
    go_wp2
    go_ret
    exact ⟨rfl, Below.refl _ _⟩
end Go.Proofs.YtepijmidafndaaaDoor
