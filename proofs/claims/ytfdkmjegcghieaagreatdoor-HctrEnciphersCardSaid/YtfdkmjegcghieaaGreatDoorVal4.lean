/- val: Write -/
import Derived.Test.YtfdkmjegcghieaaGreatDoorVal3
import Derived.Test.YtfdkmjegcghieaaGreatDoorIg
import Derived.Test.YtfdkmjegcghieaaGreatDoorGn
namespace Go.Proofs.YtfdkmjegcghieaaGreatDoor
open Go.RowKit
def sliceLenV : Value → Nat
  | .slice _ n _ => n
  | _ => 0
def WriteJ (w : World) (p q : Nat) (one : W2) (s L : List (BitVec 8)) (B : Nat) (a' : Act) (w' : World) : Prop :=
  ∃ (k n : Nat) (a : Option Addr) (c : Nat), (∃ u : Nat → Value, a' = { tmps := (fun u : Nat → Value => #[Value.pointer (some ⟨p, 0, none⟩), Value.slice a n c, u 2, u 3, u 4, u 5, u 6, u 7, u 8, u 9, u 10, u 11, u 12, u 13, u 14, u 15, u 16, u 17, u 18, u 19, u 20, u 21, u 22, u 23, u 24, u 25, u 26, u 27]) u, defers := [] }) ∧
    n = L.length - 16 * k ∧ 16 * k ≤ L.length ∧ Rd8 w' a n c (L.drop (16 * k)) ∧ (∀ ad, a = some ad → B ≤ ad.block) ∧ Blk w' p 220 (PB (.pointer (some ⟨q, 0, none⟩)) (valK one s L k)) ∧ Blk w' q 237 (A64 (flat (tabW one) 16)) ∧ w.grownBy w' (some p)
set_option linter.unusedSimpArgs false in
set_option maxRecDepth 100000 in
set_option maxHeartbeats 800000 in
theorem vwrite_any (p q : Nat) (one : W2) (s l : List (BitVec 8)) (hs : s.length = 16) (a : Option Addr) (n c : Nat) (w : World) (hr : Rd8 w a n c l) (hsz : n ≤ 70368744177664) (hk : Blk w p 220 (PB (.pointer (some ⟨q, 0, none⟩)) s)) (hT : Blk w q 237 (A64 (flat (tabW one) 16))) (hqp : q ≠ p) :
    Calls Tryz.prog 146 #[.pointer (some ⟨p, 0, none⟩), .slice a n c] w fun e w' => e = .returned (.tuple #[]) ∧ Blk w' p 220 (PB (.pointer (some ⟨q, 0, none⟩)) (valK one s (l ++ zeros 8 (roomN n 16)) ((l ++ zeros 8 (roomN n 16)).length / 16))) ∧ w.grownBy w' (some p) := by
  obtain ⟨L, hL⟩ : ∃ L, L = l ++ zeros 8 (roomN n 16) := ⟨_, rfl⟩
  have hp := padded_any l a n c 16 w hr (by omega) (by omega) hsz
  rw [← hL] at hp ⊢
  have HL := Lib.hid hL
  clear hL
  go_enter Tryz.func146, Tryz.ntmps146
  go_wp2_with fail
  refine wp_scope_enter 0 (WriteJ w p q one s L w.heap.size) (fun a' _ => sliceLenV (a'.tmps.getD 1 undef)) rfl (fun hrest => ?_) ?_
  · go_wp2_with fail
    refine hp.mono ?_
    rintro e w1 ⟨v, rfl, ho, d1⟩
    obtain ⟨A, C, rfl, hA, hAB⟩ := ho.rd
    have k1 := hk.belowAll d1
    have t1 := hT.belowAll d1
    go_wp2_with fail
    go_step3
    refine ‹∀ (a : Act) (w_1 : World), Code.wp _ _ _ a w_1 → _› _ _ (hrest _ _ ?_)
    exact ⟨0, L.length, A, C, ex_frame _ rfl, by omega, by omega, by rw [Nat.mul_zero, List.drop_zero]; exact hA, hAB, k1, t1, below_grown d1 _⟩
  · rintro a' w' ⟨k, m, A, C, ⟨u, rfl⟩, hm, hk16, hr', hAB, hK, hT', hg⟩
    have h16 : L.length % 16 = 0 := by
      have hl := hr.1
      rw [HL.out, List.length_append, zeros_length, hl, roomN]; omega
    have hpw := hk.lt
    by_cases hm0 : m = 0
    · have e1 : L.length / 16 = k := by omega
      have K := Lib.hid hK
      have G := Lib.hid hg
      subst hm0
      clear hK hg hr' hk hT hr hm hp hT' hAB
      go_wp2
      simp only [Exit.jump]
      (try simp only [Exit.inBlock, Exit.then])
      refine bodyPost_ret (results_none rfl _ _ _) rfl ?_
      exact ⟨rfl, by rw [e1]; exact K.out, G.out⟩
    · have m0 : ¬ (m : Int) = 0 := by omega
      have m16 : 16 ≤ m := by omega
      have K := Lib.hid hK
      have G := Lib.hid hg
      have R := Lib.hid hr'
      have T := Lib.hid hT'
      have HM := Lib.hid hm
      have H16 := Lib.hid h16
      have HAB := Lib.hid hAB
      have HP := Lib.hid hpw
      clear hK hg hr' hk hT hr hm hp hT' hAB h16 hpw
      have hSl := valK_length one s L hs k
      obtain ⟨S, hS⟩ : ∃ S, S = valK one s L k := ⟨_, rfl⟩
      rw [← hS] at K hSl
      have HS := Lib.hid hS
      obtain ⟨D, hD⟩ : ∃ D, D = L.drop (16 * k) := ⟨_, rfl⟩
      rw [← hD] at R
      have HD := Lib.hid hD
      clear hS hD
      go_upto_region 3 with fail
      refine wp_region_tail [0,0,0,0,5,0,0,0,0,0,2,2,2,0,0,3] (by kernel_rfl) (by kernel_rfl) (fun C0 hC0 hCb K' hK' => ?_)
      have R5 : ∀ w1, C0 w1 → w1.cell? ⟨p, 0, none⟩ = some (.pointer (some ⟨q, 0, none⟩)) := fun w1 h => by
        rw [(K.out.drew.belowAll (hCb w1 h)).cell, PB_zero]
      have hS8 : Rd8 w'.drew (some ⟨p, 1, none⟩) 16 16 S := by
        have := K.out.drew.rdPB (by rw [hSl]; unfold maxLen; omega)
        rwa [hSl] at this
      repeat
        first
          | ((with_reducible refine h_pure (v := ?_) (a' := ?_) ?_ (fun _ => ?_) ?_ ?_); rotate_left; rotate_left; (focus (exact rfl)); (focus (go_simp; (try go_bits); exact rfl)); (focus (simp only [Act.put, List.setIfInBounds_toArray, List.set_cons_succ, List.set_cons_zero, Act.eval, Array.getD_eq_getD_getElem?, List.getElem?_toArray, List.getElem?_cons_succ, List.getElem?_cons_zero, Option.getD_some]; exact rfl)))
          | ((with_reducible refine h_obl (v := ?_) (a' := ?_) ?_ (fun _ hcw => ?_) ?_ ?_); rotate_left; rotate_left; (focus (exact rfl)); (focus (have f := R5 _ hcw; go_simp; (try go_bits); exact rfl)); (focus (simp only [Act.put, List.setIfInBounds_toArray, List.set_cons_succ, List.set_cons_zero, Act.eval, Array.getD_eq_getD_getElem?, List.getElem?_toArray, List.getElem?_cons_succ, List.getElem?_cons_zero, Option.getD_some]; exact rfl)))
          | ((with_reducible refine h_read (v := ?_) (a' := ?_) ?_ (fun _ hbw => ?_) ?_ ?_); rotate_left; rotate_left; (focus (exact rfl)); (focus (skip; go_simp; (try go_bits); exact rfl)); (focus (simp only [Act.put, List.setIfInBounds_toArray, List.set_cons_succ, List.set_cons_zero, Act.eval, Array.getD_eq_getD_getElem?, List.getElem?_toArray, List.getElem?_cons_succ, List.getElem?_cons_zero, Option.getD_some]; exact rfl)))
      (with_reducible refine h_call ?_ ?_)
      · exact rfl
      go_simp
      refine entersW_of ?_
      refine (xor_any S D (some ⟨p, 1, none⟩) A 16 16 m C w'.drew hS8 R.out.drew (by omega)).mono ?_
      rintro e w3 ⟨v3, rfl, o3, d3⟩
      refine ⟨_, rfl, d3, ?_⟩
      try simp only [Act.put, List.setIfInBounds_toArray, List.set_cons_succ, List.set_cons_zero]
      obtain ⟨a3, c3, rfl, hr3, _⟩ := o3.rd
      (with_reducible refine h_call ?_ ?_)
      · exact rfl
      go_simp
      refine entersW_of ?_
      refine (block_any _ a3 _ c3 w3 hr3).mono ?_
      rintro e w4 ⟨rfl, d4⟩
      refine ⟨_, rfl, d4, ?_⟩
      try simp only [Act.put, List.setIfInBounds_toArray, List.set_cons_succ, List.set_cons_zero]
      have hXl : (blk (xorl S D)).length = 16 := blk_length _
      obtain ⟨X, hX⟩ : ∃ X, X = blk (xorl S D) := ⟨_, rfl⟩
      rw [← hX] at hXl ⊢
      have HX := Lib.hid hX
      have d34 := d3.trans (d4.mono d3.size)
      clear hX
      (with_reducible refine h_call ?_ ?_)
      · exact rfl
      go_simp
      refine entersW_of ?_
      refine (tdot_any q one X hXl w4 (T.out.drew.belowAll d34)).mono ?_
      rintro e w5 ⟨rfl, d5⟩
      refine ⟨_, rfl, d5, ?_⟩
      try simp only [Act.put, List.setIfInBounds_toArray, List.set_cons_succ, List.set_cons_zero]
      rw [show le64 (dotL (tabW one) X 32).1 ++ le64 (dotL (tabW one) X 32).2 = dotBy one X from rfl]
      have hYl : (dotBy one X).length = 16 := dotBy_length _ _
      obtain ⟨Y, hY⟩ : ∃ Y, Y = dotBy one X := ⟨_, rfl⟩
      rw [← hY] at hYl ⊢
      have HY := Lib.hid hY
      have d35 := d34.trans (d5.mono d34.size)
      clear hY
      repeat
        first
          | ((with_reducible refine h_pure (v := ?_) (a' := ?_) ?_ (fun _ => ?_) ?_ ?_); rotate_left; rotate_left; (focus (exact rfl)); (focus (go_simp; (try go_bits); exact rfl)); (focus (simp only [Act.put, List.setIfInBounds_toArray, List.set_cons_succ, List.set_cons_zero, Act.eval, Array.getD_eq_getD_getElem?, List.getElem?_toArray, List.getElem?_cons_succ, List.getElem?_cons_zero, Option.getD_some]; exact rfl)))
          | ((with_reducible refine h_obl (v := ?_) (a' := ?_) ?_ (fun _ hcw => ?_) ?_ ?_); rotate_left; rotate_left; (focus (exact rfl)); (focus (skip; go_simp; (try go_bits); exact rfl)); (focus (simp only [Act.put, List.setIfInBounds_toArray, List.set_cons_succ, List.set_cons_zero, Act.eval, Array.getD_eq_getD_getElem?, List.getElem?_toArray, List.getElem?_cons_succ, List.getElem?_cons_zero, Option.getD_some]; exact rfl)))
          | ((with_reducible refine h_read (v := ?_) (a' := ?_) ?_ (fun _ hbw => ?_) ?_ ?_); rotate_left; rotate_left; (focus (exact rfl)); (focus (skip; go_simp; (try go_bits); exact rfl)); (focus (simp only [Act.put, List.setIfInBounds_toArray, List.set_cons_succ, List.set_cons_zero, Act.eval, Array.getD_eq_getD_getElem?, List.getElem?_toArray, List.getElem?_cons_succ, List.getElem?_cons_zero, Option.getD_some]; exact rfl)))
      refine h_tail [2] rfl (by simp) ?_
      refine z_storePB (K.out.drew.belowAll d35) rfl rfl (by rw [hYl, hSl]) (by rw [hYl]; exact Tryz.sizeOf37 _) (fun w6 k6 g6 s6 => ?_)
      refine z_nil (hK' _ _ ?_)
      have hpl := K.out.lt
      have hYk : Y = valK one s L (k + 1) := by rw [HY.out, HX.out, HS.out, HD.out]; rfl
      rw [hYk] at k6
      have K6 := Lib.hid k6
      have d05 : Below w'.heap.size w' w5 := ((Below.refl w'.heap.size w').drew).trans d35
      have G6 := Lib.hid (grown_trans (grown_trans G.out (below_grown d05 (some p))) g6)
      have T6 := Lib.hid ((T.out.belowAll d05).grown g6 (fun e => by cases e; exact hqp rfl))
      have r6 : Rd8 w6 A m C D := (R.out.below d05).away g6 (fun ad e => by have := HAB.out ad e; have := HP.out; omega)
      have hDl := r6.1
      have r6c := r6.cut (j := 16) (k := m) m16 (Nat.le_refl _)
      rw [List.take_of_length_le (by omega)] at r6c
      have hDd : D.drop 16 = L.drop (16 * (k + 1)) := by rw [HD.out, List.drop_drop]; congr 1
      rw [hDd] at r6c
      have RC := Lib.hid r6c
      have k1 : (16 : Int) ≤ (m : Int) := by omega
      have k2 : (m : Int) ≤ (C : Int) := by have := r6.2.1; omega
      have hAB6 : ∀ ad, (if C = 16 then A else A.map (·.add 16)) = some ad → w.heap.size ≤ ad.block := by
        intro ad h
        split at h
        · exact HAB.out ad h
        · cases A with
          | none => cases h
          | some b => cases h; exact HAB.out b rfl
      have AB := Lib.hid hAB6
      clear k6 g6 d35 d34 d05 d3 d4 d5 hYk o3 hr3 R5 hS8 hC0 hCb hK' r6 r6c hDd hAB6 hDl K G T R
      go_wp2
      all_goals
        go_step3
        have rc := RC.out
        have ab := AB.out
        first
          | (rw [if_neg (by assumption)] at rc ab)
          | (rw [if_pos (by assumption)] at rc ab; rw [show C - 16 = 0 by omega] at rc)
        have hm1 : m - 16 = L.length - 16 * (k + 1) := by have := HM.out; omega
        have hk2 : 16 * (k + 1) ≤ L.length := by have := HM.out; omega
        refine ⟨rfl, ⟨k + 1, m - 16, _, _, ex_frame _ rfl, hm1, hk2, rc, ab, K6.out, T6.out, G6.out⟩, ?_⟩
        simp [sliceLenV]
        omega
end Go.Proofs.YtfdkmjegcghieaaGreatDoor
