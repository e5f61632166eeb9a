/- ring: Make -/
import Derived.Test.YtfdkmjegcghieaaDoorWd4
import Derived.Test.YtfdkmjegcghieaaDoorGw
namespace Go.Proofs.YtfdkmjegcghieaaDoor
open Go.RowKit
@[simp] theorem wl_eta (x : W2) : [x.1, x.2] = wl x := rfl
/-- the number that a key stands for, made ready -/
def oneW (l : List (BitVec 8)) : W2 := dotW (long l 0, long l 8) (1#64, 0#64)
set_option linter.unusedSimpArgs false in
set_option maxRecDepth 100000 in
set_option maxHeartbeats 1600000 in
theorem rmake_any (l : List (BitVec 8)) (hl : l.length = 16) (w : World) :
    Calls Tryd.prog 115 #[.agg (A8 l)] w fun e w' => ∃ q, e = .returned (.pointer (some ⟨q, 0, none⟩)) ∧ Blk w' q 186 (A64 (flat (tabW (oneW l)) 16)) ∧ w.heap.size ≤ q ∧ Below w.heap.size w w' := by
  obtain ⟨W, hW⟩ : ∃ W, (w.alloc (.cells (A8 l) 40)).alloc (.cells (A64 (zeros 64 32)) 186) = W := ⟨_, rfl⟩
  obtain ⟨b0, b1, hb, hz⟩ := new2 _ _ _ _ _ _ hW
  have r8 := b0.rd8 16 (by omega) (by rw [hl]; decide)
  rw [hl, List.take_of_length_le (by omega)] at r8
  have P0 := Lib.hid b0
  have T0 := Lib.hid b1
  have B0 := Lib.hid hb
  have R0 := Lib.hid r8
  clear b0 b1 hb hz r8
  go_enter Tryd.func115, Tryd.ntmps115
  go_wp2_with fail
  clear hW
  refine (load_any l _ 16 16 W R0.out).mono ?_
  rintro e w1 ⟨rfl, d1⟩
  go_wp2_with fail
  refine (rdot_any (long l 0, long l 8) (1#64, 0#64) w1).mono ?_
  rintro e w2 ⟨rfl, d2⟩
  have D2 := B0.out.trans ((d1.trans (d2.mono d1.size)).mono B0.out.size)
  have t2 := T0.out.belowAll (d1.trans (d2.mono d1.size))
  obtain ⟨one, h1⟩ : ∃ one, one = oneW l := ⟨_, rfl⟩
  rw [show dotW (long l 0, long l 8) (1#64, 0#64) = one from h1.symm]
  obtain ⟨g, hg⟩ : ∃ g, g = w2.heap.size := ⟨_, rfl⟩
  obtain ⟨V, hV⟩ : ∃ V, w2.alloc (.cells (A64 (zeros 64 2)) 63) = V := ⟨_, rfl⟩
  obtain ⟨c0, cb, cz⟩ := new1 _ _ _ _ hV
  have q0 := t2.belowAll cb
  have qB := D2.trans (cb.mono D2.size)
  have hlt := t2.lt
  rw [← hg] at c0 cz hlt
  have C0 := Lib.hid (c0.put (A64 (wl one)))
  have r1 := c0.row
  have r2 := c0.whole
  have T1 := Lib.hid (q0.farRow (k := g) (by omega) (A64 (wl one)))
  have hgw : w.heap.size ≤ g := by omega
  have B1 := Lib.hid (below_setRow qB hgw (A64 (wl one)))
  have HLT := Lib.hid hlt
  have HG := Lib.hid hgw
  have H1 := Lib.hid h1
  have hgs : w2.heap.size = g := hg.symm
  clear d1 d2 D2 t2 cb q0 qB hlt hgw h1 T0 B0 R0 P0 c0 cz hg
  go_wp2_with fail
  have F1 : Blk (V.setRow g (A64 (wl one))) (w.heap.size + 1) 186 (A64 (flat (tabW one) (2 ^ 0))) := by rw [show 2 ^ 0 = 1 from rfl, flat_one]; exact T1.out
  have T2 := Lib.hid F1
  clear T1 F1 r1 r2
  go_loopw [13] (fun s wr => ∃ k : Nat, k ≤ 4 ∧ s = .int .i64 k ∧ Blk wr (w.heap.size + 1) 186 (A64 (flat (tabW one) (2 ^ k))) ∧ Blk wr g 63 (A64 (wl (upN one k))) ∧ Below w.heap.size w wr) (fun s _ => 4 - (intOf s).toNat)
  case atStart => exact ⟨0, by omega, rfl, T2.out, C0.out, B1.out⟩
  case round =>
    obtain ⟨k, hk, rfl, hT, hC, hB⟩ := hrel
    have T3 := Lib.hid hT
    have C3 := Lib.hid hC
    have B3 := Lib.hid hB
    clear hT hC hB T2 C0 B1 hV hgs
    by_cases hk4 : k < 4
    · have k1 : (k : Int) < 4 := by omega
      have k0 : (0 : Int) ≤ (k : Int) := by omega
      obtain ⟨M, hM⟩ : ∃ M, M = 2 ^ k := ⟨_, rfl⟩
      have eM : ∀ t, binOp .shl t (.int .i64 1) (.int .i64 (k : Int)) = pure (.int .i64 (M : Int)) := fun t => by rw [one_shl t k (by omega), hM]
      have hM8 : M ≤ 8 := by
        have : k = 0 ∨ k = 1 ∨ k = 2 ∨ k = 3 := by omega
        rcases this with rfl | rfl | rfl | rfl <;> omega
      have HM := Lib.hid hM
      obtain ⟨E, hE⟩ : ∃ E, E = upN one k := ⟨_, rfl⟩
      rw [← hE] at C3
      have HE := Lib.hid hE
      have T4 := T3.out
      rw [← hM] at T4
      have T5 := Lib.hid T4
      clear hM hE T4 T3
      go_wp2_with fail
      go_loopw [18] (fun s wr => ∃ i : Nat, i ≤ M ∧ s = .int .i64 i ∧ Blk wr (w.heap.size + 1) 186 (A64 (flat (tabW one) (M + i))) ∧ Blk wr g 63 (A64 (wl E)) ∧ Below w.heap.size w wr) (fun s _ => M - (intOf s).toNat)
      case atStart => exact ⟨0, by omega, rfl, T5.out, C3.out, B3.out⟩
      case round =>
        obtain ⟨i, hi, rfl, hT, hC, hB⟩ := hrel
        have T6 := Lib.hid hT
        have C6 := Lib.hid hC
        have B6 := Lib.hid hB
        clear hT hC hB T5 C3 B3
        by_cases hiM : i < M
        · have i1 : (i : Int) < (M : Int) := by omega
          have i0 : (0 : Int) ≤ (i : Int) := by omega
          have i2 : (i : Int) < 16 := by omega
          obtain ⟨J, hJ⟩ : ∃ J, J = M + i := ⟨_, rfl⟩
          have eJ : ∀ t, binOp .or t (.int .i64 (M : Int)) (.int .i64 (i : Int)) = pure (.int .i64 (J : Int)) := fun t => by rw [hJ]; exact or_ints t M i (by rw [HM.out]; exact or_pow k i hk4 (by rw [← HM.out]; exact hiM))
          have J0 : (0 : Int) ≤ (J : Int) := by omega
          have J1 : (J : Int) < 16 := by omega
          have j16 : J < 16 := by omega
          have ij : i < J := by omega
          have hn := tabW_next one k i hk4 (by rw [← HM.out]; exact hiM)
          rw [← HM.out, ← hJ, ← HE.out] at hn
          have T7 := T6.out
          rw [← hJ] at T7
          have T8 := Lib.hid T7
          have HJ := Lib.hid hJ
          have HN := Lib.hid hn
          clear hJ T6 T7 hn
          go_upto_region 9 with fail
          refine wp_region_tail [0,0,0,0,0,0,0,0,0,0,5,5,2,0,0,0,3] (by kernel_rfl) (by kernel_rfl) (fun C hC0 hCb K' hK' => ?_)
          have q1 : ∀ w1, C w1 → rowAt w1 (w.heap.size + 1) = A64 (flat (tabW one) J) := fun w1 h => (T8.out.drew.belowAll (hCb w1 h)).row
          have q2 : ∀ w1, C w1 → rowAt w1 g = A64 (wl E) := fun w1 h => (C6.out.drew.belowAll (hCb w1 h)).row
          have fl : (flat (tabW one) J).length = 32 := flat_length _ _
          have ex : (A64 (flat (tabW one) J)).extract (i * 2) (i * 2 + 2) = A64 (wl (tabW one i)) := by rw [A64_part, show i * 2 + 2 - i * 2 = 2 by omega, Nat.mul_comm i 2, flat_part _ _ _ (by omega) ij]
          have sz : i * 2 + 2 ≤ 32 := by omega
          have tk : (wl E).take 2 = wl E := rfl
          repeat
            first
              | ((with_reducible refine h_pure (v := ?_) (a' := ?_) ?_ (fun _ => ?_) ?_ ?_); rotate_left; rotate_left; (focus (exact rfl)); (focus (go_simp; (try go_bits); exact rfl)); (focus (simp only [Act.put, List.setIfInBounds_toArray, List.set_cons_succ, List.set_cons_zero, Act.eval, Array.getD_eq_getD_getElem?, List.getElem?_toArray, List.getElem?_cons_succ, List.getElem?_cons_zero, Option.getD_some]; exact rfl)))
              | ((with_reducible refine h_obl (v := ?_) (a' := ?_) ?_ (fun _ hcw => ?_) ?_ ?_); rotate_left; rotate_left; (focus (exact rfl)); (focus (have f1 := q1 _ hcw; have f2 := q2 _ hcw; go_simp; (try go_bits); exact rfl)); (focus (simp only [Act.put, List.setIfInBounds_toArray, List.set_cons_succ, List.set_cons_zero, Act.eval, Array.getD_eq_getD_getElem?, List.getElem?_toArray, List.getElem?_cons_succ, List.getElem?_cons_zero, Option.getD_some]; exact rfl)))
              | ((with_reducible refine h_read (v := ?_) (a' := ?_) ?_ (fun _ hbw => ?_) ?_ ?_); rotate_left; rotate_left; (focus (exact rfl)); (focus (skip; go_simp; (try go_bits); exact rfl)); (focus (simp only [Act.put, List.setIfInBounds_toArray, List.set_cons_succ, List.set_cons_zero, Act.eval, Array.getD_eq_getD_getElem?, List.getElem?_toArray, List.getElem?_cons_succ, List.getElem?_cons_zero, Option.getD_some]; exact rfl)))
          (with_reducible refine h_call ?_ ?_)
          · exact rfl
          go_simp
          refine entersW_of ?_
          refine (rplus_any (tabW one i) E 1#64 wr.drew).mono ?_
          rintro e w1 ⟨rfl, d1⟩
          refine ⟨_, rfl, d1, ?_⟩
          try simp only [Act.put, List.setIfInBounds_toArray, List.set_cons_succ, List.set_cons_zero]
          repeat
            first
              | ((with_reducible refine h_pure (v := ?_) (a' := ?_) ?_ (fun _ => ?_) ?_ ?_); rotate_left; rotate_left; (focus (exact rfl)); (focus (go_simp; (try go_bits); exact rfl)); (focus (simp only [Act.put, List.setIfInBounds_toArray, List.set_cons_succ, List.set_cons_zero, Act.eval, Array.getD_eq_getD_getElem?, List.getElem?_toArray, List.getElem?_cons_succ, List.getElem?_cons_zero, Option.getD_some]; exact rfl)))
              | ((with_reducible refine h_obl (v := ?_) (a' := ?_) ?_ (fun _ hcw => ?_) ?_ ?_); rotate_left; rotate_left; (focus (exact rfl)); (focus (skip; go_simp; (try go_bits); exact rfl)); (focus (simp only [Act.put, List.setIfInBounds_toArray, List.set_cons_succ, List.set_cons_zero, Act.eval, Array.getD_eq_getD_getElem?, List.getElem?_toArray, List.getElem?_cons_succ, List.getElem?_cons_zero, Option.getD_some]; exact rfl)))
              | ((with_reducible refine h_read (v := ?_) (a' := ?_) ?_ (fun _ hbw => ?_) ?_ ?_); rotate_left; rotate_left; (focus (exact rfl)); (focus (skip; go_simp; (try go_bits); exact rfl)); (focus (simp only [Act.put, List.setIfInBounds_toArray, List.set_cons_succ, List.set_cons_zero, Act.eval, Array.getD_eq_getD_getElem?, List.getElem?_toArray, List.getElem?_cons_succ, List.getElem?_cons_zero, Option.getD_some]; exact rfl)))
          refine h_tail [2] rfl (by simp) ?_
          refine z_storePart (m := flat (tabW one) J) (c := wl (tabW one J)) (off := J * 2) (T8.out.drew.belowAll d1) rfl (by rw [← HN.out]; rfl) (by rw [fl, wl_length]; omega) (Tryd.sizeOf63 _) (fun w5 k5 g5 s5 => ?_)
          rw [Nat.mul_comm J 2, flat_splc _ _ j16] at k5
          refine z_nil (hK' _ _ ?_)
          have hne : some g ≠ some (w.heap.size + 1) := by
            have := HLT.out
            intro e; cases e; omega
          have T9 := Lib.hid k5
          have C9 := Lib.hid ((C6.out.drew.belowAll d1).grown g5 hne)
          have d6 := B6.out.drew.trans (d1.mono B6.out.drew.size)
          have B9 := Lib.hid (d6.trans (grown_below g5 (by omega) d6.size))
          clear q1 q2 hC0 hCb hK' d1 k5 g5 s5 d6 hne ex sz fl tk eJ eM T8 C6 B6
          go_wp2
          exact ⟨⟨i + 1, by omega, by go_num, by rw [show M + (i + 1) = J + 1 by rw [HJ.out]; omega]; exact T9.out, C9.out, B9.out⟩, by simp [intOf]; omega⟩
        · obtain rfl : i = M := by omega
          have hT : Blk wr (w.heap.size + 1) 186 (A64 (flat (tabW one) (2 ^ (k + 1)))) := by
            have := T6.out
            rwa [show i + i = 2 ^ (k + 1) by rw [Nat.pow_succ, ← HM.out]; omega] at this
          have T7 := Lib.hid hT
          have r1 := C6.out.row
          have r2 := C6.out.whole
          clear T6 hT
          have tk : (wl E).take 2 = wl E := rfl
          go_wp2_with fail
          refine (rup_any E wr).mono ?_
          rintro e w1 ⟨rfl, d1⟩
          have k1' := C6.out.belowAll d1
          have r3 := k1'.row
          have r4 := k1'.whole
          have T8 := Lib.hid ((T7.out.belowAll d1).farRow (k := g) (by have := HLT.out; omega) (A64 (wl (upW E))))
          have C8 := Lib.hid (k1'.put (A64 (wl (upW E))))
          have B8 := Lib.hid (below_setRow (B6.out.trans (d1.mono B6.out.size)) HG.out (A64 (wl (upW E))))
          clear r1 r2 T7 C6 B6 d1 k1' eM tk
          go_wp2
          exact ⟨⟨k + 1, by omega, by go_num, T8.out, by rw [upN, ← HE.out]; exact C8.out, B8.out⟩, by simp [intOf]; omega⟩
    · obtain rfl : k = 4 := by omega
      have T4 := T3.out
      rw [H1.out] at T4
      have T5 := Lib.hid T4
      clear T3 T4
      go_wp2
      go_ret
      exact ⟨w.heap.size + 1, rfl, T5.out, by omega, B3.out⟩
end Go.Proofs.YtfdkmjegcghieaaDoor
