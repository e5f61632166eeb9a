/- val: Length -/
import Derived.Test.YtfdkmjegcghieaaGreatDoorHcP
import Derived.Test.YtfdkmjegcghieaaGreatDoorVal4
import Derived.Test.YtfdkmjegcghieaaGreatDoorHk
namespace Go.Proofs.YtfdkmjegcghieaaGreatDoor
open Go.RowKit
set_option linter.unusedSimpArgs false in
set_option maxRecDepth 100000 in
theorem vlength_any (n : Nat) (b : Bool) (w : World) (_hn : n ≤ 70368744177664) :
    Calls Tryz.prog 148 #[.int .i64 n, .bool b] w fun e w' => e = .returned (.agg (A8 (lenB n b))) ∧ Below w.heap.size w w' := by
  obtain ⟨W, hW⟩ : ∃ W, (w.alloc (.cells (A8 (zeros 8 16)) 37)) = W := ⟨_, rfl⟩
  obtain ⟨b0, hb, hz⟩ := new1 _ _ _ _ hW
  have P0 := Lib.hid b0
  have B0 := Lib.hid hb
  have n0 : ¬ (n : Int) < 0 := by omega
  obtain ⟨N, hN⟩ : ∃ N, N = BitVec.ofNat 64 n := ⟨_, rfl⟩
  have f1 : ∀ w, (convert 3 74 (.int .i64 (n : Int))).run Tryz.prog w = .ok (v64 N) w := fun w => by
    rw [v64_of_int w _ _ _ Tryz.underlying3 Tryz.underlying74, hN, BitVec.ofInt_natCast]
  have f2 : ∀ t, binOp .shl t (v64 N) (.int .u64 4) = pure (v64 (N <<< 4)) := fun t => v64_shl t .u64 N 4 (by decide)
  have f3 : ∀ t, binOp .shr t (v64 N) (.int .u64 60) = pure (v64 (N >>> 60)) := fun t => v64_shr t .u64 N 60 (by decide)
  obtain ⟨X, hX⟩ : ∃ X, X = N <<< 4 := ⟨_, rfl⟩
  obtain ⟨Y, hY⟩ : ∃ Y, Y = N >>> 60 := ⟨_, rfl⟩
  rw [← hX] at f2
  rw [← hY] at f3
  have f4 : ∀ t, binOp .or t (v64 X) (.int .u64 3) = pure (v64 (X ||| 3#64)) := fun t => v64_or t X 3#64
  have f5 : ∀ t, binOp .or t (v64 X) (.int .u64 2) = pure (v64 (X ||| 2#64)) := fun t => v64_or t X 2#64
  obtain ⟨E3, h3⟩ : ∃ E, E = X ||| 3#64 := ⟨_, rfl⟩
  obtain ⟨E2, h2⟩ : ∃ E, E = X ||| 2#64 := ⟨_, rfl⟩
  rw [← h3] at f4
  rw [← h2] at f5
  have hfin : lenB n b = le64 (if b then E2 else E3) ++ le64 Y := by
    rw [lenB, ← hN, ← hX, ← hY, h2, h3]; cases b <;> rfl
  rw [hfin]
  clear hb hz b0 hX hY h2 h3 hN hfin
  cases b
  all_goals
    go_enter Tryz.func148, Tryz.ntmps148
    go_wp2_with fail
    refine (wbytes_any (_, Y) W).mono ?_
    rintro e w1 ⟨rfl, d1⟩
    have z1 := P0.out.belowAll d1
    have r3 := z1.row
    have r4 := z1.whole
    have B1 := B0.out.trans (d1.mono B0.out.size)
    clear d1 hW
    go_wp2
    refine bodyPost_row (A8 (le64 _ ++ le64 Y)) rfl rfl rfl (Tryz.isAgg37 _) (Tryz.sizeOf37 _) (by rw [A8_size]; rfl) (rowAt_setRow _ r4) ⟨rfl, below_setRow B1 (Nat.le_refl _) _⟩
end Go.Proofs.YtfdkmjegcghieaaGreatDoor
/- val: Sum -/
namespace Go.Proofs.YtfdkmjegcghieaaGreatDoor
open Go.RowKit
set_option linter.unusedSimpArgs false in
set_option maxRecDepth 100000 in
theorem vsum_any (h l : List (BitVec 8)) (hh : h.length = 16) (a : Option Addr) (n c : Nat) (w : World) (hr : Rd8 w a n c l) (hsz : n ≤ 70368744177664) :
    Calls Tryz.prog 103 #[.agg (A8 h), .slice a n c] w fun e w' => e = .returned (.agg (A8 (valSum h l))) ∧ Below w.heap.size w w' := by
  obtain ⟨W, hW⟩ : ∃ W, (w.alloc (.cells (A8 h) 37)).alloc (.cells (A8 (zeros 8 16)) 37) = W := ⟨_, rfl⟩
  obtain ⟨b0, b1, hb, hz⟩ := new2 _ _ _ _ _ _ hW
  have r0 := b0.row
  have Z0 := Lib.hid b1
  have B0 := Lib.hid hb
  have R0 := Lib.hid (hr.below hb)
  have hln := hr.1
  have hvl := valSum_length h l
  obtain ⟨S, hS⟩ : ∃ S, S = valSum h l := ⟨_, rfl⟩
  rw [← hS] at hvl ⊢
  have HS := Lib.hid hS
  clear hS
  clear b0 b1 hb hz hr
  go_enter Tryz.func103, Tryz.ntmps103
  go_wp2_with fail
  refine (vnew_any h hh W).mono ?_
  rintro e w1 ⟨p, q, rfl, hk, hT, hq, hqp, d1⟩
  have K1 := Lib.hid hk
  have T1 := Lib.hid hT
  have D1 := Lib.hid d1
  have Z1 := Lib.hid (Z0.out.belowAll d1)
  have R1 := Lib.hid (R0.out.below d1)
  have B1 := Lib.hid (B0.out.trans (d1.mono B0.out.size))
  have zl := Z0.out.lt
  clear hW r0 hk hT d1
  go_wp2_with fail
  refine (vwrite_any p q (oneW h) (zeros 8 16) l rfl a n c w1 R1.out hsz K1.out T1.out (by omega)).mono ?_
  rintro e w2 ⟨rfl, hk2, g2⟩
  have hB0 := B0.out.size
  have B2 := Lib.hid (B1.out.grown g2 B1.out.size (fun k hk => by cases hk; omega))
  have Z2 := Lib.hid (Z1.out.grown g2 (fun e => by cases e; omega))
  have hs2 : valK (oneW h) (zeros 8 16) (l ++ zeros 8 (roomN n 16)) ((l ++ zeros 8 (roomN n 16)).length / 16) = valSum h l := by
    rw [valSum, valR, padL, hln]
  rw [hs2, ← HS.out] at hk2
  have K2 := Lib.hid hk2
  clear hk2 g2 hs2
  go_wp2_with fail
  refine (vvalue_any p _ S hvl w2 K2.out).mono ?_
  rintro e w3 ⟨rfl, d3⟩
  have z3 := Z2.out.belowAll d3
  have r3 := z3.row
  have r4 := z3.whole
  have B3 := B2.out.trans (d3.mono B2.out.size)
  clear d3
  go_wp2
  refine bodyPost_row (A8 S) rfl rfl rfl (Tryz.isAgg37 _) (Tryz.sizeOf37 _) (by rw [A8_size]; exact hvl) (rowAt_setRow _ r4) ⟨rfl, below_setRow B3 (by omega) _⟩
end Go.Proofs.YtfdkmjegcghieaaGreatDoor
/- val: Encode -/
namespace Go.Proofs.YtfdkmjegcghieaaGreatDoor
open Go.RowKit
set_option linter.unusedSimpArgs false in
set_option maxRecDepth 100000 in
set_option maxHeartbeats 800000 in
theorem vencode_any (t m : List (BitVec 8)) (a b : Option Addr) (n c k d : Nat) (w : World) (ht : Rd8 w a n c t) (hm : Rd8 w b k d m) (hn : n ≤ 1000000) (hk : k ≤ 1000000) :
    Calls Tryz.prog 104 #[.slice a n c, .slice b k d] w fun e w' => ∃ v, e = .returned v ∧ Own8 w' w.heap.size 5 v (encB t m) ∧ Below w.heap.size w w' := by
  have TN := Lib.hid ht.1
  have hml := ht.1
  have hkl := hm.1
  obtain ⟨R, hR⟩ : ∃ R, R = k % 16 := ⟨_, rfl⟩
  have f1 : (k : Int).tmod 16 = (R : Int) := by rw [hR]; rfl
  have f2 : IntKind.i64.wrap (R : Int) = (R : Int) := by rw [IntKind.wrap_i64]; omega
  have T0 := Lib.hid ht
  have M0 := Lib.hid hm
  by_cases h0 : R = 0
  · have hw : (m.length % 16 == 0) = true := by rw [hkl, ← hR, h0]; rfl
    have hlast : lastB m = m := by rw [lastB, if_pos (by rw [hkl, ← hR, h0])]
    have hfin : encB t m = lenB n true ++ (t ++ zeros 8 (roomN n 16) ++ m) := by rw [encB, hw, hlast, padL, hml]
    have HFl := lenB_length n true
    obtain ⟨F, hF⟩ : ∃ F, F = lenB n true := ⟨_, rfl⟩
    rw [hfin, ← hF]
    rw [← hF] at HFl
    have HF := Lib.hid hF
    subst h0
    clear hR hw hlast hfin hF hml hkl ht hm
    go_enter Tryz.func104, Tryz.ntmps104
    go_wp2_with fail
    refine (vlength_any n true w (by omega)).mono ?_
    rintro e w1 ⟨rfl, d1⟩
    rw [← HF.out]
    have PV := Lib.hid (Blk.new w1 37 (A8 F))
    have BV := Lib.hid (d1.alloc d1.size (.cells (A8 F) 37))
    have TV := Lib.hid ((T0.out.below d1).alloc (.cells (A8 F) 37))
    have MV := Lib.hid ((M0.out.below d1).alloc (.cells (A8 F) 37))
    clear d1
    go_upto_region 5 with fail
    generalize w1.alloc (.cells (A8 F) 37) = V at *
    generalize w1.heap.size = g at *
    refine wp_region_tail [0,0,2,0,2,2,0] (by kernel_rfl) (by kernel_rfl) (fun C0 hC0 hCb K' hK' => ?_)
    repeat
      first
        | ((with_reducible refine h_pure (v := ?_) (a' := ?_) ?_ (fun _ => ?_) ?_ ?_); rotate_left; rotate_left; (focus (exact rfl)); (focus (go_simp; (try go_bits); exact rfl)); (focus (simp only [Act.put, List.setIfInBounds_toArray, List.set_cons_succ, List.set_cons_zero, Act.eval, Array.getD_eq_getD_getElem?, List.getElem?_toArray, List.getElem?_cons_succ, List.getElem?_cons_zero, Option.getD_some]; exact rfl)))
        | ((with_reducible refine h_obl (v := ?_) (a' := ?_) ?_ (fun _ hcw => ?_) ?_ ?_); rotate_left; rotate_left; (focus (exact rfl)); (focus (skip; go_simp; (try go_bits); exact rfl)); (focus (simp only [Act.put, List.setIfInBounds_toArray, List.set_cons_succ, List.set_cons_zero, Act.eval, Array.getD_eq_getD_getElem?, List.getElem?_toArray, List.getElem?_cons_succ, List.getElem?_cons_zero, Option.getD_some]; exact rfl)))
        | ((with_reducible refine h_read (v := ?_) (a' := ?_) ?_ (fun _ hbw => ?_) ?_ ?_); rotate_left; rotate_left; (focus (exact rfl)); (focus (skip; go_simp; (try go_bits); exact rfl)); (focus (simp only [Act.put, List.setIfInBounds_toArray, List.set_cons_succ, List.set_cons_zero, Act.eval, Array.getD_eq_getD_getElem?, List.getElem?_toArray, List.getElem?_cons_succ, List.getElem?_cons_zero, Option.getD_some]; exact rfl)))
    (with_reducible refine h_call ?_ ?_)
    · exact rfl
    go_simp
    refine entersW_of ?_
    refine (padded_any t a n c 16 V.drew TV.out.drew (by omega) (by omega) (by omega)).mono ?_
    rintro e w4 ⟨v4, rfl, o4, d4⟩
    refine ⟨_, rfl, d4, ?_⟩
    try simp only [Act.put, List.setIfInBounds_toArray, List.set_cons_succ, List.set_cons_zero]
    obtain ⟨a4, c4, rfl, hr4, _⟩ := o4.rd
    repeat
      first
        | ((with_reducible refine h_pure (v := ?_) (a' := ?_) ?_ (fun _ => ?_) ?_ ?_); rotate_left; rotate_left; (focus (exact rfl)); (focus (go_simp; (try go_bits); exact rfl)); (focus (simp only [Act.put, List.setIfInBounds_toArray, List.set_cons_succ, List.set_cons_zero, Act.eval, Array.getD_eq_getD_getElem?, List.getElem?_toArray, List.getElem?_cons_succ, List.getElem?_cons_zero, Option.getD_some]; exact rfl)))
        | ((with_reducible refine h_obl (v := ?_) (a' := ?_) ?_ (fun _ hcw => ?_) ?_ ?_); rotate_left; rotate_left; (focus (exact rfl)); (focus (skip; go_simp; (try go_bits); exact rfl)); (focus (simp only [Act.put, List.setIfInBounds_toArray, List.set_cons_succ, List.set_cons_zero, Act.eval, Array.getD_eq_getD_getElem?, List.getElem?_toArray, List.getElem?_cons_succ, List.getElem?_cons_zero, Option.getD_some]; exact rfl)))
        | ((with_reducible refine h_read (v := ?_) (a' := ?_) ?_ (fun _ hbw => ?_) ?_ ?_); rotate_left; rotate_left; (focus (exact rfl)); (focus (skip; go_simp; (try go_bits); exact rfl)); (focus (simp only [Act.put, List.setIfInBounds_toArray, List.set_cons_succ, List.set_cons_zero, Act.eval, Array.getD_eq_getD_getElem?, List.getElem?_toArray, List.getElem?_cons_succ, List.getElem?_cons_zero, Option.getD_some]; exact rfl)))
    refine h_lit3 (size := 1) rfl rfl rfl rfl rfl rfl (by omega) (by omega) Tryz.underlying150 slInfo (fun w5 g5 b5 d5 => ?_)
    simp only [Act.put, List.setIfInBounds_toArray, List.set_cons_succ, List.set_cons_zero]
    have rF : Rd8 w5 (some ⟨g, 0, none⟩) 16 16 F := by
      have := ((PV.out.drew.belowAll (d4.trans (d5.mono d4.size))).rd8 16 (by omega) (by rw [HFl]; unfold maxLen; omega))
      rwa [HFl, List.take_of_length_le (by omega)] at this
    have hsl := sls3 rF (hr4.below d5) (MV.out.drew.below (d4.trans (d5.mono d4.size)))
    have hfl : ([F, t ++ zeros 8 (roomN n 16), m] : List (List (BitVec 8))).flatten.length ≤ 70368744177664 := by
      have h1 := MV.out.1
      have h2 := TN.out
      have h3 : roomN n 16 ≤ 16 := by unfold roomN; omega
      simp only [List.flatten_cons, List.flatten_nil, List.length_append, List.length_nil, zeros_length]
      omega
    (with_reducible refine h_call ?_ ?_)
    · exact rfl
    go_simp
    refine entersW_of ?_
    refine (concat_any g5 _ _ 3 w5 b5 hsl rfl (by omega) hfl).mono ?_
    rintro e w6 ⟨v6, rfl, o6, d6⟩
    refine ⟨_, rfl, d6, ?_⟩
    try simp only [Act.put, List.setIfInBounds_toArray, List.set_cons_succ, List.set_cons_zero]
    repeat
      first
        | ((with_reducible refine h_pure (v := ?_) (a' := ?_) ?_ (fun _ => ?_) ?_ ?_); rotate_left; rotate_left; (focus (exact rfl)); (focus (go_simp; (try go_bits); exact rfl)); (focus (simp only [Act.put, List.setIfInBounds_toArray, List.set_cons_succ, List.set_cons_zero, Act.eval, Array.getD_eq_getD_getElem?, List.getElem?_toArray, List.getElem?_cons_succ, List.getElem?_cons_zero, Option.getD_some]; exact rfl)))
        | ((with_reducible refine h_obl (v := ?_) (a' := ?_) ?_ (fun _ hcw => ?_) ?_ ?_); rotate_left; rotate_left; (focus (exact rfl)); (focus (skip; go_simp; (try go_bits); exact rfl)); (focus (simp only [Act.put, List.setIfInBounds_toArray, List.set_cons_succ, List.set_cons_zero, Act.eval, Array.getD_eq_getD_getElem?, List.getElem?_toArray, List.getElem?_cons_succ, List.getElem?_cons_zero, Option.getD_some]; exact rfl)))
        | ((with_reducible refine h_read (v := ?_) (a' := ?_) ?_ (fun _ hbw => ?_) ?_ ?_); rotate_left; rotate_left; (focus (exact rfl)); (focus (skip; go_simp; (try go_bits); exact rfl)); (focus (simp only [Act.put, List.setIfInBounds_toArray, List.set_cons_succ, List.set_cons_zero, Act.eval, Array.getD_eq_getD_getElem?, List.getElem?_toArray, List.getElem?_cons_succ, List.getElem?_cons_zero, Option.getD_some]; exact rfl)))
    refine h_tail [] rfl (by simp) (z_nil (hK' _ _ ?_))
    have D6 := ((d4.trans (d5.mono d4.size)).trans (d6.mono (d4.trans (d5.mono d4.size)).size))
    have B6 := Lib.hid (BV.out.drew.trans (D6.mono BV.out.size))
    have O6 := Lib.hid (Own8.base o6 (Nat.le_trans BV.out.size (d4.trans (d5.mono d4.size)).size))
    clear hC0 hCb hK' d4 d5 d6 D6 o6 hsl hfl rF b5 hr4 o4
    go_wp2
    go_ret
    exact ⟨_, rfl, by simpa [List.flatten_cons, TN.out] using O6.out, B6.out⟩
  · have hw : (m.length % 16 == 0) = false := by rw [hkl, ← hR]; simpa using h0
    have hlast : lastB m = m ++ [1#8] ++ zeros 8 (roomN (k + 1) 16) := by
      rw [lastB, if_neg (by rw [hkl, ← hR]; exact h0), padL, List.length_append, hkl]; rfl
    have hfin : encB t m = lenB n false ++ (t ++ zeros 8 (roomN n 16) ++ (m ++ [1#8] ++ zeros 8 (roomN (k + 1) 16))) := by rw [encB, hw, hlast, padL, hml]
    have HFl := lenB_length n false
    obtain ⟨F, hF⟩ : ∃ F, F = lenB n false := ⟨_, rfl⟩
    rw [hfin, ← hF]
    rw [← hF] at HFl
    have HF := Lib.hid hF
    have hml2 : (m ++ [1#8] ++ zeros 8 (roomN (k + 1) 16)).length = k + 1 + roomN (k + 1) 16 := by
      rw [List.length_append, List.length_append, hkl, zeros_length]; rfl
    obtain ⟨X, hX⟩ : ∃ X, X = m ++ [1#8] ++ zeros 8 (roomN (k + 1) 16) := ⟨_, rfl⟩
    rw [← hX] at hml2 ⊢
    have HX := Lib.hid hX
    have r0 : ((R : Int) == 0) = false := by simp; omega
    have hXk : X.length ≤ 1000100 := by
      have : roomN (k + 1) 16 ≤ 16 := by unfold roomN; omega
      omega
    clear hR hw hlast hfin hF hml hkl ht hm hX hml2
    go_enter Tryz.func104, Tryz.ntmps104
    go_wp2_with fail
    refine (vlength_any n false w (by omega)).mono ?_
    rintro e w1 ⟨rfl, d1⟩
    rw [← HF.out]
    have PU := Lib.hid (Blk.new w1 37 (A8 F))
    have BU := Lib.hid (d1.alloc d1.size (.cells (A8 F) 37))
    have TU := Lib.hid ((T0.out.below d1).alloc (.cells (A8 F) 37))
    have MU := Lib.hid ((M0.out.below d1).alloc (.cells (A8 F) 37))
    clear d1
    go_upto_region 4 with fail
    generalize w1.alloc (.cells (A8 F) 37) = U at *
    generalize w1.heap.size = g at *
    go_wp2_with fail
    have hmk := marked_any m b k d 16 1#8 U MU.out (by omega) (by omega) (by omega)
    rw [show v8 1#8 = Value.int .u8 1 from rfl] at hmk
    refine hmk.mono ?_
    clear hmk
    rintro e V ⟨v, rfl, own, d2⟩
    rw [← HX.out] at own
    obtain ⟨b2, c2, rfl, hr2, _⟩ := own.rd
    have PV := Lib.hid (PU.out.belowAll d2)
    have BV := Lib.hid (BU.out.trans (d2.mono BU.out.size))
    have TV := Lib.hid (TU.out.below d2)
    have MV := Lib.hid hr2
    clear own hr2 d2
    go_upto_region 5 with fail
    refine wp_region_tail [0,0,2,0,2,2,0] (by kernel_rfl) (by kernel_rfl) (fun C0 hC0 hCb K' hK' => ?_)
    repeat
      first
        | ((with_reducible refine h_pure (v := ?_) (a' := ?_) ?_ (fun _ => ?_) ?_ ?_); rotate_left; rotate_left; (focus (exact rfl)); (focus (go_simp; (try go_bits); exact rfl)); (focus (simp only [Act.put, List.setIfInBounds_toArray, List.set_cons_succ, List.set_cons_zero, Act.eval, Array.getD_eq_getD_getElem?, List.getElem?_toArray, List.getElem?_cons_succ, List.getElem?_cons_zero, Option.getD_some]; exact rfl)))
        | ((with_reducible refine h_obl (v := ?_) (a' := ?_) ?_ (fun _ hcw => ?_) ?_ ?_); rotate_left; rotate_left; (focus (exact rfl)); (focus (skip; go_simp; (try go_bits); exact rfl)); (focus (simp only [Act.put, List.setIfInBounds_toArray, List.set_cons_succ, List.set_cons_zero, Act.eval, Array.getD_eq_getD_getElem?, List.getElem?_toArray, List.getElem?_cons_succ, List.getElem?_cons_zero, Option.getD_some]; exact rfl)))
        | ((with_reducible refine h_read (v := ?_) (a' := ?_) ?_ (fun _ hbw => ?_) ?_ ?_); rotate_left; rotate_left; (focus (exact rfl)); (focus (skip; go_simp; (try go_bits); exact rfl)); (focus (simp only [Act.put, List.setIfInBounds_toArray, List.set_cons_succ, List.set_cons_zero, Act.eval, Array.getD_eq_getD_getElem?, List.getElem?_toArray, List.getElem?_cons_succ, List.getElem?_cons_zero, Option.getD_some]; exact rfl)))
    (with_reducible refine h_call ?_ ?_)
    · exact rfl
    go_simp
    refine entersW_of ?_
    refine (padded_any t a n c 16 V.drew TV.out.drew (by omega) (by omega) (by omega)).mono ?_
    rintro e w4 ⟨v4, rfl, o4, d4⟩
    refine ⟨_, rfl, d4, ?_⟩
    try simp only [Act.put, List.setIfInBounds_toArray, List.set_cons_succ, List.set_cons_zero]
    obtain ⟨a4, c4, rfl, hr4, _⟩ := o4.rd
    repeat
      first
        | ((with_reducible refine h_pure (v := ?_) (a' := ?_) ?_ (fun _ => ?_) ?_ ?_); rotate_left; rotate_left; (focus (exact rfl)); (focus (go_simp; (try go_bits); exact rfl)); (focus (simp only [Act.put, List.setIfInBounds_toArray, List.set_cons_succ, List.set_cons_zero, Act.eval, Array.getD_eq_getD_getElem?, List.getElem?_toArray, List.getElem?_cons_succ, List.getElem?_cons_zero, Option.getD_some]; exact rfl)))
        | ((with_reducible refine h_obl (v := ?_) (a' := ?_) ?_ (fun _ hcw => ?_) ?_ ?_); rotate_left; rotate_left; (focus (exact rfl)); (focus (skip; go_simp; (try go_bits); exact rfl)); (focus (simp only [Act.put, List.setIfInBounds_toArray, List.set_cons_succ, List.set_cons_zero, Act.eval, Array.getD_eq_getD_getElem?, List.getElem?_toArray, List.getElem?_cons_succ, List.getElem?_cons_zero, Option.getD_some]; exact rfl)))
        | ((with_reducible refine h_read (v := ?_) (a' := ?_) ?_ (fun _ hbw => ?_) ?_ ?_); rotate_left; rotate_left; (focus (exact rfl)); (focus (skip; go_simp; (try go_bits); exact rfl)); (focus (simp only [Act.put, List.setIfInBounds_toArray, List.set_cons_succ, List.set_cons_zero, Act.eval, Array.getD_eq_getD_getElem?, List.getElem?_toArray, List.getElem?_cons_succ, List.getElem?_cons_zero, Option.getD_some]; exact rfl)))
    refine h_lit3 (size := 1) rfl rfl rfl rfl rfl rfl (by omega) (by omega) Tryz.underlying150 slInfo (fun w5 g5 b5 d5 => ?_)
    simp only [Act.put, List.setIfInBounds_toArray, List.set_cons_succ, List.set_cons_zero]
    have rF : Rd8 w5 (some ⟨g, 0, none⟩) 16 16 F := by
      have := ((PV.out.drew.belowAll (d4.trans (d5.mono d4.size))).rd8 16 (by omega) (by rw [HFl]; unfold maxLen; omega))
      rwa [HFl, List.take_of_length_le (by omega)] at this
    have hsl := sls3 rF (hr4.below d5) (MV.out.drew.below (d4.trans (d5.mono d4.size)))
    have hfl : ([F, t ++ zeros 8 (roomN n 16), X] : List (List (BitVec 8))).flatten.length ≤ 70368744177664 := by
      have h1 := MV.out.1
      have h2 := TN.out
      have h3 : roomN n 16 ≤ 16 := by unfold roomN; omega
      simp only [List.flatten_cons, List.flatten_nil, List.length_append, List.length_nil, zeros_length]
      omega
    (with_reducible refine h_call ?_ ?_)
    · exact rfl
    go_simp
    refine entersW_of ?_
    refine (concat_any g5 _ _ 3 w5 b5 hsl rfl (by omega) hfl).mono ?_
    rintro e w6 ⟨v6, rfl, o6, d6⟩
    refine ⟨_, rfl, d6, ?_⟩
    try simp only [Act.put, List.setIfInBounds_toArray, List.set_cons_succ, List.set_cons_zero]
    repeat
      first
        | ((with_reducible refine h_pure (v := ?_) (a' := ?_) ?_ (fun _ => ?_) ?_ ?_); rotate_left; rotate_left; (focus (exact rfl)); (focus (go_simp; (try go_bits); exact rfl)); (focus (simp only [Act.put, List.setIfInBounds_toArray, List.set_cons_succ, List.set_cons_zero, Act.eval, Array.getD_eq_getD_getElem?, List.getElem?_toArray, List.getElem?_cons_succ, List.getElem?_cons_zero, Option.getD_some]; exact rfl)))
        | ((with_reducible refine h_obl (v := ?_) (a' := ?_) ?_ (fun _ hcw => ?_) ?_ ?_); rotate_left; rotate_left; (focus (exact rfl)); (focus (skip; go_simp; (try go_bits); exact rfl)); (focus (simp only [Act.put, List.setIfInBounds_toArray, List.set_cons_succ, List.set_cons_zero, Act.eval, Array.getD_eq_getD_getElem?, List.getElem?_toArray, List.getElem?_cons_succ, List.getElem?_cons_zero, Option.getD_some]; exact rfl)))
        | ((with_reducible refine h_read (v := ?_) (a' := ?_) ?_ (fun _ hbw => ?_) ?_ ?_); rotate_left; rotate_left; (focus (exact rfl)); (focus (skip; go_simp; (try go_bits); exact rfl)); (focus (simp only [Act.put, List.setIfInBounds_toArray, List.set_cons_succ, List.set_cons_zero, Act.eval, Array.getD_eq_getD_getElem?, List.getElem?_toArray, List.getElem?_cons_succ, List.getElem?_cons_zero, Option.getD_some]; exact rfl)))
    refine h_tail [] rfl (by simp) (z_nil (hK' _ _ ?_))
    have D6 := ((d4.trans (d5.mono d4.size)).trans (d6.mono (d4.trans (d5.mono d4.size)).size))
    have B6 := Lib.hid (BV.out.drew.trans (D6.mono BV.out.size))
    have O6 := Lib.hid (Own8.base o6 (Nat.le_trans BV.out.size (d4.trans (d5.mono d4.size)).size))
    clear hC0 hCb hK' d4 d5 d6 D6 o6 hsl hfl rF b5 hr4 o4
    go_wp2
    go_ret
    exact ⟨_, rfl, by simpa [List.flatten_cons, TN.out] using O6.out, B6.out⟩
end Go.Proofs.YtfdkmjegcghieaaGreatDoor
/- val: Hash -/
namespace Go.Proofs.YtfdkmjegcghieaaGreatDoor
open Go.RowKit
theorem encB_length (t m : List (BitVec 8)) : (encB t m).length ≤ t.length + m.length + 64 := by
  have h1 : roomN t.length 16 ≤ 16 := by unfold roomN; omega
  have h2 : (lastB m).length ≤ m.length + 20 := by
    unfold lastB
    split
    · omega
    · rw [padL_length, List.length_append]
      have : roomN (m.length + 1) 16 ≤ 16 := by unfold roomN; omega
      simp only [List.length_cons, List.length_nil]
      simp only [Nat.zero_add]
      omega
  rw [encB, List.length_append, List.length_append, lenB_length, padL_length]
  omega
set_option linter.unusedSimpArgs false in
set_option maxRecDepth 100000 in
set_option maxHeartbeats 800000 in
theorem vhash_any (h t m : List (BitVec 8)) (hh : h.length = 16) (a b : Option Addr) (n c k d : Nat) (w : World) (ht : Rd8 w a n c t) (hm : Rd8 w b k d m) (hn : n ≤ 1000000) (hk : k ≤ 1000000) :
    Calls Tryz.prog 59 #[.agg (A8 h), .slice a n c, .slice b k d] w fun e w' => e = .returned (.agg (A8 (hashB h t m))) ∧ Below w.heap.size w w' := by
  obtain ⟨W, hW⟩ : ∃ W, (w.alloc (.cells (A8 h) 37)).alloc (.cells (A8 (zeros 8 16)) 37) = W := ⟨_, rfl⟩
  obtain ⟨b0, b1, hb, hz⟩ := new2 _ _ _ _ _ _ hW
  have P0 := Lib.hid b0
  have Z0 := Lib.hid b1
  have B0 := Lib.hid hb
  have T0 := Lib.hid (ht.below hb)
  have M0 := Lib.hid (hm.below hb)
  have hel := encB_length t m
  rw [ht.1, hm.1] at hel
  have hHl : (hashB h t m).length = 16 := hashB_length h t m
  obtain ⟨H, hH⟩ : ∃ H, H = hashB h t m := ⟨_, rfl⟩
  rw [← hH] at hHl ⊢
  have HH := Lib.hid hH
  clear b0 b1 hb hz ht hm hH
  go_enter Tryz.func59, Tryz.ntmps59
  go_upto_region 1 with fail
  clear hW
  refine wp_region_tail [5,0,0,2,2,3] (by kernel_rfl) (by kernel_rfl) (fun C hC0 hCb K' hK' => ?_)
  have R0 : ∀ w1, C w1 → rowAt w1 w.heap.size = A8 h := fun w1 h => (P0.out.drew.belowAll (hCb w1 h)).row
  repeat
    first
      | ((with_reducible refine h_pure (v := ?_) (a' := ?_) ?_ (fun _ => ?_) ?_ ?_); rotate_left; rotate_left; (focus (exact rfl)); (focus (go_simp; (try go_bits); exact rfl)); (focus (simp only [Act.put, List.setIfInBounds_toArray, List.set_cons_succ, List.set_cons_zero, Act.eval, Array.getD_eq_getD_getElem?, List.getElem?_toArray, List.getElem?_cons_succ, List.getElem?_cons_zero, Option.getD_some]; exact rfl)))
      | ((with_reducible refine h_obl (v := ?_) (a' := ?_) ?_ (fun _ hcw => ?_) ?_ ?_); rotate_left; rotate_left; (focus (exact rfl)); (focus (have f := R0 _ hcw; go_simp; (try go_bits); exact rfl)); (focus (simp only [Act.put, List.setIfInBounds_toArray, List.set_cons_succ, List.set_cons_zero, Act.eval, Array.getD_eq_getD_getElem?, List.getElem?_toArray, List.getElem?_cons_succ, List.getElem?_cons_zero, Option.getD_some]; exact rfl)))
      | ((with_reducible refine h_read (v := ?_) (a' := ?_) ?_ (fun _ hbw => ?_) ?_ ?_); rotate_left; rotate_left; (focus (exact rfl)); (focus (skip; go_simp; (try go_bits); exact rfl)); (focus (simp only [Act.put, List.setIfInBounds_toArray, List.set_cons_succ, List.set_cons_zero, Act.eval, Array.getD_eq_getD_getElem?, List.getElem?_toArray, List.getElem?_cons_succ, List.getElem?_cons_zero, Option.getD_some]; exact rfl)))
  (with_reducible refine h_call ?_ ?_)
  · exact rfl
  go_simp
  refine entersW_of ?_
  refine (vencode_any t m a b n c k d W.drew T0.out.drew M0.out.drew hn hk).mono ?_
  rintro e w1 ⟨v1, rfl, o1, d1⟩
  refine ⟨_, rfl, d1, ?_⟩
  try simp only [Act.put, List.setIfInBounds_toArray, List.set_cons_succ, List.set_cons_zero]
  obtain ⟨a1, c1, rfl, hr1, _⟩ := o1.rd
  (with_reducible refine h_call ?_ ?_)
  · exact rfl
  go_simp
  refine entersW_of ?_
  refine (vsum_any h (encB t m) hh a1 _ c1 w1 hr1 (by omega)).mono ?_
  rintro e w2 ⟨rfl, d2⟩
  refine ⟨_, rfl, d2, ?_⟩
  try simp only [Act.put, List.setIfInBounds_toArray, List.set_cons_succ, List.set_cons_zero]
  rw [show valSum h (encB t m) = H from HH.out.symm]
  refine h_tail [2] rfl (by simp) ?_
  have d12 := d1.trans (d2.mono d1.size)
  refine z_storeRow (Z0.out.drew.belowAll d12) rfl rfl (by rw [A8_size, A8_size, hHl, zeros_length]) (A8_ones _) (by rw [A8_size, hHl]; exact Tryz.sizeOf37 _) (fun w3 k3 g3 s3 => ?_)
  refine z_nil (hK' _ _ ?_)
  have B3 := Lib.hid ((B0.out.drew.trans (d12.mono B0.out.size)).grown g3 (Nat.le_trans B0.out.size d12.size) (fun k hk => by cases hk; omega))
  have r3 := k3.row
  clear R0 hC0 hCb hK' d1 d2 d12 o1 hr1 g3 s3 hel
  go_wp2
  refine bodyPost_row (A8 H) rfl rfl rfl (Tryz.isAgg37 _) (Tryz.sizeOf37 _) (by rw [A8_size]; exact hHl) r3 ⟨rfl, B3.out⟩
end Go.Proofs.YtfdkmjegcghieaaGreatDoor
