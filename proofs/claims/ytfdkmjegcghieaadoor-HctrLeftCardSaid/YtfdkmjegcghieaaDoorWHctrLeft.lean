/- HctrLeft: the walk -/
import Derived.Test.YtfdkmjegcghieaaDoorGl
import Derived.Test.YtfdkmjegcghieaaDoorHcQ
import Derived.Test.YtfdkmjegcghieaaDoorEq
import Derived.Test.YtfdkmjegcghieaaDoorGs
namespace Go.Proofs.YtfdkmjegcghieaaDoor
open Go.RowKit
set_option linter.unusedSimpArgs false in
set_option maxRecDepth 100000 in
set_option maxHeartbeats 1600000 in
theorem HctrLeft_walk (T : Array Value) (k : List (BitVec 8)) (s : BitVec 8) (a : Option Addr) (n c : Nat) (t : List (BitVec 8)) (b : Option Addr) (m d : Nat) (x : List (BitVec 8)) (ot : List (BitVec 8)) (w : World) (h : HText T k s a n c b m d) (ht : Rd8 w a n c t) (hx : Rd8 w b m d x) (hot : ot.length = 16) (hT : Turning w) :
    Calls Tryd.prog 5 #[.agg T, .agg (A8 ot)] w fun e w' => e = .returned (.bool true) ∧ Below w.heap.size w w' := by
  obtain ⟨W, hW⟩ : ∃ W, (w.alloc (.cells T 25)).alloc (.cells (A8 ot) 40) = W := ⟨_, rfl⟩
  obtain ⟨b0, b1, hb, hz⟩ := new2 _ _ _ _ _ _ hW
  have r0 := b0.row
  have P0 := Lib.hid b0
  have B0 := Lib.hid hb
  have T0 := Lib.hid (hT.below hb)
  have X0 := Lib.hid (ht.below hb)
  have M0 := Lib.hid (hx.below hb)
  have O0 := Lib.hid b1
  have s0 := h.size
  have x0 : T.extract 0 35 = T := by rw [← s0]; simp
  have HH := Lib.hid h
  have TW := Lib.hid h.tweak
  have MS := Lib.hid h.msg
  have hxl := hx.1
  have sh := short18_any W h
  clear hb hz hT ht hx h b0 b1
  by_cases hs : n ≤ 100 ∧ m ≤ 300
  · rw [decide_eq_true hs] at sh
    have SH := Lib.hid sh
    obtain ⟨hn, hm⟩ := hs
    clear sh
    go_enter Tryd.func5, Tryd.ntmps5
    go_wp2_with fail
    refine SH.out.mono ?_
    rintro e w1 ⟨rfl, d1⟩
    have P1 := Lib.hid (P0.out.belowAll d1)
    have B1 := Lib.hid (B0.out.trans (d1.mono B0.out.size))
    have T1 := Lib.hid (T0.out.below d1)
    have X1 := Lib.hid (X0.out.below d1)
    have M1 := Lib.hid (M0.out.below d1)
    have O1 := Lib.hid (O0.out.belowAll d1)
    have c2 := P1.out.cell 34
    rw [MS.out] at c2
    have r1 := P1.out.row
    clear d1 r0 hW SH P0 B0 T0 X0 M0 O0
    by_cases hm16 : m < 16
    · have f1 : (m : Int) < 16 := by omega
      go_wp2
      go_ret
      exact ⟨rfl, B1.out⟩
    · have f1 : ¬ (m : Int) < 16 := by omega
      go_wp2_with fail
      refine (cipher18_any w1 HH.out T1.out).mono ?_
      rintro e w2 ⟨q, ck, p, rfl, hk2, d2⟩
      obtain ⟨K, hK⟩ : ∃ K, K = k ++ [s] := ⟨_, rfl⟩
      rw [← hK] at hk2
      have hKl : K.length = 33 := by rw [hK, List.length_append, HH.out.lk]; rfl
      have hLl := LK_length K hKl
      obtain ⟨hm3, hm15⟩ := mK_bounds K
      unfold CiK at hk2
      obtain ⟨mm, hmm⟩ : ∃ mm, mm = mK K := ⟨_, rfl⟩
      obtain ⟨L, hL⟩ : ∃ L, L = LK K := ⟨_, rfl⟩
      rw [← hmm, ← hL] at hk2
      rw [← hmm] at hm3 hm15
      rw [← hmm, ← hL] at hLl
      obtain ⟨H, hH⟩ : ∃ H, H = hkey L mm := ⟨_, rfl⟩
      obtain ⟨lb, hlb⟩ : ∃ lb, lb = lkey L mm := ⟨_, rfl⟩
      rw [← hH, ← hlb] at hk2
      have K2 := Lib.hid hk2
      have HLL := Lib.hid hLl
      have P2 := Lib.hid (P1.out.belowAll d2)
      have B2 := Lib.hid (B1.out.trans (d2.mono B1.out.size))
      have T2 := Lib.hid (T1.out.below d2)
      have X2 := Lib.hid (X1.out.below d2)
      have M2 := Lib.hid (M1.out.below d2)
      have HMM := Lib.hid hmm
      have HL := Lib.hid hL
      have HK := Lib.hid hK
      have HHk := Lib.hid hH
      have HLB := Lib.hid hlb
      have O2 := Lib.hid (O1.out.belowAll d2)
      clear hH hlb hK hmm hL hk2 hLl c2 r1 d2 P1 B1 T1 X1 M1 O1
      go_upto_region 4 with fail
      refine wp_region_tail [2,5,2,2,0,0,0,0,0] (by kernel_rfl) (by kernel_rfl) (fun C0 hC0 hCb K' hK' => ?_)
      have R0 : ∀ w1, C0 w1 → (getAt 25 (.pointer (some ⟨w.heap.size, 0, none⟩))).run Tryd.prog w1 = .ok (.agg T) w1 := fun w1 hw => by
        have r := (P2.out.drew.belowAll (hCb w1 hw)).row
        go_simp
      (with_reducible refine h_call ?_ ?_)
      · exact rfl
      go_simp
      refine entersW_of ?_
      refine (tables18_any w2.drew T2.out).mono ?_
      rintro e w3 ⟨p2, rfl, t3, d3⟩
      refine ⟨_, rfl, d3, ?_⟩
      try simp only [Act.put, List.setIfInBounds_toArray, List.set_cons_succ, List.set_cons_zero]
      repeat
        first
          | ((with_reducible refine h_pure (v := ?_) (a' := ?_) ?_ (fun _ => ?_) ?_ ?_); rotate_left; rotate_left; (focus (exact rfl)); (focus (go_simp; (try go_bits); exact rfl)); (focus (simp only [Act.put, List.setIfInBounds_toArray, List.set_cons_succ, List.set_cons_zero, Act.eval, Array.getD_eq_getD_getElem?, List.getElem?_toArray, List.getElem?_cons_succ, List.getElem?_cons_zero, Option.getD_some]; exact rfl)))
          | ((with_reducible refine h_obl (v := ?_) (a' := ?_) ?_ (fun _ hcw => ?_) ?_ ?_); rotate_left; rotate_left; (focus (exact rfl)); (focus (have f := R0 _ hcw; go_simp; (try go_bits); exact rfl)); (focus (simp only [Act.put, List.setIfInBounds_toArray, List.set_cons_succ, List.set_cons_zero, Act.eval, Array.getD_eq_getD_getElem?, List.getElem?_toArray, List.getElem?_cons_succ, List.getElem?_cons_zero, Option.getD_some]; exact rfl)))
          | ((with_reducible refine h_read (v := ?_) (a' := ?_) ?_ (fun _ hbw => ?_) ?_ ?_); rotate_left; rotate_left; (focus (exact rfl)); (focus (skip; go_simp; (try go_bits); exact rfl)); (focus (simp only [Act.put, List.setIfInBounds_toArray, List.set_cons_succ, List.set_cons_zero, Act.eval, Array.getD_eq_getD_getElem?, List.getElem?_toArray, List.getElem?_cons_succ, List.getElem?_cons_zero, Option.getD_some]; exact rfl)))
      (with_reducible refine h_call ?_ ?_)
      · exact rfl
      go_simp
      refine entersW_of ?_
      refine (bytes18_any w3 HH.out).mono ?_
      rintro e w4 ⟨v4, rfl, o4, d4⟩
      refine ⟨_, rfl, d4, ?_⟩
      try simp only [Act.put, List.setIfInBounds_toArray, List.set_cons_succ, List.set_cons_zero]
      rw [← HK.out] at o4
      obtain ⟨a4, c4, rfl, hr4, _⟩ := o4.rd
      rw [keyB_length K hKl] at hr4 ⊢
      (with_reducible refine h_call ?_ ?_)
      · exact rfl
      go_simp
      refine entersW_of ?_
      refine (expandK_any p2 K a4 c4 w4 (t3.below d4) hr4).mono ?_
      rintro e w5 ⟨k5, rfl, hk5, d5⟩
      refine ⟨_, rfl, d5, ?_⟩
      try simp only [Act.put, List.setIfInBounds_toArray, List.set_cons_succ, List.set_cons_zero]
      rw [← HMM.out, ← HL.out] at hk5
      repeat
        first
          | ((with_reducible refine h_pure (v := ?_) (a' := ?_) ?_ (fun _ => ?_) ?_ ?_); rotate_left; rotate_left; (focus (exact rfl)); (focus (go_simp; (try go_bits); exact rfl)); (focus (simp only [Act.put, List.setIfInBounds_toArray, List.set_cons_succ, List.set_cons_zero, Act.eval, Array.getD_eq_getD_getElem?, List.getElem?_toArray, List.getElem?_cons_succ, List.getElem?_cons_zero, Option.getD_some]; exact rfl)))
          | ((with_reducible refine h_obl (v := ?_) (a' := ?_) ?_ (fun _ hcw => ?_) ?_ ?_); rotate_left; rotate_left; (focus (exact rfl)); (focus (skip; go_simp; (try go_bits); exact rfl)); (focus (simp only [Act.put, List.setIfInBounds_toArray, List.set_cons_succ, List.set_cons_zero, Act.eval, Array.getD_eq_getD_getElem?, List.getElem?_toArray, List.getElem?_cons_succ, List.getElem?_cons_zero, Option.getD_some]; exact rfl)))
          | ((with_reducible refine h_read (v := ?_) (a' := ?_) ?_ (fun _ hbw => ?_) ?_ ?_); rotate_left; rotate_left; (focus (exact rfl)); (focus (skip; go_simp; (try go_bits); exact rfl)); (focus (simp only [Act.put, List.setIfInBounds_toArray, List.set_cons_succ, List.set_cons_zero, Act.eval, Array.getD_eq_getD_getElem?, List.getElem?_toArray, List.getElem?_cons_succ, List.getElem?_cons_zero, Option.getD_some]; exact rfl)))
      refine h_tail [] rfl (by simp) (z_nil (hK' _ _ ?_))
      have D5 := d3.trans ((d4.trans (d5.mono d4.size)).mono d3.size)
      have E5 : Below w2.heap.size w2 w5 := ((Below.refl w2.heap.size w2).drew).trans D5
      have N5 := Lib.hid hk5
      have K5 := Lib.hid (K2.out.below E5)
      have P5 := Lib.hid (P2.out.belowAll E5)
      have B5 := Lib.hid (B2.out.trans (E5.mono B2.out.size))
      have T5 := Lib.hid (T2.out.below E5)
      have X5 := Lib.hid (X2.out.below E5)
      have M5 := Lib.hid (M2.out.below E5)
      have O5 := Lib.hid (O2.out.belowAll E5)
      clear R0 hC0 hCb hK' d3 d4 d5 D5 E5 o4 hr4 hk5 t3 K2 P2 B2 T2 X2 M2 O2 HH
      have hx16 : 16 ≤ x.length := by omega
      have hxd : (x.drop 16).length = m - 16 := by rw [List.length_drop, hxl]
      obtain ⟨y, hy⟩ : ∃ y, y = ot ++ x.drop 16 := ⟨_, rfl⟩
      have hyl : y.length = m := by rw [hy, List.length_append, hxd, hot]; omega
      have hy16 : 16 ≤ y.length := by omega
      have hyt : y.take 16 = ot := by rw [hy, List.take_left' hot]
      have hyd : y.drop 16 = x.drop 16 := by rw [hy, List.drop_left' hot]
      have ed : ∀ z : List (BitVec 8), z.length = 16 → decS L mm (encS L mm z) = z := fun z hz => dec_enc_aes L mm z hz HLL.out (by omega)
      have one1 := oneH_does (encS L mm) (fun z _ => encS_length L mm z) L mm H lb t x
      have one2 := oneH_does (encS L mm) (fun z _ => encS_length L mm z) L mm H lb t y
      have hAl : (doesS (encS L mm) L mm H lb t x).length = m := by rw [doesS_length _ _ _ _ _ _ _ hx16, hxl]
      have hQl : (doesS (encS L mm) L mm H lb t y).length = m := by rw [doesS_length _ _ _ _ _ _ _ hy16, hyl]
      obtain ⟨A, hA⟩ : ∃ A, A = doesS (encS L mm) L mm H lb t x := ⟨_, rfl⟩
      obtain ⟨Q, hQ⟩ : ∃ Q, Q = doesS (encS L mm) L mm H lb t y := ⟨_, rfl⟩
      rw [← hA] at one1 hAl
      rw [← hQ] at one2 hQl
      have canc : xor16 (oneH H t x) (oneH H t y) = xor16 (x.take 16) ot := by
        rw [oneH, oneH, hyt, hyd, xor16_cancel]
      obtain ⟨p1, hp1⟩ : ∃ z, z = oneH H t x := ⟨_, rfl⟩
      obtain ⟨q1, hq1⟩ : ∃ z, z = oneH H t y := ⟨_, rfl⟩
      rw [← hp1, ← hq1] at canc
      have hp1l : p1.length = 16 := by rw [hp1]; exact oneH_length _ _ _
      have hq1l : q1.length = 16 := by rw [hq1]; exact oneH_length _ _ _
      have dp : decS L mm (oneH H t A) = p1 := by rw [one1, ← hp1]; exact ed _ hp1l
      have dq : decS L mm (oneH H t Q) = q1 := by rw [one2, ← hq1]; exact ed _ hq1l
      have DP := Lib.hid dp
      have DQ := Lib.hid dq
      have CANC := Lib.hid canc
      have HA := Lib.hid hA
      have HQ := Lib.hid hQ
      have HY := Lib.hid hy
      clear ed one1 one2 canc hp1 hq1 dp dq hA hQ hyt hyd hy
      obtain ⟨bk, bo, rfl, _, _⟩ := M5.out.2.2.2 (by omega)
      obtain ⟨bA, eA⟩ : ∃ z, (if d = 16 then some (⟨bk, bo, none⟩ : Addr) else some ⟨bk, bo + 16, none⟩) = z := ⟨_, rfl⟩
      have mc := M5.out.cut (j := 16) (k := m) (by omega) (Nat.le_refl _)
      simp only [Option.map_some, Addr.add_lit] at mc
      rw [eA, List.take_of_length_le (by omega)] at mc
      have MC := Lib.hid mc
      clear mc
      have i1 : (16 : Int) ≤ (m : Int) := by omega
      have i2 : (m : Int) ≤ (d : Int) := by have := M5.out.2.1; omega
      go_upto_region 7 with fail
      refine wp_region_order [2,0,3,0,5,0,3,0] [1,3,4,5] [(0, 2, _)] (fun _ => []) [2,6,7] [_, _, _, _] [_, _, _] [0,0,5,0] [3,3,0] 1 rfl rfl rfl (by kernel_rfl) (by kernel_rfl) (by kernel_rfl) rfl rfl rfl (fun C0 hC0 hCb hCe K' hK' => ?_)
      have Q2 : ∀ w1, C0 w1 → w1.cell? ⟨w.heap.size, 34, none⟩ = some (.slice (some ⟨bk, bo, none⟩) m d) := fun w1 hw => by rw [(P5.out.drew.belowAll (hCb w1 hw)).cell]; exact MS.out
      repeat
        first
          | ((with_reducible refine h_pure (v := ?_) (a' := ?_) ?_ (fun _ => ?_) ?_ ?_); rotate_left; rotate_left; (focus (exact rfl)); (focus (go_simp; (try go_bits); exact rfl)); (focus (simp only [Act.put, List.setIfInBounds_toArray, List.set_cons_succ, List.set_cons_zero, Act.eval, Array.getD_eq_getD_getElem?, List.getElem?_toArray, List.getElem?_cons_succ, List.getElem?_cons_zero, Option.getD_some]; exact rfl)))
          | ((with_reducible refine h_obl (v := ?_) (a' := ?_) ?_ (fun _ hcw => ?_) ?_ ?_); rotate_left; rotate_left; (focus (exact rfl)); (focus (have f := Q2 _ hcw; go_simp; (try go_bits); exact rfl)); (focus (simp only [Act.put, List.setIfInBounds_toArray, List.set_cons_succ, List.set_cons_zero, Act.eval, Array.getD_eq_getD_getElem?, List.getElem?_toArray, List.getElem?_cons_succ, List.getElem?_cons_zero, Option.getD_some]; exact rfl)))
          | ((with_reducible refine h_read (v := ?_) (a' := ?_) ?_ (fun _ hbw => ?_) ?_ ?_); rotate_left; rotate_left; (focus (exact rfl)); (focus (skip; go_simp; (try go_bits); exact rfl)); (focus (simp only [Act.put, List.setIfInBounds_toArray, List.set_cons_succ, List.set_cons_zero, Act.eval, Array.getD_eq_getD_getElem?, List.getElem?_toArray, List.getElem?_cons_succ, List.getElem?_cons_zero, Option.getD_some]; exact rfl)))
      refine h_nil (permHO_one (opH_of_wpH ?_))
      clear Q2
      refine h_build0 (B := w5.heap.size) (Nat.le_refl _) Tryd.underlying23 info8 rfl (fun w6 v6 o6 d6 => ?_)
      simp only [Act.put, List.setIfInBounds_toArray, List.set_cons_succ, List.set_cons_zero]
      refine h_nil ?_
      have rO : Rd8 w6 (some ⟨w.heap.size + 1, 0, none⟩) 16 16 ot := by
        have := ((O5.out.drew.belowAll d6).rd8 16 (by omega) (by rw [hot]; unfold maxLen; omega))
        rwa [hot, List.take_of_length_le (by omega)] at this
      refine c_act ?_
      refine z_append8 o6 rO rfl rfl Tryd.underlying23 info8 (by simp) d6.size (fun w7 v7 o7 g7 b7 => ?_)
      simp only [Act.put, List.setIfInBounds_toArray, List.set_cons_succ, List.set_cons_zero]
      have BD7 := d6.trans b7
      refine z_nil ⟨hCe _ BD7, ?_⟩
      rw [List.nil_append] at o7
      refine c_act ?_
      refine z_append8 o7 (MC.out.drew.below BD7) rfl rfl Tryd.underlying23 info8 (by rw [hot]; omega) BD7.size (fun w8 v8_ o8 g8 b8 => ?_)
      simp only [Act.put, List.setIfInBounds_toArray, List.set_cons_succ, List.set_cons_zero]
      have BD8 := BD7.trans b8
      have hC8 := hCe _ BD8
      refine z_nil ⟨hC8, ?_⟩
      (refine c_pure (v := ?_) (a' := ?_) ?_ ?_ ?_ ?_ ?_)
      rotate_left
      rotate_left
      · assumption
      · exact rfl
      · (intro wq; go_simp; (try go_bits); exact rfl)
      · (simp only [Act.put, List.setIfInBounds_toArray, List.set_cons_succ, List.set_cons_zero, Act.eval, Array.getD_eq_getD_getElem?, List.getElem?_toArray, List.getElem?_cons_succ, List.getElem?_cons_zero, Option.getD_some]; exact rfl)
      refine c_nil (hK' _ _ ?_)
      rw [← HY.out] at o8
      obtain ⟨a8, c8, rfl, hr8, _⟩ := o8.rd
      rw [hyl] at hr8 ⊢
      have E8 : Below w5.heap.size w5 w8 := ((Below.refl w5.heap.size w5).drew).trans BD8
      have K8 := Lib.hid (K5.out.below E8)
      have N8 := Lib.hid (N5.out.below E8)
      have P8 := Lib.hid (P5.out.belowAll E8)
      have B8 := Lib.hid (B5.out.trans (E8.mono B5.out.size))
      have T8 := Lib.hid (T5.out.below E8)
      have X8 := Lib.hid (X5.out.below E8)
      have M8 := Lib.hid (M5.out.below E8)
      have O8 := Lib.hid (O5.out.belowAll E8)
      have Y8 := Lib.hid hr8
      clear hC0 hCb hCe hK' o6 d6 rO o7 g7 b7 BD7 o8 g8 b8 BD8 hC8 hr8 E8 K5 N5 P5 B5 T5 X5 M5 O5 MC eA i1 i2
      have c1 := P8.out.cell 33
      rw [TW.out] at c1
      have c2 := P8.out.cell 34
      rw [MS.out] at c2
      go_wp2_with fail
      refine (henc_any q ck p mm L H lb t x a (some ⟨bk, bo, none⟩) n c m d w8 K8.out (by omega) (by omega) X8.out M8.out (by omega) (by omega) (by omega)).mono ?_
      rintro e w9 ⟨v9, rfl, o9, d9⟩
      rw [← HA.out] at o9
      obtain ⟨a9, c9, rfl, hr9, _⟩ := o9.rd
      rw [hAl] at hr9 ⊢
      obtain ⟨gk9, go9, rfl, _, _⟩ := hr9.2.2.2 (by omega)
      have K9 := Lib.hid (K8.out.below d9)
      have N9 := Lib.hid (N8.out.below d9)
      have P9 := Lib.hid (P8.out.belowAll d9)
      have B9 := Lib.hid (B8.out.trans (d9.mono B8.out.size))
      have T9 := Lib.hid (T8.out.below d9)
      have X9 := Lib.hid (X8.out.below d9)
      have M9 := Lib.hid (M8.out.below d9)
      have O9 := Lib.hid (O8.out.belowAll d9)
      have Y9 := Lib.hid (Y8.out.below d9)
      have A9 := Lib.hid hr9
      clear o9 hr9 d9 c1 c2 K8 N8 P8 B8 T8 X8 M8 O8 Y8
      have c1 := P9.out.cell 33
      rw [TW.out] at c1
      have c2 := P9.out.cell 34
      rw [MS.out] at c2
      go_wp2_with fail
      refine (henc_any q ck p mm L H lb t y a a8 n c m c8 w9 K9.out (by omega) (by omega) X9.out Y9.out (by omega) (by omega) (by omega)).mono ?_
      rintro e w10 ⟨v10, rfl, o10, d10⟩
      rw [← HQ.out] at o10
      obtain ⟨a10, c10, rfl, hr10, _⟩ := o10.rd
      rw [hQl] at hr10 ⊢
      obtain ⟨gk10, go10, rfl, _, _⟩ := hr10.2.2.2 (by omega)
      have N10 := Lib.hid (N9.out.below d10)
      have P10 := Lib.hid (P9.out.belowAll d10)
      have B10 := Lib.hid (B9.out.trans (d10.mono B9.out.size))
      have T10 := Lib.hid (T9.out.below d10)
      have X10 := Lib.hid (X9.out.below d10)
      have M10 := Lib.hid (M9.out.below d10)
      have O10 := Lib.hid (O9.out.belowAll d10)
      have A10 := Lib.hid (A9.out.below d10)
      have Q10 := Lib.hid hr10
      clear o10 hr10 d10 c1 c2 K9 N9 P9 B9 T9 X9 M9 O9 Y9 A9
      go_wp2_with fail
      refine (encrypt_any k5 p2 mm L (zeros 8 16) w10 N10.out rfl (by omega) (by omega)).mono ?_
      rintro e w11 ⟨rfl, d11⟩
      rw [show encS L mm (zeros 8 16) = H from HHk.out.symm]
      have hHl : H.length = 16 := by rw [HHk.out]; exact encS_length L mm _
      obtain ⟨V, hV⟩ : ∃ V, V = w11.alloc (.cells (A8 H) 40) := ⟨_, rfl⟩
      have E11 : Below w10.heap.size w10 V := by rw [hV]; exact d11.alloc d11.size _
      have GV0 := Blk.new w11 40 (A8 H)
      rw [← hV] at GV0
      have GV := Lib.hid GV0
      have hVg := Lib.hid hV
      have NV := Lib.hid (N10.out.below E11)
      have PV := Lib.hid (P10.out.belowAll E11)
      have BV := Lib.hid (B10.out.trans (E11.mono B10.out.size))
      have TV := Lib.hid (T10.out.below E11)
      have XV := Lib.hid (X10.out.below E11)
      have MV := Lib.hid (M10.out.below E11)
      have OV := Lib.hid (O10.out.belowAll E11)
      have AV := Lib.hid (A10.out.below E11)
      have QV := Lib.hid (Q10.out.below E11)
      clear d11 E11 GV0 hV N10 P10 B10 T10 X10 M10 O10 A10 Q10
      go_upto_region 13 with fail
      rw [← hVg.out]
      clear hVg
      generalize w11.heap.size = g at *
      obtain ⟨tx, htx⟩ : ∃ z, z = A.take 16 := ⟨_, rfl⟩
      have htxl : tx.length = 16 := by rw [htx, List.length_take]; omega
      obtain ⟨hx, hhx⟩ : ∃ z, z = hashB H t (A.drop 16) := ⟨_, rfl⟩
      have hhxl : hx.length = 16 := by rw [hhx]; exact hashB_length _ _ _
      obtain ⟨sx, hsx⟩ : ∃ z, z = xor16 tx hx := ⟨_, rfl⟩
      have hsxl : sx.length = 16 := by rw [hsx]; exact xor16_length _ _
      have dx0 : decS L mm sx = p1 := by rw [hsx, htx, hhx]; exact DP.out
      have Dx := Lib.hid dx0
      have HTx := Lib.hid htx
      have HHx := Lib.hid hhx
      have HSx := Lib.hid hsx
      clear dx0 htx hhx hsx
      obtain ⟨bbx, ex⟩ : ∃ z, (if c9 = 16 then some (⟨gk9, go9, none⟩ : Addr) else some ⟨gk9, go9 + 16, none⟩) = z := ⟨_, rfl⟩
      have mc := AV.out.cut (j := 16) (k := m) (by omega) (Nat.le_refl _)
      simp only [Option.map_some, Addr.add_lit] at mc
      rw [ex, List.take_of_length_le (by omega)] at mc
      have Cx := Lib.hid mc
      clear mc
      have i1 : (16 : Int) ≤ (m : Int) := by omega
      have i2 : (m : Int) ≤ (c9 : Int) := by have := AV.out.2.1; omega
      refine wp_region_order [0,0,2,5,0,5,0,0,2,2,2,2,3] [0,1,3,4,5,6,7] [(2, 2, _), (8, 2, _), (9, 2, _), (10, 2, _), (11, 2, _)] (fun i => if i = 8 then [2] else if i = 9 then [8] else if i = 10 then [9] else []) [12] [_, _, _, _, _, _, _] [_] [0,0,5,0,5,0,0] [3] 5 rfl rfl rfl (by kernel_rfl) (by kernel_rfl) (by kernel_rfl) rfl rfl rfl (fun C0 hC0 hCb hCe K' hK' => ?_)
      have Q1 : ∀ w1, C0 w1 → rowAt w1 g = A8 H := fun w1 hw => (GV.out.drew.belowAll (hCb w1 hw)).row
      have Q2 : ∀ w1, C0 w1 → w1.cell? ⟨w.heap.size, 33, none⟩ = some (.slice a n c) := fun w1 hw => by rw [(PV.out.drew.belowAll (hCb w1 hw)).cell]; exact TW.out
      repeat
        first
          | ((with_reducible refine h_pure (v := ?_) (a' := ?_) ?_ (fun _ => ?_) ?_ ?_); rotate_left; rotate_left; (focus (exact rfl)); (focus (go_simp; (try go_bits); exact rfl)); (focus (simp only [Act.put, List.setIfInBounds_toArray, List.set_cons_succ, List.set_cons_zero, Act.eval, Array.getD_eq_getD_getElem?, List.getElem?_toArray, List.getElem?_cons_succ, List.getElem?_cons_zero, Option.getD_some]; exact rfl)))
          | ((with_reducible refine h_obl (v := ?_) (a' := ?_) ?_ (fun _ hcw => ?_) ?_ ?_); rotate_left; rotate_left; (focus (exact rfl)); (focus (have f1 := Q1 _ hcw; have f2 := Q2 _ hcw; go_simp; (try go_bits); exact rfl)); (focus (simp only [Act.put, List.setIfInBounds_toArray, List.set_cons_succ, List.set_cons_zero, Act.eval, Array.getD_eq_getD_getElem?, List.getElem?_toArray, List.getElem?_cons_succ, List.getElem?_cons_zero, Option.getD_some]; exact rfl)))
          | ((with_reducible refine h_read (v := ?_) (a' := ?_) ?_ (fun _ hbw => ?_) ?_ ?_); rotate_left; rotate_left; (focus (exact rfl)); (focus (skip; go_simp; (try go_bits); exact rfl)); (focus (simp only [Act.put, List.setIfInBounds_toArray, List.set_cons_succ, List.set_cons_zero, Act.eval, Array.getD_eq_getD_getElem?, List.getElem?_toArray, List.getElem?_cons_succ, List.getElem?_cons_zero, Option.getD_some]; exact rfl)))
      refine h_nil ?_
      clear Q1 Q2 ex i1 i2
      generalize hAct : Act.mk _ _ = act
      obtain ⟨u, rfl⟩ : ∃ u : Nat → Value, act = { tmps := (fun u : Nat → Value => (u 0 :: u 1 :: Value.pointer (some ⟨w.heap.size, 0, none⟩) :: Value.pointer (some ⟨w.heap.size + 1, 0, none⟩) :: u 4 :: u 5 :: u 6 :: Value.pointer (some ⟨k5, 0, none⟩) :: u 8 :: u 9 :: u 10 :: u 11 :: Value.slice (some ⟨gk10, go10, none⟩) m c10 :: u 13 :: Value.pointer (some ⟨g, 0, none⟩) :: u 15 :: u 16 :: u 17 :: u 18 :: u 19 :: u 20 :: u 21 :: u 22 :: u 23 :: u 24 :: u 25 :: u 26 :: u 27 :: u 28 :: u 29 :: u 30 :: u 31 :: u 32 :: u 33 :: u 34 :: u 35 :: u 36 :: u 37 :: u 38 :: u 39 :: u 40 :: u 41 :: u 42 :: u 43 :: u 44 :: u 45 :: u 46 :: u 47 :: u 48 :: u 49 :: u 50 :: u 51 :: u 52 :: u 53 :: u 54 :: u 55 :: u 56 :: u 57 :: u 58 :: u 59 :: u 60 :: u 61 :: u 62 :: u 63 :: u 64 :: u 65 :: u 66 :: u 67 :: u 68 :: u 69 :: u 70 :: u 71 :: u 72 :: u 73 :: u 74 :: u 75 :: u 76 :: u 77 :: u 78 :: u 79 :: u 80 :: u 81 :: u 82 :: u 83 :: u 84 :: u 85 :: u 86 :: u 87 :: u 88 :: u 89 :: u 90 :: u 91 :: u 92 :: u 93 :: u 94 :: Value.pointer (some ⟨k5, 0, none⟩) :: Value.slice (some ⟨gk9, go9, none⟩) m c9 :: u 97 :: Value.agg (A8 H) :: u 99 :: Value.slice a n c :: u 101 :: Value.slice bbx (m - 16) (c9 - 16) :: u 103 :: u 104 :: u 105 :: u 106 :: u 107 :: u 108 :: u 109 :: u 110 :: u 111 :: u 112 :: u 113 :: u 114 :: u 115 :: u 116 :: u 117 :: u 118 :: u 119 :: u 120 :: u 121 :: u 122 :: u 123 :: u 124 :: u 125 :: u 126 :: u 127 :: u 128 :: []).toArray) u, defers := [] } := by
        subst hAct; exact ex_frame _ rfl
      clear hAct
      obtain ⟨St, hSt⟩ : ∃ St : Nat → Bool → Act → World → Prop, ∀ kk fr a' w', St kk fr a' w' ↔ (∃ x97 x103 x104 x105 x15 : Value, a' = { tmps := (u 0 :: u 1 :: Value.pointer (some ⟨w.heap.size, 0, none⟩) :: Value.pointer (some ⟨w.heap.size + 1, 0, none⟩) :: u 4 :: u 5 :: u 6 :: Value.pointer (some ⟨k5, 0, none⟩) :: u 8 :: u 9 :: u 10 :: u 11 :: Value.slice (some ⟨gk10, go10, none⟩) m c10 :: u 13 :: Value.pointer (some ⟨g, 0, none⟩) :: x15 :: u 16 :: u 17 :: u 18 :: u 19 :: u 20 :: u 21 :: u 22 :: u 23 :: u 24 :: u 25 :: u 26 :: u 27 :: u 28 :: u 29 :: u 30 :: u 31 :: u 32 :: u 33 :: u 34 :: u 35 :: u 36 :: u 37 :: u 38 :: u 39 :: u 40 :: u 41 :: u 42 :: u 43 :: u 44 :: u 45 :: u 46 :: u 47 :: u 48 :: u 49 :: u 50 :: u 51 :: u 52 :: u 53 :: u 54 :: u 55 :: u 56 :: u 57 :: u 58 :: u 59 :: u 60 :: u 61 :: u 62 :: u 63 :: u 64 :: u 65 :: u 66 :: u 67 :: u 68 :: u 69 :: u 70 :: u 71 :: u 72 :: u 73 :: u 74 :: u 75 :: u 76 :: u 77 :: u 78 :: u 79 :: u 80 :: u 81 :: u 82 :: u 83 :: u 84 :: u 85 :: u 86 :: u 87 :: u 88 :: u 89 :: u 90 :: u 91 :: u 92 :: u 93 :: u 94 :: Value.pointer (some ⟨k5, 0, none⟩) :: Value.slice (some ⟨gk9, go9, none⟩) m c9 :: x97 :: Value.agg (A8 H) :: u 99 :: Value.slice a n c :: u 101 :: Value.slice bbx (m - 16) (c9 - 16) :: x103 :: x104 :: x105 :: u 106 :: u 107 :: u 108 :: u 109 :: u 110 :: u 111 :: u 112 :: u 113 :: u 114 :: u 115 :: u 116 :: u 117 :: u 118 :: u 119 :: u 120 :: u 121 :: u 122 :: u 123 :: u 124 :: u 125 :: u 126 :: u 127 :: u 128 :: []).toArray, defers := [] } ∧ Below V.drew.heap.size V.drew w' ∧ (1 ≤ kk → x97 = .agg (A8 tx)) ∧ (2 ≤ kk → x103 = .agg (A8 hx)) ∧ (3 ≤ kk → x104 = .agg (A8 sx)) ∧ (4 ≤ kk → x105 = .agg (A8 p1)) ∧ (fr = true → ∃ g, x15 = .pointer (some ⟨g, 0, none⟩) ∧ V.heap.size ≤ g ∧ Blk w' g 40 (A8 (zeros 8 16)))) := ⟨_, fun _ _ _ _ => Iff.rfl⟩
      refine permHO_chain (St := St) [_, _, _, _] _ 0 ⟨?xs1, ?xs2, ?xs3, ?xs4, trivial⟩ ?xf ?xch ?xnd ?xR _ _ ?x0
      case x0 => exact (hSt _ _ _ _).2 ⟨_, _, _, _, _, rfl, Below.refl _ _, fun h => by omega, fun h => by omega, fun h => by omega, fun h => by omega, fun h => by cases h⟩
      case xch => exact ⟨by decide, by decide, by decide, trivial⟩
      case xnd => decide
      case xs1 =>
        intro fr a3 w3 hs
        obtain ⟨x97, x103, x104, x105, x15, rfl, D3, h1, h2, h3, h4, hf⟩ := (hSt _ _ _ _).1 hs
        clear hs
        refine opH_of_wpH ?_
        (with_reducible refine h_call ?_ ?_)
        · exact rfl
        go_simp
        refine entersW_of ?_
        refine (block_any A (some ⟨gk9, go9, none⟩) m c9 w3 (AV.out.drew.below D3)).mono ?_
        rintro e w4 ⟨rfl, d4⟩
        refine ⟨_, rfl, d4, ?_⟩
        try simp only [Act.put, List.setIfInBounds_toArray, List.set_cons_succ, List.set_cons_zero]
        rw [blk_take A (by omega), ← HTx.out]
        refine h_nil ((hSt _ _ _ _).2 ⟨_, _, _, _, _, rfl, D3.trans (d4.mono D3.size), fun _ => rfl, fun h => by omega, fun h => by omega, fun h => by omega, fun e => ?_⟩)
        obtain ⟨g, e1, e2, e3⟩ := hf e
        exact ⟨g, e1, e2, e3.belowAll d4⟩
      case xs2 =>
        intro fr a3 w3 hs
        obtain ⟨x97, x103, x104, x105, x15, rfl, D3, h1, h2, h3, h4, hf⟩ := (hSt _ _ _ _).1 hs
        clear hs
        obtain rfl := h1 (by omega)
        refine opH_of_wpH ?_
        (with_reducible refine h_call ?_ ?_)
        · exact rfl
        go_simp
        refine entersW_of ?_
        refine (vhash_any H t (A.drop 16) hHl a bbx n c (m - 16) (c9 - 16) w3 (XV.out.drew.below D3) (Cx.out.drew.below D3) (by omega) (by omega)).mono ?_
        rintro e w4 ⟨rfl, d4⟩
        refine ⟨_, rfl, d4, ?_⟩
        try simp only [Act.put, List.setIfInBounds_toArray, List.set_cons_succ, List.set_cons_zero]
        rw [← HHx.out]
        refine h_nil ((hSt _ _ _ _).2 ⟨_, _, _, _, _, rfl, D3.trans (d4.mono D3.size), fun _ => rfl, fun _ => rfl, fun h => by omega, fun h => by omega, fun e => ?_⟩)
        obtain ⟨g, e1, e2, e3⟩ := hf e
        exact ⟨g, e1, e2, e3.belowAll d4⟩
      case xs3 =>
        intro fr a3 w3 hs
        obtain ⟨x97, x103, x104, x105, x15, rfl, D3, h1, h2, h3, h4, hf⟩ := (hSt _ _ _ _).1 hs
        clear hs
        obtain rfl := h1 (by omega)
        obtain rfl := h2 (by omega)
        refine opH_of_wpH ?_
        (with_reducible refine h_call ?_ ?_)
        · exact rfl
        go_simp
        refine entersW_of ?_
        refine (plus18_any tx hx w3 htxl hhxl).mono ?_
        rintro e w4 ⟨rfl, d4⟩
        refine ⟨_, rfl, d4, ?_⟩
        try simp only [Act.put, List.setIfInBounds_toArray, List.set_cons_succ, List.set_cons_zero]
        rw [← HSx.out]
        refine h_nil ((hSt _ _ _ _).2 ⟨_, _, _, _, _, rfl, D3.trans (d4.mono D3.size), fun _ => rfl, fun _ => rfl, fun _ => rfl, fun h => by omega, fun e => ?_⟩)
        obtain ⟨g, e1, e2, e3⟩ := hf e
        exact ⟨g, e1, e2, e3.belowAll d4⟩
      case xs4 =>
        intro fr a3 w3 hs
        obtain ⟨x97, x103, x104, x105, x15, rfl, D3, h1, h2, h3, h4, hf⟩ := (hSt _ _ _ _).1 hs
        clear hs
        obtain rfl := h1 (by omega)
        obtain rfl := h2 (by omega)
        obtain rfl := h3 (by omega)
        refine opH_of_wpH ?_
        (with_reducible refine h_call ?_ ?_)
        · exact rfl
        go_simp
        refine entersW_of ?_
        refine (decrypt_any k5 p2 mm L sx w3 (NV.out.drew.below D3) hsxl (by omega) (by omega)).mono ?_
        rintro e w4 ⟨rfl, d4⟩
        refine ⟨_, rfl, d4, ?_⟩
        try simp only [Act.put, List.setIfInBounds_toArray, List.set_cons_succ, List.set_cons_zero]
        rw [Dx.out]
        refine h_nil ((hSt _ _ _ _).2 ⟨_, _, _, _, _, rfl, D3.trans (d4.mono D3.size), fun _ => rfl, fun _ => rfl, fun _ => rfl, fun _ => rfl, fun e => ?_⟩)
        obtain ⟨g, e1, e2, e3⟩ := hf e
        exact ⟨g, e1, e2, e3.belowAll d4⟩
      case xf =>
        intro j hj a3 w3 hs
        obtain ⟨x97, x103, x104, x105, x15, rfl, D3, h1, h2, h3, h4, hf⟩ := (hSt _ _ _ _).1 hs
        clear hs
        refine opH_of_wpH ?_
        obtain ⟨u3, eu3⟩ : ∃ u, w3.alloc (.cells (A8 (zeros 8 16)) 40) = u := ⟨_, rfl⟩
        obtain ⟨bf, du, zu⟩ := new1 _ _ _ _ eu3
        obtain ⟨pf, hpf⟩ : ∃ g, g = w3.heap.size := ⟨_, rfl⟩
        refine h_made (v := .pointer (some ⟨pf, 0, none⟩)) (w' := u3) rfl (by rw [hpf]; go_simp; exact eu3) du ?_
        simp only [Act.put, List.setIfInBounds_toArray, List.set_cons_succ, List.set_cons_zero]
        rw [← hpf] at bf
        exact h_nil ((hSt _ _ _ _).2 ⟨_, _, _, _, _, rfl, D3.trans (du.mono D3.size), h1, h2, h3, h4, fun _ => ⟨pf, rfl, by rw [hpf]; exact D3.size, bf⟩⟩)
      case xR =>
        intro a3 w3 hs
        obtain ⟨x97, x103, x104, x105, x15, rfl, D3, h1, h2, h3, h4, hf⟩ := (hSt _ _ _ _).1 hs
        clear hs hSt
        obtain rfl := h4 (by decide)
        obtain ⟨gp, rfl, hg, bg⟩ := hf rfl
        refine c_act ?_
        refine z_storeRow bg rfl rfl (by rw [A8_size, A8_size, hp1l, zeros_length]) (A8_ones _) (by rw [A8_size, hp1l]; exact Tryd.sizeOf40 _) (fun w12 kk4 g4 s4 => ?_)
        have BD := D3.trans (grown_below g4 hg D3.size)
        refine z_nil ⟨hCe _ BD, ?_⟩
        refine c_nil (hK' _ _ ?_)
        have E4 : Below V.heap.size V w12 := ((Below.refl V.heap.size V).drew).trans BD
        have N12 := Lib.hid (NV.out.below E4)
        have P12 := Lib.hid (PV.out.belowAll E4)
        have B12 := Lib.hid (BV.out.trans (E4.mono BV.out.size))
        have T12 := Lib.hid (TV.out.below E4)
        have X12 := Lib.hid (XV.out.below E4)
        have M12 := Lib.hid (MV.out.below E4)
        have O12 := Lib.hid (OV.out.belowAll E4)
        have Q12 := Lib.hid (QV.out.below E4)
        have G12 := Lib.hid (GV.out.belowAll E4)
        have J12 := Lib.hid kk4
        clear hK' hC0 hCb hCe BD D3 h1 h2 h3 h4 hf bg g4 s4 kk4 E4
        obtain ⟨ty, hty⟩ : ∃ z, z = Q.take 16 := ⟨_, rfl⟩
        have htyl : ty.length = 16 := by rw [hty, List.length_take]; omega
        obtain ⟨hy, hhy⟩ : ∃ z, z = hashB H t (Q.drop 16) := ⟨_, rfl⟩
        have hhyl : hy.length = 16 := by rw [hhy]; exact hashB_length _ _ _
        obtain ⟨sy, hsy⟩ : ∃ z, z = xor16 ty hy := ⟨_, rfl⟩
        have hsyl : sy.length = 16 := by rw [hsy]; exact xor16_length _ _
        have dy0 : decS L mm sy = q1 := by rw [hsy, hty, hhy]; exact DQ.out
        have Dy := Lib.hid dy0
        have HTy := Lib.hid hty
        have HHy := Lib.hid hhy
        have HSy := Lib.hid hsy
        clear dy0 hty hhy hsy
        obtain ⟨bby, ey⟩ : ∃ z, (if c10 = 16 then some (⟨gk10, go10, none⟩ : Addr) else some ⟨gk10, go10 + 16, none⟩) = z := ⟨_, rfl⟩
        have mc := Q12.out.cut (j := 16) (k := m) (by omega) (Nat.le_refl _)
        simp only [Option.map_some, Addr.add_lit] at mc
        rw [ey, List.take_of_length_le (by omega)] at mc
        have Cy := Lib.hid mc
        clear mc
        have i1 : (16 : Int) ≤ (m : Int) := by omega
        have i2 : (m : Int) ≤ (c10 : Int) := by have := Q12.out.2.1; omega
        go_upto_region 14 with fail
        refine wp_region_order [0,0,2,5,0,5,0,0,2,2,2,2,3] [0,1,3,4,5,6,7] [(2, 2, _), (8, 2, _), (9, 2, _), (10, 2, _), (11, 2, _)] (fun i => if i = 8 then [2] else if i = 9 then [8] else if i = 10 then [9] else []) [12] [_, _, _, _, _, _, _] [_] [0,0,5,0,5,0,0] [3] 5 rfl rfl rfl (by kernel_rfl) (by kernel_rfl) (by kernel_rfl) rfl rfl rfl (fun C0 hC0 hCb hCe K' hK' => ?_)
        have Q1 : ∀ w1, C0 w1 → rowAt w1 g = A8 H := fun w1 hw => (G12.out.drew.belowAll (hCb w1 hw)).row
        have Q2 : ∀ w1, C0 w1 → w1.cell? ⟨w.heap.size, 33, none⟩ = some (.slice a n c) := fun w1 hw => by rw [(P12.out.drew.belowAll (hCb w1 hw)).cell]; exact TW.out
        repeat
          first
            | ((with_reducible refine h_pure (v := ?_) (a' := ?_) ?_ (fun _ => ?_) ?_ ?_); rotate_left; rotate_left; (focus (exact rfl)); (focus (go_simp; (try go_bits); exact rfl)); (focus (simp only [Act.put, List.setIfInBounds_toArray, List.set_cons_succ, List.set_cons_zero, Act.eval, Array.getD_eq_getD_getElem?, List.getElem?_toArray, List.getElem?_cons_succ, List.getElem?_cons_zero, Option.getD_some]; exact rfl)))
            | ((with_reducible refine h_obl (v := ?_) (a' := ?_) ?_ (fun _ hcw => ?_) ?_ ?_); rotate_left; rotate_left; (focus (exact rfl)); (focus (have f1 := Q1 _ hcw; have f2 := Q2 _ hcw; go_simp; (try go_bits); exact rfl)); (focus (simp only [Act.put, List.setIfInBounds_toArray, List.set_cons_succ, List.set_cons_zero, Act.eval, Array.getD_eq_getD_getElem?, List.getElem?_toArray, List.getElem?_cons_succ, List.getElem?_cons_zero, Option.getD_some]; exact rfl)))
            | ((with_reducible refine h_read (v := ?_) (a' := ?_) ?_ (fun _ hbw => ?_) ?_ ?_); rotate_left; rotate_left; (focus (exact rfl)); (focus (skip; go_simp; (try go_bits); exact rfl)); (focus (simp only [Act.put, List.setIfInBounds_toArray, List.set_cons_succ, List.set_cons_zero, Act.eval, Array.getD_eq_getD_getElem?, List.getElem?_toArray, List.getElem?_cons_succ, List.getElem?_cons_zero, Option.getD_some]; exact rfl)))
        refine h_nil ?_
        clear Q1 Q2 ey i1 i2
        generalize hAct : Act.mk _ _ = act
        obtain ⟨u, rfl⟩ : ∃ u : Nat → Value, act = { tmps := (fun u : Nat → Value => (u 0 :: u 1 :: Value.pointer (some ⟨w.heap.size, 0, none⟩) :: Value.pointer (some ⟨w.heap.size + 1, 0, none⟩) :: u 4 :: u 5 :: u 6 :: Value.pointer (some ⟨k5, 0, none⟩) :: u 8 :: u 9 :: u 10 :: u 11 :: Value.slice (some ⟨gk10, go10, none⟩) m c10 :: u 13 :: Value.pointer (some ⟨g, 0, none⟩) :: Value.pointer (some ⟨gp, 0, none⟩) :: u 16 :: u 17 :: u 18 :: u 19 :: u 20 :: u 21 :: u 22 :: u 23 :: u 24 :: u 25 :: u 26 :: u 27 :: u 28 :: u 29 :: u 30 :: u 31 :: u 32 :: u 33 :: u 34 :: u 35 :: u 36 :: u 37 :: u 38 :: u 39 :: u 40 :: u 41 :: u 42 :: u 43 :: u 44 :: u 45 :: u 46 :: u 47 :: u 48 :: u 49 :: u 50 :: u 51 :: u 52 :: u 53 :: u 54 :: u 55 :: u 56 :: u 57 :: u 58 :: u 59 :: u 60 :: u 61 :: u 62 :: u 63 :: u 64 :: u 65 :: u 66 :: u 67 :: u 68 :: u 69 :: u 70 :: u 71 :: u 72 :: u 73 :: u 74 :: u 75 :: u 76 :: u 77 :: u 78 :: u 79 :: u 80 :: u 81 :: u 82 :: u 83 :: u 84 :: u 85 :: u 86 :: u 87 :: u 88 :: u 89 :: u 90 :: u 91 :: u 92 :: u 93 :: u 94 :: u 95 :: u 96 :: u 97 :: u 98 :: u 99 :: u 100 :: u 101 :: u 102 :: u 103 :: u 104 :: u 105 :: Value.pointer (some ⟨k5, 0, none⟩) :: Value.slice (some ⟨gk10, go10, none⟩) m c10 :: u 108 :: Value.agg (A8 H) :: u 110 :: Value.slice a n c :: u 112 :: Value.slice bby (m - 16) (c10 - 16) :: u 114 :: u 115 :: u 116 :: u 117 :: u 118 :: u 119 :: u 120 :: u 121 :: u 122 :: u 123 :: u 124 :: u 125 :: u 126 :: u 127 :: u 128 :: []).toArray) u, defers := [] } := by
          subst hAct; exact ex_frame _ rfl
        clear hAct
        obtain ⟨St, hSt⟩ : ∃ St : Nat → Bool → Act → World → Prop, ∀ kk fr a' w', St kk fr a' w' ↔ (∃ x108 x114 x115 x116 x16 : Value, a' = { tmps := (u 0 :: u 1 :: Value.pointer (some ⟨w.heap.size, 0, none⟩) :: Value.pointer (some ⟨w.heap.size + 1, 0, none⟩) :: u 4 :: u 5 :: u 6 :: Value.pointer (some ⟨k5, 0, none⟩) :: u 8 :: u 9 :: u 10 :: u 11 :: Value.slice (some ⟨gk10, go10, none⟩) m c10 :: u 13 :: Value.pointer (some ⟨g, 0, none⟩) :: Value.pointer (some ⟨gp, 0, none⟩) :: x16 :: u 17 :: u 18 :: u 19 :: u 20 :: u 21 :: u 22 :: u 23 :: u 24 :: u 25 :: u 26 :: u 27 :: u 28 :: u 29 :: u 30 :: u 31 :: u 32 :: u 33 :: u 34 :: u 35 :: u 36 :: u 37 :: u 38 :: u 39 :: u 40 :: u 41 :: u 42 :: u 43 :: u 44 :: u 45 :: u 46 :: u 47 :: u 48 :: u 49 :: u 50 :: u 51 :: u 52 :: u 53 :: u 54 :: u 55 :: u 56 :: u 57 :: u 58 :: u 59 :: u 60 :: u 61 :: u 62 :: u 63 :: u 64 :: u 65 :: u 66 :: u 67 :: u 68 :: u 69 :: u 70 :: u 71 :: u 72 :: u 73 :: u 74 :: u 75 :: u 76 :: u 77 :: u 78 :: u 79 :: u 80 :: u 81 :: u 82 :: u 83 :: u 84 :: u 85 :: u 86 :: u 87 :: u 88 :: u 89 :: u 90 :: u 91 :: u 92 :: u 93 :: u 94 :: u 95 :: u 96 :: u 97 :: u 98 :: u 99 :: u 100 :: u 101 :: u 102 :: u 103 :: u 104 :: u 105 :: Value.pointer (some ⟨k5, 0, none⟩) :: Value.slice (some ⟨gk10, go10, none⟩) m c10 :: x108 :: Value.agg (A8 H) :: u 110 :: Value.slice a n c :: u 112 :: Value.slice bby (m - 16) (c10 - 16) :: x114 :: x115 :: x116 :: u 117 :: u 118 :: u 119 :: u 120 :: u 121 :: u 122 :: u 123 :: u 124 :: u 125 :: u 126 :: u 127 :: u 128 :: []).toArray, defers := [] } ∧ Below w12.drew.heap.size w12.drew w' ∧ (1 ≤ kk → x108 = .agg (A8 ty)) ∧ (2 ≤ kk → x114 = .agg (A8 hy)) ∧ (3 ≤ kk → x115 = .agg (A8 sy)) ∧ (4 ≤ kk → x116 = .agg (A8 q1)) ∧ (fr = true → ∃ g, x16 = .pointer (some ⟨g, 0, none⟩) ∧ w12.heap.size ≤ g ∧ Blk w' g 40 (A8 (zeros 8 16)))) := ⟨_, fun _ _ _ _ => Iff.rfl⟩
        refine permHO_chain (St := St) [_, _, _, _] _ 0 ⟨?ys1, ?ys2, ?ys3, ?ys4, trivial⟩ ?yf ?ych ?ynd ?yR _ _ ?y0
        case y0 => exact (hSt _ _ _ _).2 ⟨_, _, _, _, _, rfl, Below.refl _ _, fun h => by omega, fun h => by omega, fun h => by omega, fun h => by omega, fun h => by cases h⟩
        case ych => exact ⟨by decide, by decide, by decide, trivial⟩
        case ynd => decide
        case ys1 =>
          intro fr a3 w3 hs
          obtain ⟨x108, x114, x115, x116, x16, rfl, D3, h1, h2, h3, h4, hf⟩ := (hSt _ _ _ _).1 hs
          clear hs
          refine opH_of_wpH ?_
          (with_reducible refine h_call ?_ ?_)
          · exact rfl
          go_simp
          refine entersW_of ?_
          refine (block_any Q (some ⟨gk10, go10, none⟩) m c10 w3 (Q12.out.drew.below D3)).mono ?_
          rintro e w4 ⟨rfl, d4⟩
          refine ⟨_, rfl, d4, ?_⟩
          try simp only [Act.put, List.setIfInBounds_toArray, List.set_cons_succ, List.set_cons_zero]
          rw [blk_take Q (by omega), ← HTy.out]
          refine h_nil ((hSt _ _ _ _).2 ⟨_, _, _, _, _, rfl, D3.trans (d4.mono D3.size), fun _ => rfl, fun h => by omega, fun h => by omega, fun h => by omega, fun e => ?_⟩)
          obtain ⟨g, e1, e2, e3⟩ := hf e
          exact ⟨g, e1, e2, e3.belowAll d4⟩
        case ys2 =>
          intro fr a3 w3 hs
          obtain ⟨x108, x114, x115, x116, x16, rfl, D3, h1, h2, h3, h4, hf⟩ := (hSt _ _ _ _).1 hs
          clear hs
          obtain rfl := h1 (by omega)
          refine opH_of_wpH ?_
          (with_reducible refine h_call ?_ ?_)
          · exact rfl
          go_simp
          refine entersW_of ?_
          refine (vhash_any H t (Q.drop 16) hHl a bby n c (m - 16) (c10 - 16) w3 (X12.out.drew.below D3) (Cy.out.drew.below D3) (by omega) (by omega)).mono ?_
          rintro e w4 ⟨rfl, d4⟩
          refine ⟨_, rfl, d4, ?_⟩
          try simp only [Act.put, List.setIfInBounds_toArray, List.set_cons_succ, List.set_cons_zero]
          rw [← HHy.out]
          refine h_nil ((hSt _ _ _ _).2 ⟨_, _, _, _, _, rfl, D3.trans (d4.mono D3.size), fun _ => rfl, fun _ => rfl, fun h => by omega, fun h => by omega, fun e => ?_⟩)
          obtain ⟨g, e1, e2, e3⟩ := hf e
          exact ⟨g, e1, e2, e3.belowAll d4⟩
        case ys3 =>
          intro fr a3 w3 hs
          obtain ⟨x108, x114, x115, x116, x16, rfl, D3, h1, h2, h3, h4, hf⟩ := (hSt _ _ _ _).1 hs
          clear hs
          obtain rfl := h1 (by omega)
          obtain rfl := h2 (by omega)
          refine opH_of_wpH ?_
          (with_reducible refine h_call ?_ ?_)
          · exact rfl
          go_simp
          refine entersW_of ?_
          refine (plus18_any ty hy w3 htyl hhyl).mono ?_
          rintro e w4 ⟨rfl, d4⟩
          refine ⟨_, rfl, d4, ?_⟩
          try simp only [Act.put, List.setIfInBounds_toArray, List.set_cons_succ, List.set_cons_zero]
          rw [← HSy.out]
          refine h_nil ((hSt _ _ _ _).2 ⟨_, _, _, _, _, rfl, D3.trans (d4.mono D3.size), fun _ => rfl, fun _ => rfl, fun _ => rfl, fun h => by omega, fun e => ?_⟩)
          obtain ⟨g, e1, e2, e3⟩ := hf e
          exact ⟨g, e1, e2, e3.belowAll d4⟩
        case ys4 =>
          intro fr a3 w3 hs
          obtain ⟨x108, x114, x115, x116, x16, rfl, D3, h1, h2, h3, h4, hf⟩ := (hSt _ _ _ _).1 hs
          clear hs
          obtain rfl := h1 (by omega)
          obtain rfl := h2 (by omega)
          obtain rfl := h3 (by omega)
          refine opH_of_wpH ?_
          (with_reducible refine h_call ?_ ?_)
          · exact rfl
          go_simp
          refine entersW_of ?_
          refine (decrypt_any k5 p2 mm L sy w3 (N12.out.drew.below D3) hsyl (by omega) (by omega)).mono ?_
          rintro e w4 ⟨rfl, d4⟩
          refine ⟨_, rfl, d4, ?_⟩
          try simp only [Act.put, List.setIfInBounds_toArray, List.set_cons_succ, List.set_cons_zero]
          rw [Dy.out]
          refine h_nil ((hSt _ _ _ _).2 ⟨_, _, _, _, _, rfl, D3.trans (d4.mono D3.size), fun _ => rfl, fun _ => rfl, fun _ => rfl, fun _ => rfl, fun e => ?_⟩)
          obtain ⟨g, e1, e2, e3⟩ := hf e
          exact ⟨g, e1, e2, e3.belowAll d4⟩
        case yf =>
          intro j hj a3 w3 hs
          obtain ⟨x108, x114, x115, x116, x16, rfl, D3, h1, h2, h3, h4, hf⟩ := (hSt _ _ _ _).1 hs
          clear hs
          refine opH_of_wpH ?_
          obtain ⟨u3, eu3⟩ : ∃ u, w3.alloc (.cells (A8 (zeros 8 16)) 40) = u := ⟨_, rfl⟩
          obtain ⟨bf, du, zu⟩ := new1 _ _ _ _ eu3
          obtain ⟨pf, hpf⟩ : ∃ g, g = w3.heap.size := ⟨_, rfl⟩
          refine h_made (v := .pointer (some ⟨pf, 0, none⟩)) (w' := u3) rfl (by rw [hpf]; go_simp; exact eu3) du ?_
          simp only [Act.put, List.setIfInBounds_toArray, List.set_cons_succ, List.set_cons_zero]
          rw [← hpf] at bf
          exact h_nil ((hSt _ _ _ _).2 ⟨_, _, _, _, _, rfl, D3.trans (du.mono D3.size), h1, h2, h3, h4, fun _ => ⟨pf, rfl, by rw [hpf]; exact D3.size, bf⟩⟩)
        case yR =>
          intro a3 w3 hs
          obtain ⟨x108, x114, x115, x116, x16, rfl, D3, h1, h2, h3, h4, hf⟩ := (hSt _ _ _ _).1 hs
          clear hs hSt
          obtain rfl := h4 (by decide)
          obtain ⟨gq, rfl, hg, bg⟩ := hf rfl
          refine c_act ?_
          refine z_storeRow bg rfl rfl (by rw [A8_size, A8_size, hq1l, zeros_length]) (A8_ones _) (by rw [A8_size, hq1l]; exact Tryd.sizeOf40 _) (fun w13 kk4 g4 s4 => ?_)
          have BD := D3.trans (grown_below g4 hg D3.size)
          refine z_nil ⟨hCe _ BD, ?_⟩
          refine c_nil (hK' _ _ ?_)
          have E4 : Below w12.heap.size w12 w13 := ((Below.refl w12.heap.size w12).drew).trans BD
          have P13 := Lib.hid (P12.out.belowAll E4)
          have B13 := Lib.hid (B12.out.trans (E4.mono B12.out.size))
          have T13 := Lib.hid (T12.out.below E4)
          have M13 := Lib.hid (M12.out.below E4)
          have O13 := Lib.hid (O12.out.belowAll E4)
          have J13 := Lib.hid (J12.out.belowAll E4)
          have I13 := Lib.hid kk4
          clear hK' hC0 hCb hCe BD D3 h1 h2 h3 h4 hf bg g4 s4 kk4 E4
          go_upto_region 15 with fail
          refine wp_region_tail [5,5,2,0,5,2,5,2,0,0,2,0,0] (by kernel_rfl) (by kernel_rfl) (fun C0 hC0 hCb K' hK' => ?_)
          have Q1 : ∀ w1, C0 w1 → rowAt w1 gp = A8 p1 := fun w1 hw => (J13.out.drew.belowAll (hCb w1 hw)).row
          have Q3 : ∀ w1, C0 w1 → rowAt w1 gq = A8 q1 := fun w1 hw => (I13.out.drew.belowAll (hCb w1 hw)).row
          have Q4 : ∀ w1, C0 w1 → rowAt w1 (w.heap.size + 1) = A8 ot := fun w1 hw => (O13.out.drew.belowAll (hCb w1 hw)).row
          have Q2 : ∀ w1, C0 w1 → w1.cell? ⟨w.heap.size, 34, none⟩ = some (.slice (some ⟨bk, bo, none⟩) m d) := fun w1 hw => by rw [(P13.out.drew.belowAll (hCb w1 hw)).cell]; exact MS.out
          have hxt : (x.take 16).length = 16 := by rw [List.length_take]; omega
          obtain ⟨Z, hZ⟩ : ∃ z, z = xor16 (x.take 16) ot := ⟨_, rfl⟩
          have hZl : Z.length = 16 := by rw [hZ]; exact xor16_length _ _
          have HZ := Lib.hid hZ
          clear hZ
          repeat
            first
              | ((with_reducible refine h_pure (v := ?_) (a' := ?_) ?_ (fun _ => ?_) ?_ ?_); rotate_left; rotate_left; (focus (exact rfl)); (focus (go_simp; (try go_bits); exact rfl)); (focus (simp only [Act.put, List.setIfInBounds_toArray, List.set_cons_succ, List.set_cons_zero, Act.eval, Array.getD_eq_getD_getElem?, List.getElem?_toArray, List.getElem?_cons_succ, List.getElem?_cons_zero, Option.getD_some]; exact rfl)))
              | ((with_reducible refine h_obl (v := ?_) (a' := ?_) ?_ (fun _ hcw => ?_) ?_ ?_); rotate_left; rotate_left; (focus (exact rfl)); (focus (have f1 := Q1 _ hcw; have f3 := Q3 _ hcw; have f2 := Q2 _ hcw; have f4 := Q4 _ hcw; go_simp; (try go_bits); exact rfl)); (focus (simp only [Act.put, List.setIfInBounds_toArray, List.set_cons_succ, List.set_cons_zero, Act.eval, Array.getD_eq_getD_getElem?, List.getElem?_toArray, List.getElem?_cons_succ, List.getElem?_cons_zero, Option.getD_some]; exact rfl)))
              | ((with_reducible refine h_read (v := ?_) (a' := ?_) ?_ (fun _ hbw => ?_) ?_ ?_); rotate_left; rotate_left; (focus (exact rfl)); (focus (skip; go_simp; (try go_bits); exact rfl)); (focus (simp only [Act.put, List.setIfInBounds_toArray, List.set_cons_succ, List.set_cons_zero, Act.eval, Array.getD_eq_getD_getElem?, List.getElem?_toArray, List.getElem?_cons_succ, List.getElem?_cons_zero, Option.getD_some]; exact rfl)))
          (with_reducible refine h_call ?_ ?_)
          · exact rfl
          go_simp
          refine entersW_of ?_
          refine (plus18_any p1 q1 w13.drew hp1l hq1l).mono ?_
          rintro e w14 ⟨rfl, d14⟩
          refine ⟨_, rfl, d14, ?_⟩
          try simp only [Act.put, List.setIfInBounds_toArray, List.set_cons_succ, List.set_cons_zero]
          rw [CANC.out, ← HZ.out]
          repeat
            first
              | ((with_reducible refine h_pure (v := ?_) (a' := ?_) ?_ (fun _ => ?_) ?_ ?_); rotate_left; rotate_left; (focus (exact rfl)); (focus (go_simp; (try go_bits); exact rfl)); (focus (simp only [Act.put, List.setIfInBounds_toArray, List.set_cons_succ, List.set_cons_zero, Act.eval, Array.getD_eq_getD_getElem?, List.getElem?_toArray, List.getElem?_cons_succ, List.getElem?_cons_zero, Option.getD_some]; exact rfl)))
              | ((with_reducible refine h_obl (v := ?_) (a' := ?_) ?_ (fun _ hcw => ?_) ?_ ?_); rotate_left; rotate_left; (focus (exact rfl)); (focus (have f1 := Q1 _ hcw; have f3 := Q3 _ hcw; have f2 := Q2 _ hcw; have f4 := Q4 _ hcw; go_simp; (try go_bits); exact rfl)); (focus (simp only [Act.put, List.setIfInBounds_toArray, List.set_cons_succ, List.set_cons_zero, Act.eval, Array.getD_eq_getD_getElem?, List.getElem?_toArray, List.getElem?_cons_succ, List.getElem?_cons_zero, Option.getD_some]; exact rfl)))
              | ((with_reducible refine h_read (v := ?_) (a' := ?_) ?_ (fun _ hbw => ?_) ?_ ?_); rotate_left; rotate_left; (focus (exact rfl)); (focus (skip; go_simp; (try go_bits); exact rfl)); (focus (simp only [Act.put, List.setIfInBounds_toArray, List.set_cons_succ, List.set_cons_zero, Act.eval, Array.getD_eq_getD_getElem?, List.getElem?_toArray, List.getElem?_cons_succ, List.getElem?_cons_zero, Option.getD_some]; exact rfl)))
          (with_reducible refine h_call ?_ ?_)
          · exact rfl
          go_simp
          refine entersW_of ?_
          refine (block_any x (some ⟨bk, bo, none⟩) m d w14 (M13.out.drew.below d14)).mono ?_
          rintro e w15 ⟨rfl, d15⟩
          refine ⟨_, rfl, d15, ?_⟩
          try simp only [Act.put, List.setIfInBounds_toArray, List.set_cons_succ, List.set_cons_zero]
          rw [blk_take x (by omega)]
          have e15 := d14.trans (d15.mono d14.size)
          repeat
            first
              | ((with_reducible refine h_pure (v := ?_) (a' := ?_) ?_ (fun _ => ?_) ?_ ?_); rotate_left; rotate_left; (focus (exact rfl)); (focus (go_simp; (try go_bits); exact rfl)); (focus (simp only [Act.put, List.setIfInBounds_toArray, List.set_cons_succ, List.set_cons_zero, Act.eval, Array.getD_eq_getD_getElem?, List.getElem?_toArray, List.getElem?_cons_succ, List.getElem?_cons_zero, Option.getD_some]; exact rfl)))
              | ((with_reducible refine h_obl (v := ?_) (a' := ?_) ?_ (fun _ hcw => ?_) ?_ ?_); rotate_left; rotate_left; (focus (exact rfl)); (focus (have f1 := Q1 _ hcw; have f3 := Q3 _ hcw; have f2 := Q2 _ hcw; have f4 := Q4 _ hcw; go_simp; (try go_bits); exact rfl)); (focus (simp only [Act.put, List.setIfInBounds_toArray, List.set_cons_succ, List.set_cons_zero, Act.eval, Array.getD_eq_getD_getElem?, List.getElem?_toArray, List.getElem?_cons_succ, List.getElem?_cons_zero, Option.getD_some]; exact rfl)))
              | ((with_reducible refine h_read (v := ?_) (a' := ?_) ?_ (fun _ hbw => ?_) ?_ ?_); rotate_left; rotate_left; (focus (exact rfl)); (focus (skip; go_simp; (try go_bits); exact rfl)); (focus (simp only [Act.put, List.setIfInBounds_toArray, List.set_cons_succ, List.set_cons_zero, Act.eval, Array.getD_eq_getD_getElem?, List.getElem?_toArray, List.getElem?_cons_succ, List.getElem?_cons_zero, Option.getD_some]; exact rfl)))
          (with_reducible refine h_call ?_ ?_)
          · exact rfl
          go_simp
          refine entersW_of ?_
          refine (plus18_any (x.take 16) ot w15 hxt hot).mono ?_
          rintro e w16 ⟨rfl, d16⟩
          refine ⟨_, rfl, d16, ?_⟩
          try simp only [Act.put, List.setIfInBounds_toArray, List.set_cons_succ, List.set_cons_zero]
          rw [← HZ.out]
          have e16 := e15.trans (d16.mono e15.size)
          repeat
            first
              | ((with_reducible refine h_pure (v := ?_) (a' := ?_) ?_ (fun _ => ?_) ?_ ?_); rotate_left; rotate_left; (focus (exact rfl)); (focus (go_simp; (try go_bits); exact rfl)); (focus (simp only [Act.put, List.setIfInBounds_toArray, List.set_cons_succ, List.set_cons_zero, Act.eval, Array.getD_eq_getD_getElem?, List.getElem?_toArray, List.getElem?_cons_succ, List.getElem?_cons_zero, Option.getD_some]; exact rfl)))
              | ((with_reducible refine h_obl (v := ?_) (a' := ?_) ?_ (fun _ hcw => ?_) ?_ ?_); rotate_left; rotate_left; (focus (exact rfl)); (focus (skip; go_simp; (try go_bits); exact rfl)); (focus (simp only [Act.put, List.setIfInBounds_toArray, List.set_cons_succ, List.set_cons_zero, Act.eval, Array.getD_eq_getD_getElem?, List.getElem?_toArray, List.getElem?_cons_succ, List.getElem?_cons_zero, Option.getD_some]; exact rfl)))
              | ((with_reducible refine h_read (v := ?_) (a' := ?_) ?_ (fun _ hbw => ?_) ?_ ?_); rotate_left; rotate_left; (focus (exact rfl)); (focus (skip; go_simp; (try go_bits); exact rfl)); (focus (simp only [Act.put, List.setIfInBounds_toArray, List.set_cons_succ, List.set_cons_zero, Act.eval, Array.getD_eq_getD_getElem?, List.getElem?_toArray, List.getElem?_cons_succ, List.getElem?_cons_zero, Option.getD_some]; exact rfl)))
          (with_reducible refine h_call ?_ ?_)
          · exact rfl
          go_simp
          refine entersW_of ?_
          refine (awake18_any w16 (T13.out.below (((Below.refl w13.heap.size w13).drew).trans e16))).mono ?_
          rintro e w17 ⟨rfl, d17⟩
          refine ⟨_, rfl, d17, ?_⟩
          try simp only [Act.put, List.setIfInBounds_toArray, List.set_cons_succ, List.set_cons_zero]
          repeat
            first
              | ((with_reducible refine h_pure (v := ?_) (a' := ?_) ?_ (fun _ => ?_) ?_ ?_); rotate_left; rotate_left; (focus (exact rfl)); (focus (go_simp; (try go_bits); exact rfl)); (focus (simp only [Act.put, List.setIfInBounds_toArray, List.set_cons_succ, List.set_cons_zero, Act.eval, Array.getD_eq_getD_getElem?, List.getElem?_toArray, List.getElem?_cons_succ, List.getElem?_cons_zero, Option.getD_some]; exact rfl)))
              | ((with_reducible refine h_obl (v := ?_) (a' := ?_) ?_ (fun _ hcw => ?_) ?_ ?_); rotate_left; rotate_left; (focus (exact rfl)); (focus (skip; go_simp; (try go_bits); exact rfl)); (focus (simp only [Act.put, List.setIfInBounds_toArray, List.set_cons_succ, List.set_cons_zero, Act.eval, Array.getD_eq_getD_getElem?, List.getElem?_toArray, List.getElem?_cons_succ, List.getElem?_cons_zero, Option.getD_some]; exact rfl)))
              | ((with_reducible refine h_read (v := ?_) (a' := ?_) ?_ (fun _ hbw => ?_) ?_ ?_); rotate_left; rotate_left; (focus (exact rfl)); (focus (skip; go_simp; (try go_bits); exact rfl)); (focus (simp only [Act.put, List.setIfInBounds_toArray, List.set_cons_succ, List.set_cons_zero, Act.eval, Array.getD_eq_getD_getElem?, List.getElem?_toArray, List.getElem?_cons_succ, List.getElem?_cons_zero, Option.getD_some]; exact rfl)))
          refine h_tail [] rfl (by simp) (z_nil (hK' _ _ ?_))
          have e17 := e16.trans (d17.mono e16.size)
          have B17 := Lib.hid (B13.out.drew.trans (e17.mono B13.out.size))
          clear Q1 Q2 Q3 Q4 hC0 hCb hK' d14 d15 d16 d17 e15 e16 e17
          go_wp2
          go_ret
          exact ⟨rfl, B17.out⟩
  · rw [decide_eq_false hs] at sh
    have SH := Lib.hid sh
    clear sh hs
    go_enter Tryd.func5, Tryd.ntmps5
    go_wp2_with fail
    refine SH.out.mono ?_
    rintro e w1 ⟨rfl, d1⟩
    go_wp2
    go_ret
    exact ⟨rfl, B0.out.trans (d1.mono B0.out.size)⟩
end Go.Proofs.YtfdkmjegcghieaaDoor
