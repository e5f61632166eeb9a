/- HctrEnciphers: the walk -/
import Derived.Test.YtfdkmjegcghieaaGreatDoorGl
import Derived.Test.YtfdkmjegcghieaaGreatDoorGs
import Derived.Test.YtfdkmjegcghieaaGreatDoorIc
namespace Go.Proofs.YtfdkmjegcghieaaGreatDoor
open Go.RowKit
set_option linter.unusedSimpArgs false in
set_option maxRecDepth 100000 in
set_option maxHeartbeats 1600000 in
theorem HctrEnciphers_walk (T : Array Value) (k : List (BitVec 8)) (s : BitVec 8) (a : Option Addr) (n c : Nat) (t : List (BitVec 8)) (b : Option Addr) (m d : Nat) (x : List (BitVec 8)) (w : World) (h : HText T k s a n c b m d) (ht : Rd8 w a n c t) (hx : Rd8 w b m d x) (hT : Turning w) :
    Calls Tryz.prog 3 #[.agg T] w fun e w' => e = .returned (.bool true) ∧ Below w.heap.size w w' := by
  obtain ⟨W, hW⟩ : ∃ W, (w.alloc (.cells T 25)) = W := ⟨_, rfl⟩
  obtain ⟨b0, hb, hz⟩ := new1 _ _ _ _ hW
  have r0 := b0.row
  have P0 := Lib.hid b0
  have B0 := Lib.hid hb
  have T0 := Lib.hid (hT.below hb)
  have X0 := Lib.hid (ht.below hb)
  have M0 := Lib.hid (hx.below hb)
  have s0 := h.size
  have x0 : T.extract 0 35 = T := by rw [← s0]; simp
  have HH := Lib.hid h
  have TW := Lib.hid h.tweak
  have MS := Lib.hid h.msg
  have hxl := hx.1
  have sh := short18_any W h
  clear hb hz hT ht hx h b0
  by_cases hs : n ≤ 100 ∧ m ≤ 300
  · rw [decide_eq_true hs] at sh
    have SH := Lib.hid sh
    obtain ⟨hn, hm⟩ := hs
    clear sh
    go_enter Tryz.func3, Tryz.ntmps3
    go_wp2_with fail
    refine SH.out.mono ?_
    rintro e w1 ⟨rfl, d1⟩
    have P1 := Lib.hid (P0.out.belowAll d1)
    have B1 := Lib.hid (B0.out.trans (d1.mono B0.out.size))
    have T1 := Lib.hid (T0.out.below d1)
    have X1 := Lib.hid (X0.out.below d1)
    have M1 := Lib.hid (M0.out.below d1)
    have r1 := P1.out.row
    clear d1 r0 hW SH P0 B0 T0 X0 M0
    go_wp2_with fail
    refine (cipher18_any w1 HH.out T1.out).mono ?_
    rintro e w2 ⟨q, ck, p, rfl, hk2, d2⟩
    obtain ⟨K, hK⟩ : ∃ K, K = k ++ [s] := ⟨_, rfl⟩
    rw [← hK] at hk2
    have hKl : K.length = 33 := by rw [hK, List.length_append, HH.out.lk]; rfl
    have hLl := LK_length K hKl
    obtain ⟨hm3, hm15⟩ := mK_bounds K
    unfold CiK at hk2
    obtain ⟨mm, hmm⟩ : ∃ mm, mm = mK K := ⟨_, rfl⟩
    obtain ⟨L, hL⟩ : ∃ L, L = LK K := ⟨_, rfl⟩
    rw [← hmm, ← hL] at hk2
    rw [← hmm] at hm3 hm15
    rw [← hmm, ← hL] at hLl
    obtain ⟨H, hH⟩ : ∃ H, H = hkey L mm := ⟨_, rfl⟩
    obtain ⟨lb, hlb⟩ : ∃ lb, lb = lkey L mm := ⟨_, rfl⟩
    rw [← hH, ← hlb] at hk2
    have K2 := Lib.hid hk2
    have HLL := Lib.hid hLl
    have P2 := Lib.hid (P1.out.belowAll d2)
    have B2 := Lib.hid (B1.out.trans (d2.mono B1.out.size))
    have T2 := Lib.hid (T1.out.below d2)
    have X2 := Lib.hid (X1.out.below d2)
    have M2 := Lib.hid (M1.out.below d2)
    have HMM := Lib.hid hmm
    have HLe := Lib.hid hL
    have HK := Lib.hid hK
    have HHk := Lib.hid hH
    have HLB := Lib.hid hlb
    clear hH hlb hK hmm hL hk2 hLl r1 d2 P1 B1 T1 X1 M1
    by_cases hm16 : m < 16
    · have f1 : (m : Int) < 16 := by omega
      have c1 := P2.out.cell 33
      rw [TW.out] at c1
      have c2 := P2.out.cell 34
      rw [MS.out] at c2
      go_wp2_with fail
      refine (henc_short q _ b m d w2 hm16).mono ?_
      rintro e w3 ⟨rfl, d3⟩
      have P3 := Lib.hid (P2.out.belowAll d3)
      have B3 := Lib.hid (B2.out.trans (d3.mono B2.out.size))
      have T3 := Lib.hid (T2.out.below d3)
      clear d3 c1 c2 P2 B2 T2 K2 X2 M2 HH
      have c1 := P3.out.cell 33
      rw [TW.out] at c1
      have c2 := P3.out.cell 34
      rw [MS.out] at c2
      go_wp2_with fail
      refine (hdec_short q _ b m d w3 hm16).mono ?_
      rintro e w4 ⟨rfl, d4⟩
      have P4 := Lib.hid (P3.out.belowAll d4)
      have B4 := Lib.hid (B3.out.trans (d4.mono B3.out.size))
      have T4 := Lib.hid (T3.out.below d4)
      clear d4 c1 c2 P3 B3 T3
      have c1 := P4.out.cell 33
      rw [TW.out] at c1
      have c2 := P4.out.cell 34
      rw [MS.out] at c2
      go_wp2_with fail
      refine (awake18_any w4 T4.out).mono ?_
      rintro e w7 ⟨rfl, d7⟩
      go_wp2
      go_ret
      exact ⟨rfl, B4.out.trans (d7.mono B4.out.size)⟩
    · have f1 : ¬ (m : Int) < 16 := by omega
      have hx16 : 16 ≤ x.length := by omega
      have hHl : H.length = 16 := by rw [HHk.out]; exact encS_length L mm _
      have hlbl : lb.length = 16 := by rw [HLB.out]; exact encS_length L mm _
      have hAl : (doesS (encS L mm) L mm H lb t x).length = m := by rw [doesS_length _ _ _ _ _ _ _ hx16, hxl]
      have hPl : (doesS (decS L mm) L mm H lb t x).length = m := by rw [doesS_length _ _ _ _ _ _ _ hx16, hxl]
      obtain ⟨A, hA⟩ : ∃ A, A = doesS (encS L mm) L mm H lb t x := ⟨_, rfl⟩
      obtain ⟨Q, hQ⟩ : ∃ Q, Q = doesS (decS L mm) L mm H lb t x := ⟨_, rfl⟩
      rw [← hA] at hAl
      rw [← hQ] at hPl
      have HA := Lib.hid hA
      have HQ := Lib.hid hQ
      clear hA hQ
      have c1 := P2.out.cell 33
      rw [TW.out] at c1
      have c2 := P2.out.cell 34
      rw [MS.out] at c2
      go_wp2_with fail
      refine (henc_any q ck p mm L H lb t x a b n c m d w2 K2.out (by omega) (by omega) X2.out M2.out (by omega) (by omega) (by omega)).mono ?_
      rintro e w3 ⟨v3, rfl, o3, d3⟩
      rw [← HA.out] at o3
      obtain ⟨a3, c3, rfl, hr3, _⟩ := o3.rd
      rw [hAl] at hr3 ⊢
      have K3 := Lib.hid (K2.out.below d3)
      have P3 := Lib.hid (P2.out.belowAll d3)
      have B3 := Lib.hid (B2.out.trans (d3.mono B2.out.size))
      have T3 := Lib.hid (T2.out.below d3)
      have X3 := Lib.hid (X2.out.below d3)
      have M3 := Lib.hid (M2.out.below d3)
      have A3 := Lib.hid hr3
      clear o3 hr3 d3 c1 c2 K2 P2 B2 T2 X2 M2
      have c1 := P3.out.cell 33
      rw [TW.out] at c1
      have c2 := P3.out.cell 34
      rw [MS.out] at c2
      go_wp2_with fail
      refine (hdec_any q ck p mm L H lb t x a b n c m d w3 K3.out (by omega) (by omega) X3.out M3.out (by omega) (by omega) (by omega)).mono ?_
      rintro e w4 ⟨v4, rfl, o4, d4⟩
      rw [← HQ.out] at o4
      obtain ⟨a4, c4, rfl, hr4, _⟩ := o4.rd
      rw [hPl] at hr4 ⊢
      have P4 := Lib.hid (P3.out.belowAll d4)
      have B4 := Lib.hid (B3.out.trans (d4.mono B3.out.size))
      have T4 := Lib.hid (T3.out.below d4)
      have X4 := Lib.hid (X3.out.below d4)
      have M4 := Lib.hid (M3.out.below d4)
      have A4 := Lib.hid (A3.out.below d4)
      have Q4 := Lib.hid hr4
      clear o4 hr4 d4 c1 c2 K3 P3 B3 T3 X3 M3 A3
      have c1 := P4.out.cell 33
      rw [TW.out] at c1
      have c2 := P4.out.cell 34
      rw [MS.out] at c2
      go_upto_region 10 with fail
      clear c1 c2
      obtain ⟨XB, hXB⟩ : ∃ z, z = boxesL := ⟨_, rfl⟩
      have hXl : XB.length = 512 := by rw [hXB]; exact boxesL_length
      have hBX : BoxL XB boxT backT := by rw [hXB]; exact boxL_all
      have HXB := Lib.hid hXB
      clear hXB
      obtain ⟨ZC, hZC⟩ : ∃ z, z = C18 (zeros 8 512) (.slice none 0 0) (zeros 8 32) := ⟨_, rfl⟩
      have hZCs : ZC.size = 545 := by rw [hZC]; exact C18_size (by rw [zeros_length]) _ (by rw [zeros_length])
      have HZC := Lib.hid hZC
      clear hZC
      refine wp_region_order [2,5,2,2,2,3] [1] [(0, 2, _), (2, 2, _), (3, 2, _), (4, 2, _)] (fun i => if i = 2 then [0] else if i = 3 then [2] else []) [5] [_] [_] [5] [3] 4 rfl rfl rfl (by kernel_rfl) (by kernel_rfl) (by kernel_rfl) rfl rfl rfl (fun C0 hC0 hCb hCe K' hK' => ?_)
      have Q1 : ∀ w1, C0 w1 → rowAt w1 w.heap.size = T := fun w1 hw => (P4.out.drew.belowAll (hCb w1 hw)).row
      repeat
        first
          | ((with_reducible refine h_pure (v := ?_) (a' := ?_) ?_ (fun _ => ?_) ?_ ?_); rotate_left; rotate_left; (focus (exact rfl)); (focus (go_simp; (try go_bits); exact rfl)); (focus (simp only [Act.put, List.setIfInBounds_toArray, List.set_cons_succ, List.set_cons_zero, Act.eval, Array.getD_eq_getD_getElem?, List.getElem?_toArray, List.getElem?_cons_succ, List.getElem?_cons_zero, Option.getD_some]; exact rfl)))
          | ((with_reducible refine h_obl (v := ?_) (a' := ?_) ?_ (fun _ hcw => ?_) ?_ ?_); rotate_left; rotate_left; (focus (exact rfl)); (focus (have f1 := Q1 _ hcw; go_simp; (try go_bits); exact rfl)); (focus (simp only [Act.put, List.setIfInBounds_toArray, List.set_cons_succ, List.set_cons_zero, Act.eval, Array.getD_eq_getD_getElem?, List.getElem?_toArray, List.getElem?_cons_succ, List.getElem?_cons_zero, Option.getD_some]; exact rfl)))
          | ((with_reducible refine h_read (v := ?_) (a' := ?_) ?_ (fun _ hbw => ?_) ?_ ?_); rotate_left; rotate_left; (focus (exact rfl)); (focus (skip; go_simp; (try go_bits); exact rfl)); (focus (simp only [Act.put, List.setIfInBounds_toArray, List.set_cons_succ, List.set_cons_zero, Act.eval, Array.getD_eq_getD_getElem?, List.getElem?_toArray, List.getElem?_cons_succ, List.getElem?_cons_zero, Option.getD_some]; exact rfl)))
      refine h_nil ?_
      clear Q1
      generalize hAct : Act.mk _ _ = act
      obtain ⟨u, rfl⟩ : ∃ u : Nat → Value, act = { tmps := (fun u : Nat → Value => (u 0 :: Value.pointer (some ⟨w.heap.size, 0, none⟩) :: u 2 :: Value.pointer (some ⟨q, 0, none⟩) :: Value.bool true :: Value.slice a3 m c3 :: Value.int IntKind.i64 0 :: Value.slice a4 m c4 :: Value.int IntKind.i64 0 :: u 9 :: u 10 :: u 11 :: u 12 :: u 13 :: u 14 :: u 15 :: u 16 :: u 17 :: u 18 :: u 19 :: u 20 :: u 21 :: u 22 :: u 23 :: u 24 :: u 25 :: u 26 :: u 27 :: u 28 :: u 29 :: u 30 :: u 31 :: u 32 :: u 33 :: u 34 :: u 35 :: u 36 :: u 37 :: u 38 :: u 39 :: u 40 :: u 41 :: u 42 :: u 43 :: u 44 :: u 45 :: u 46 :: u 47 :: u 48 :: u 49 :: u 50 :: u 51 :: u 52 :: u 53 :: u 54 :: u 55 :: u 56 :: u 57 :: u 58 :: u 59 :: Value.agg T :: u 61 :: u 62 :: u 63 :: u 64 :: u 65 :: u 66 :: u 67 :: u 68 :: u 69 :: u 70 :: u 71 :: u 72 :: u 73 :: u 74 :: u 75 :: u 76 :: u 77 :: u 78 :: u 79 :: u 80 :: u 81 :: u 82 :: u 83 :: u 84 :: u 85 :: u 86 :: u 87 :: u 88 :: u 89 :: u 90 :: u 91 :: u 92 :: u 93 :: u 94 :: u 95 :: []).toArray) u, defers := [] } := by
        subst hAct; exact ex_frame _ rfl
      clear hAct
      obtain ⟨St, hSt⟩ : ∃ St : Nat → Bool → Act → World → Prop, ∀ kk fr a' w', St kk fr a' w' ↔ (∃ x59 x61 x62 x9 : Value, a' = { tmps := (u 0 :: Value.pointer (some ⟨w.heap.size, 0, none⟩) :: u 2 :: Value.pointer (some ⟨q, 0, none⟩) :: Value.bool true :: Value.slice a3 m c3 :: Value.int IntKind.i64 0 :: Value.slice a4 m c4 :: Value.int IntKind.i64 0 :: x9 :: u 10 :: u 11 :: u 12 :: u 13 :: u 14 :: u 15 :: u 16 :: u 17 :: u 18 :: u 19 :: u 20 :: u 21 :: u 22 :: u 23 :: u 24 :: u 25 :: u 26 :: u 27 :: u 28 :: u 29 :: u 30 :: u 31 :: u 32 :: u 33 :: u 34 :: u 35 :: u 36 :: u 37 :: u 38 :: u 39 :: u 40 :: u 41 :: u 42 :: u 43 :: u 44 :: u 45 :: u 46 :: u 47 :: u 48 :: u 49 :: u 50 :: u 51 :: u 52 :: u 53 :: u 54 :: u 55 :: u 56 :: u 57 :: u 58 :: x59 :: Value.agg T :: x61 :: x62 :: u 63 :: u 64 :: u 65 :: u 66 :: u 67 :: u 68 :: u 69 :: u 70 :: u 71 :: u 72 :: u 73 :: u 74 :: u 75 :: u 76 :: u 77 :: u 78 :: u 79 :: u 80 :: u 81 :: u 82 :: u 83 :: u 84 :: u 85 :: u 86 :: u 87 :: u 88 :: u 89 :: u 90 :: u 91 :: u 92 :: u 93 :: u 94 :: u 95 :: []).toArray, defers := [] } ∧ Below w4.drew.heap.size w4.drew w' ∧ (1 ≤ kk → x59 = .agg (A8 XB)) ∧ (2 ≤ kk → ∃ ay cy, x61 = .slice ay (keyN K) cy ∧ Rd8 w' ay (keyN K) cy (keyB K)) ∧ (3 ≤ kk → ∃ gy cy, x62 = .agg (C18 XB (.slice (some ⟨gy, 0, none⟩) mm cy) (H ++ lb)) ∧ OwnS w' w4.heap.size 37 16 (.slice (some ⟨gy, 0, none⟩) mm cy) mm L) ∧ (fr = true → ∃ g, x9 = .pointer (some ⟨g, 0, none⟩) ∧ w4.heap.size ≤ g ∧ Blk w' g 39 ZC)) := ⟨_, fun _ _ _ _ => Iff.rfl⟩
      refine permHO_chain (St := St) [_, _, _] _ 0 ⟨?s1, ?s2, ?s3, trivial⟩ ?sf ?sch ?snd ?sR _ _ ?s0
      case s0 => exact (hSt _ _ _ _).2 ⟨_, _, _, _, rfl, Below.refl _ _, fun h => by omega, fun h => by omega, fun h => by omega, fun h => by cases h⟩
      case sch => exact ⟨by decide, by decide, trivial⟩
      case snd => decide
      case s1 =>
        intro fr a3_ ws hs
        obtain ⟨x59, x61, x62, x9, rfl, D3, h1, h2, h3, hf⟩ := (hSt _ _ _ _).1 hs
        clear hs
        refine opH_of_wpH ?_
        (with_reducible refine h_call ?_ ?_)
        · exact rfl
        go_simp
        refine entersW_of ?_
        refine (refMake_any ws).mono ?_
        rintro e wt ⟨rfl, dt⟩
        refine ⟨_, rfl, dt, ?_⟩
        try simp only [Act.put, List.setIfInBounds_toArray, List.set_cons_succ, List.set_cons_zero]
        rw [← HXB.out]
        refine h_nil ((hSt _ _ _ _).2 ⟨_, _, _, _, rfl, D3.trans (dt.mono D3.size), fun _ => rfl, fun h => by omega, fun h => by omega, fun e => ?_⟩)
        obtain ⟨g, e1, e2, e3⟩ := hf e
        exact ⟨g, e1, e2, e3.belowAll dt⟩
      case s2 =>
        intro fr a3_ ws hs
        obtain ⟨x59, x61, x62, x9, rfl, D3, h1, h2, h3, hf⟩ := (hSt _ _ _ _).1 hs
        clear hs
        obtain rfl := h1 (by omega)
        refine opH_of_wpH ?_
        (with_reducible refine h_call ?_ ?_)
        · exact rfl
        go_simp
        refine entersW_of ?_
        refine (bytes18_any ws HH.out).mono ?_
        rintro e wt ⟨vt, rfl, ot, dt⟩
        refine ⟨_, rfl, dt, ?_⟩
        try simp only [Act.put, List.setIfInBounds_toArray, List.set_cons_succ, List.set_cons_zero]
        rw [← HK.out] at ot
        obtain ⟨at_, ct, rfl, rt, _⟩ := ot.rd
        rw [keyB_length K hKl] at rt ⊢
        refine h_nil ((hSt _ _ _ _).2 ⟨_, _, _, _, rfl, D3.trans (dt.mono D3.size), fun _ => rfl, fun _ => ⟨_, _, rfl, rt⟩, fun h => by omega, fun e => ?_⟩)
        obtain ⟨g, e1, e2, e3⟩ := hf e
        exact ⟨g, e1, e2, e3.belowAll dt⟩
      case s3 =>
        intro fr a3_ ws hs
        obtain ⟨x59, x61, x62, x9, rfl, D3, h1, h2, h3, hf⟩ := (hSt _ _ _ _).1 hs
        clear hs
        obtain rfl := h1 (by omega)
        obtain ⟨ay, cy, rfl, ry⟩ := h2 (by omega)
        refine opH_of_wpH ?_
        have hnk := refNew18_any (keyB K) ay (keyN K) cy ws ry (keyN_or K)
        rw [show sch (keyN K / 4) (keyB K) (3 * (keyN K / 4) + 28) = L from HLe.out.symm, show keyN K / 4 + 7 = mm from HMM.out.symm, show hkey L mm = H from HHk.out.symm, show lkey L mm = lb from HLB.out.symm, ← HXB.out] at hnk
        (with_reducible refine h_call ?_ ?_)
        · exact rfl
        go_simp
        refine entersW_of ?_
        refine (hnk).mono ?_
        rintro e wt ⟨gt, ct, rfl, ot, dt⟩
        refine ⟨_, rfl, dt, ?_⟩
        try simp only [Act.put, List.setIfInBounds_toArray, List.set_cons_succ, List.set_cons_zero]
        refine h_nil ((hSt _ _ _ _).2 ⟨_, _, _, _, rfl, D3.trans (dt.mono D3.size), fun _ => rfl, fun _ => ⟨_, _, rfl, ry.below dt⟩, fun _ => ⟨_, _, rfl, ot.base D3.size⟩, fun e => ?_⟩)
        obtain ⟨g, e1, e2, e3⟩ := hf e
        exact ⟨g, e1, e2, e3.belowAll dt⟩
      case sf =>
        intro j hj a3_ ws hs
        obtain ⟨x59, x61, x62, x9, rfl, D3, h1, h2, h3, hf⟩ := (hSt _ _ _ _).1 hs
        clear hs
        refine opH_of_wpH ?_
        obtain ⟨u3, eu3⟩ : ∃ u, ws.alloc (.cells (C18 (zeros 8 512) (.slice none 0 0) (zeros 8 32)) 39) = u := ⟨_, rfl⟩
        obtain ⟨bf, du, zu⟩ := new1 _ _ _ _ eu3
        obtain ⟨pf, hpf⟩ : ∃ g, g = ws.heap.size := ⟨_, rfl⟩
        refine h_made (v := .pointer (some ⟨pf, 0, none⟩)) (w' := u3) rfl (by rw [hpf]; go_simp; exact eu3) du ?_
        simp only [Act.put, List.setIfInBounds_toArray, List.set_cons_succ, List.set_cons_zero]
        rw [← hpf, ← HZC.out] at bf
        refine h_nil ((hSt _ _ _ _).2 ⟨_, _, _, _, rfl, D3.trans (du.mono D3.size), h1, fun h => ?_, fun h => ?_, fun _ => ⟨pf, rfl, by rw [hpf]; exact D3.size, bf⟩⟩)
        · obtain ⟨g, c2, e1, e2⟩ := h2 h
          exact ⟨g, c2, e1, e2.below du⟩
        · obtain ⟨g, c2, e1, e2⟩ := h3 h
          exact ⟨g, c2, e1, e2.below du⟩
      case sR =>
        intro a3_ ws hs
        obtain ⟨x59, x61, x62, x9, rfl, D3, h1, h2, h3, hf⟩ := (hSt _ _ _ _).1 hs
        clear hs hSt
        obtain rfl := h1 (by decide)
        obtain ⟨ay, cy_, rfl, ry⟩ := h2 (by decide)
        obtain ⟨gy, cy, hx62, oy⟩ := h3 (by decide)
        subst hx62
        have hff := hf rfl
        clear hf
        obtain ⟨g9, hx9, hg, bg⟩ := hff
        subst hx9
        refine c_act ?_
        refine z_storeRow bg rfl rfl (by rw [hZCs, C18_size hXl _ (by rw [List.length_append, hHl, hlbl])]) (C18_ones _ _ _ _ _) (by rw [C18_size hXl _ (by rw [List.length_append, hHl, hlbl])]; exact Tryz.sizeOf39 _) (fun w5 k5 g5 s5 => ?_)
        have BD := D3.trans (grown_below g5 hg D3.size)
        refine z_nil ⟨hCe _ BD, ?_⟩
        refine c_nil (hK' _ _ ?_)
        have E4 : Below w4.heap.size w4 w5 := ((Below.refl w4.heap.size w4).drew).trans BD
        have hne : gy ≠ g9 := by
          intro e
          subst e
          rcases oy.2 with ⟨e, _⟩ | ⟨g, cap, cur, e, _, hh, _⟩
          · cases e
          · cases e; have := Option.some.inj (hh.symm.trans bg); injection this with _ h2 _; exact absurd h2 (by decide)
        have R5 := Lib.hid (OwnS.keptG oy g5 hne).rdAt
        have P5 := Lib.hid (P4.out.belowAll E4)
        have B5 := Lib.hid (B4.out.trans (E4.mono B4.out.size))
        have T5 := Lib.hid (T4.out.below E4)
        have X5 := Lib.hid (X4.out.below E4)
        have M5 := Lib.hid (M4.out.below E4)
        have A5 := Lib.hid (A4.out.below E4)
        have QQ5 := Lib.hid (Q4.out.below E4)
        have J5 := Lib.hid k5
        clear hK' hC0 hCb hCe BD D3 h1 h2 h3 bg g5 s5 k5 E4 oy ry hne P4 B4 T4 X4 M4 A4 Q4
        obtain ⟨CC, hCC⟩ : ∃ z, z = C18 XB (.slice (some ⟨gy, 0, none⟩) mm cy) (H ++ lb) := ⟨_, rfl⟩
        have hCs : CC.size = 545 := by rw [hCC]; exact C18_size hXl _ (by rw [List.length_append, hHl, hlbl])
        have hCx : CC.extract 0 545 = CC := by rw [← hCs]; simp
        have JJ := J5.out
        rw [← hCC] at JJ
        have J6 := Lib.hid JJ
        have HCC := Lib.hid hCC
        clear JJ hCC J5
        have en := fun (w1 : World) (hR : RdS w1 16 (some ⟨gy, 0, none⟩) mm cy L) (hT : Rd8 w1 a n c t) (hM : Rd8 w1 b m d x) => refEnc18_any XB boxT backT L H lb t x gy cy mm a b n c m d w1 hBX hXl hHl hlbl hR (by omega) (by omega) hT hM (by omega) (by omega) (by omega)
        have de := fun (w1 : World) (hR : RdS w1 16 (some ⟨gy, 0, none⟩) mm cy L) (hT : Rd8 w1 a n c t) (hM : Rd8 w1 b m d x) => refDec18_any XB boxT backT L H lb t x gy cy mm a b n c m d w1 hBX hXl hHl hlbl hR (by omega) (by omega) hT hM (by omega) (by omega) (by omega)
        rw [← HCC.out, ← HA.out] at en
        rw [← HCC.out, ← HQ.out] at de
        have EN := Lib.hid en
        have DE := Lib.hid de
        clear en de
        go_upto_region 11 with fail
        refine wp_region_tail [0,5,5,0,5,0,5,2,1,0,0,0,5,5,0,5,0,5,2,1,0,0,0,0,0,0,0,0,0,0,0,2,0,0] (by kernel_rfl) (by kernel_rfl) (fun C0 hC0 hCb K' hK' => ?_)
        have Q1 : ∀ w1, C0 w1 → rowAt w1 g9 = CC := fun w1 hw => (J6.out.drew.belowAll (hCb w1 hw)).row
        have Q2 : ∀ w1, C0 w1 → w1.cell? ⟨w.heap.size, 33, none⟩ = some (.slice a n c) := fun w1 hw => by rw [(P5.out.drew.belowAll (hCb w1 hw)).cell]; exact TW.out
        have Q3 : ∀ w1, C0 w1 → w1.cell? ⟨w.heap.size, 34, none⟩ = some (.slice b m d) := fun w1 hw => by rw [(P5.out.drew.belowAll (hCb w1 hw)).cell]; exact MS.out
        have Q4 : ∀ w1, C0 w1 → (convert 23 9 (.slice a3 m c3)).run Tryz.prog w1 = .ok (.string (str A)) w1 := fun w1 hw => run_str (P := Tryz.prog) w1 23 9 5 a3 m c3 A Tryz.underlying23 Tryz.underlying9 Tryz.underlying5 (A5.out.drew.below (hCb w1 hw))
        have Q5 : ∀ w1, C0 w1 → (convert 23 9 (.slice a4 m c4)).run Tryz.prog w1 = .ok (.string (str Q)) w1 := fun w1 hw => run_str (P := Tryz.prog) w1 23 9 5 a4 m c4 Q Tryz.underlying23 Tryz.underlying9 Tryz.underlying5 (QQ5.out.drew.below (hCb w1 hw))
        repeat
          first
            | ((with_reducible refine h_pure (v := ?_) (a' := ?_) ?_ (fun _ => ?_) ?_ ?_); rotate_left; rotate_left; (focus (exact rfl)); (focus (go_simp; (try go_bits); exact rfl)); (focus (simp only [Act.put, List.setIfInBounds_toArray, List.set_cons_succ, List.set_cons_zero, Act.eval, Array.getD_eq_getD_getElem?, List.getElem?_toArray, List.getElem?_cons_succ, List.getElem?_cons_zero, Option.getD_some]; exact rfl)))
            | ((with_reducible refine h_obl (v := ?_) (a' := ?_) ?_ (fun _ hcw => ?_) ?_ ?_); rotate_left; rotate_left; (focus (exact rfl)); (focus (have f1 := Q1 _ hcw; have f2 := Q2 _ hcw; have f3 := Q3 _ hcw; have f4 := Q4 _ hcw; have f5 := Q5 _ hcw; go_simp; (try go_bits); exact rfl)); (focus (simp only [Act.put, List.setIfInBounds_toArray, List.set_cons_succ, List.set_cons_zero, Act.eval, Array.getD_eq_getD_getElem?, List.getElem?_toArray, List.getElem?_cons_succ, List.getElem?_cons_zero, Option.getD_some]; exact rfl)))
            | ((with_reducible refine h_read (v := ?_) (a' := ?_) ?_ (fun _ hbw => ?_) ?_ ?_); rotate_left; rotate_left; (focus (exact rfl)); (focus (skip; go_simp; (try go_bits); exact rfl)); (focus (simp only [Act.put, List.setIfInBounds_toArray, List.set_cons_succ, List.set_cons_zero, Act.eval, Array.getD_eq_getD_getElem?, List.getElem?_toArray, List.getElem?_cons_succ, List.getElem?_cons_zero, Option.getD_some]; exact rfl)))
        (with_reducible refine h_call ?_ ?_)
        · exact rfl
        go_simp
        refine entersW_of ?_
        refine (EN.out w5.drew R5.out X5.out.drew M5.out.drew).mono ?_
        rintro e w6 ⟨v6, rfl, o6, d6⟩
        refine ⟨_, rfl, d6, ?_⟩
        try simp only [Act.put, List.setIfInBounds_toArray, List.set_cons_succ, List.set_cons_zero]
        obtain ⟨a6, c6, rfl, r6, _⟩ := o6.rd
        rw [hAl] at r6 ⊢
        have S6 : ∀ w1, Below w6.heap.size w6 w1 → (convert 23 9 (.slice a6 m c6)).run Tryz.prog w1 = .ok (.string (str A)) w1 := fun w1 hw => run_str (P := Tryz.prog) w1 23 9 5 a6 m c6 A Tryz.underlying23 Tryz.underlying9 Tryz.underlying5 (r6.below hw)
        repeat
          first
            | ((with_reducible refine h_pure (v := ?_) (a' := ?_) ?_ (fun _ => ?_) ?_ ?_); rotate_left; rotate_left; (focus (exact rfl)); (focus (go_simp; (try go_bits); exact rfl)); (focus (simp only [Act.put, List.setIfInBounds_toArray, List.set_cons_succ, List.set_cons_zero, Act.eval, Array.getD_eq_getD_getElem?, List.getElem?_toArray, List.getElem?_cons_succ, List.getElem?_cons_zero, Option.getD_some]; exact rfl)))
            | ((with_reducible refine h_obl (v := ?_) (a' := ?_) ?_ (fun _ hcw => ?_) ?_ ?_); rotate_left; rotate_left; (focus (exact rfl)); (focus (have f1 := Q1 _ hcw; have f2 := Q2 _ hcw; have f3 := Q3 _ hcw; have f4 := Q4 _ hcw; have f5 := Q5 _ hcw; go_simp; (try go_bits); exact rfl)); (focus (simp only [Act.put, List.setIfInBounds_toArray, List.set_cons_succ, List.set_cons_zero, Act.eval, Array.getD_eq_getD_getElem?, List.getElem?_toArray, List.getElem?_cons_succ, List.getElem?_cons_zero, Option.getD_some]; exact rfl)))
            | ((with_reducible refine h_read (v := ?_) (a' := ?_) ?_ (fun _ hbw => ?_) ?_ ?_); rotate_left; rotate_left; (focus (exact rfl)); (focus (have g1 := S6 _ hbw; go_simp; (try go_bits); exact rfl)); (focus (simp only [Act.put, List.setIfInBounds_toArray, List.set_cons_succ, List.set_cons_zero, Act.eval, Array.getD_eq_getD_getElem?, List.getElem?_toArray, List.getElem?_cons_succ, List.getElem?_cons_zero, Option.getD_some]; exact rfl)))
        (with_reducible refine h_call ?_ ?_)
        · exact rfl
        go_simp
        refine entersW_of ?_
        refine (DE.out w6 (R5.out.drew.below d6) (X5.out.drew.below d6) (M5.out.drew.below d6)).mono ?_
        rintro e w7 ⟨v7, rfl, o7, d7⟩
        refine ⟨_, rfl, d7, ?_⟩
        try simp only [Act.put, List.setIfInBounds_toArray, List.set_cons_succ, List.set_cons_zero]
        obtain ⟨a7, c7, rfl, r7, _⟩ := o7.rd
        rw [hPl] at r7 ⊢
        have S7 : ∀ w1, Below w7.heap.size w7 w1 → (convert 23 9 (.slice a7 m c7)).run Tryz.prog w1 = .ok (.string (str Q)) w1 := fun w1 hw => run_str (P := Tryz.prog) w1 23 9 5 a7 m c7 Q Tryz.underlying23 Tryz.underlying9 Tryz.underlying5 (r7.below hw)
        repeat
          first
            | ((with_reducible refine h_pure (v := ?_) (a' := ?_) ?_ (fun _ => ?_) ?_ ?_); rotate_left; rotate_left; (focus (exact rfl)); (focus (go_simp; (try go_bits); exact rfl)); (focus (simp only [Act.put, List.setIfInBounds_toArray, List.set_cons_succ, List.set_cons_zero, Act.eval, Array.getD_eq_getD_getElem?, List.getElem?_toArray, List.getElem?_cons_succ, List.getElem?_cons_zero, Option.getD_some]; exact rfl)))
            | ((with_reducible refine h_obl (v := ?_) (a' := ?_) ?_ (fun _ hcw => ?_) ?_ ?_); rotate_left; rotate_left; (focus (exact rfl)); (focus (skip; go_simp; (try go_bits); exact rfl)); (focus (simp only [Act.put, List.setIfInBounds_toArray, List.set_cons_succ, List.set_cons_zero, Act.eval, Array.getD_eq_getD_getElem?, List.getElem?_toArray, List.getElem?_cons_succ, List.getElem?_cons_zero, Option.getD_some]; exact rfl)))
            | ((with_reducible refine h_read (v := ?_) (a' := ?_) ?_ (fun _ hbw => ?_) ?_ ?_); rotate_left; rotate_left; (focus (exact rfl)); (focus (have g1 := S7 _ hbw; go_simp; (try go_bits); exact rfl)); (focus (simp only [Act.put, List.setIfInBounds_toArray, List.set_cons_succ, List.set_cons_zero, Act.eval, Array.getD_eq_getD_getElem?, List.getElem?_toArray, List.getElem?_cons_succ, List.getElem?_cons_zero, Option.getD_some]; exact rfl)))
        have D7 := d6.trans (d7.mono d6.size)
        have B7 := B5.out.drew.trans (D7.mono B5.out.drew.size)
        (with_reducible refine h_call ?_ ?_)
        · exact rfl
        go_simp
        refine entersW_of ?_
        refine (awake18_any w7 (T5.out.below (((Below.refl w5.heap.size w5).drew).trans D7))).mono ?_
        rintro e w8 ⟨rfl, d8⟩
        refine ⟨_, rfl, d8, ?_⟩
        try simp only [Act.put, List.setIfInBounds_toArray, List.set_cons_succ, List.set_cons_zero]
        repeat
          first
            | ((with_reducible refine h_pure (v := ?_) (a' := ?_) ?_ (fun _ => ?_) ?_ ?_); rotate_left; rotate_left; (focus (exact rfl)); (focus (go_simp; (try go_bits); exact rfl)); (focus (simp only [Act.put, List.setIfInBounds_toArray, List.set_cons_succ, List.set_cons_zero, Act.eval, Array.getD_eq_getD_getElem?, List.getElem?_toArray, List.getElem?_cons_succ, List.getElem?_cons_zero, Option.getD_some]; exact rfl)))
            | ((with_reducible refine h_obl (v := ?_) (a' := ?_) ?_ (fun _ hcw => ?_) ?_ ?_); rotate_left; rotate_left; (focus (exact rfl)); (focus (skip; go_simp; (try go_bits); exact rfl)); (focus (simp only [Act.put, List.setIfInBounds_toArray, List.set_cons_succ, List.set_cons_zero, Act.eval, Array.getD_eq_getD_getElem?, List.getElem?_toArray, List.getElem?_cons_succ, List.getElem?_cons_zero, Option.getD_some]; exact rfl)))
            | ((with_reducible refine h_read (v := ?_) (a' := ?_) ?_ (fun _ hbw => ?_) ?_ ?_); rotate_left; rotate_left; (focus (exact rfl)); (focus (skip; go_simp; (try go_bits); exact rfl)); (focus (simp only [Act.put, List.setIfInBounds_toArray, List.set_cons_succ, List.set_cons_zero, Act.eval, Array.getD_eq_getD_getElem?, List.getElem?_toArray, List.getElem?_cons_succ, List.getElem?_cons_zero, Option.getD_some]; exact rfl)))
        refine h_tail [] rfl (by simp) (z_nil (hK' _ _ ?_))
        have B8 := Lib.hid (B7.trans (d8.mono B7.size))
        clear Q1 Q2 Q3 Q4 Q5 S6 S7 hC0 hCb hK' d6 d7 d8 D7 B7 o6 r6 o7 r7
        go_wp2
        go_ret
        exact ⟨rfl, B8.out⟩
  · rw [decide_eq_false hs] at sh
    have SH := Lib.hid sh
    clear sh hs
    go_enter Tryz.func3, Tryz.ntmps3
    go_wp2_with fail
    refine SH.out.mono ?_
    rintro e w1 ⟨rfl, d1⟩
    go_wp2
    go_ret
    exact ⟨rfl, B0.out.trans (d1.mono B0.out.size)⟩
end Go.Proofs.YtfdkmjegcghieaaGreatDoor
