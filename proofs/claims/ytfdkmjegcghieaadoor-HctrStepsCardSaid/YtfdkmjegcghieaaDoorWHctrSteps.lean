/- HctrSteps: the walk -/
import Derived.Test.YtfdkmjegcghieaaDoorGl
import Derived.Test.YtfdkmjegcghieaaDoorHcQ
import Derived.Test.YtfdkmjegcghieaaDoorEq
import Derived.Test.YtfdkmjegcghieaaDoorGs
namespace Go.Proofs.YtfdkmjegcghieaaDoor
open Go.RowKit
set_option linter.unusedSimpArgs false in
set_option maxRecDepth 100000 in
set_option maxHeartbeats 1600000 in
theorem HctrSteps_walk (T : Array Value) (k : List (BitVec 8)) (s : BitVec 8) (a : Option Addr) (n c : Nat) (t : List (BitVec 8)) (b : Option Addr) (m d : Nat) (x : List (BitVec 8)) (w : World) (h : HText T k s a n c b m d) (ht : Rd8 w a n c t) (hx : Rd8 w b m d x) (hT : Turning w) :
    Calls Tryd.prog 4 #[.agg T] w fun e w' => e = .returned (.bool true) ∧ Below w.heap.size w w' := by
  obtain ⟨W, hW⟩ : ∃ W, (w.alloc (.cells T 25)) = W := ⟨_, rfl⟩
  obtain ⟨b0, hb, hz⟩ := new1 _ _ _ _ hW
  have r0 := b0.row
  have P0 := Lib.hid b0
  have B0 := Lib.hid hb
  have T0 := Lib.hid (hT.below hb)
  have X0 := Lib.hid (ht.below hb)
  have M0 := Lib.hid (hx.below hb)
  have s0 := h.size
  have x0 : T.extract 0 35 = T := by rw [← s0]; simp
  have HH := Lib.hid h
  have TW := Lib.hid h.tweak
  have MS := Lib.hid h.msg
  have hxl := hx.1
  have sh := short18_any W h
  clear hb hz hT ht hx h b0
  by_cases hs : n ≤ 100 ∧ m ≤ 300
  · rw [decide_eq_true hs] at sh
    have SH := Lib.hid sh
    obtain ⟨hn, hm⟩ := hs
    clear sh
    go_enter Tryd.func4, Tryd.ntmps4
    go_wp2_with fail
    refine SH.out.mono ?_
    rintro e w1 ⟨rfl, d1⟩
    have P1 := Lib.hid (P0.out.belowAll d1)
    have B1 := Lib.hid (B0.out.trans (d1.mono B0.out.size))
    have T1 := Lib.hid (T0.out.below d1)
    have X1 := Lib.hid (X0.out.below d1)
    have M1 := Lib.hid (M0.out.below d1)
    have c2 := P1.out.cell 34
    rw [MS.out] at c2
    have r1 := P1.out.row
    clear d1 r0 hW SH P0 B0 T0 X0 M0
    by_cases hm16 : m < 16
    · have f1 : (m : Int) < 16 := by omega
      go_wp2
      go_ret
      exact ⟨rfl, B1.out⟩
    · have f1 : ¬ (m : Int) < 16 := by omega
      go_wp2_with fail
      refine (cipher18_any w1 HH.out T1.out).mono ?_
      rintro e w2 ⟨q, ck, p, rfl, hk2, d2⟩
      obtain ⟨K, hK⟩ : ∃ K, K = k ++ [s] := ⟨_, rfl⟩
      rw [← hK] at hk2
      have hKl : K.length = 33 := by rw [hK, List.length_append, HH.out.lk]; rfl
      have hLl := LK_length K hKl
      obtain ⟨hm3, hm15⟩ := mK_bounds K
      unfold CiK at hk2
      obtain ⟨mm, hmm⟩ : ∃ mm, mm = mK K := ⟨_, rfl⟩
      obtain ⟨L, hL⟩ : ∃ L, L = LK K := ⟨_, rfl⟩
      rw [← hmm, ← hL] at hk2
      rw [← hmm] at hm3 hm15
      rw [← hmm, ← hL] at hLl
      obtain ⟨H, hH⟩ : ∃ H, H = hkey L mm := ⟨_, rfl⟩
      obtain ⟨lb, hlb⟩ : ∃ lb, lb = lkey L mm := ⟨_, rfl⟩
      rw [← hH, ← hlb] at hk2
      have K2 := Lib.hid hk2
      have HLL := Lib.hid hLl
      have P2 := Lib.hid (P1.out.belowAll d2)
      have B2 := Lib.hid (B1.out.trans (d2.mono B1.out.size))
      have T2 := Lib.hid (T1.out.below d2)
      have X2 := Lib.hid (X1.out.below d2)
      have M2 := Lib.hid (M1.out.below d2)
      have HMM := Lib.hid hmm
      have HL := Lib.hid hL
      have HK := Lib.hid hK
      have HHk := Lib.hid hH
      have HLB := Lib.hid hlb
      clear hH hlb hK hmm hL hk2 hLl c2 r1 d2 P1 B1 T1 X1 M1
      go_upto_region 4 with fail
      refine wp_region_tail [2,5,2,2,0,0,0,0,0] (by kernel_rfl) (by kernel_rfl) (fun C0 hC0 hCb K' hK' => ?_)
      have R0 : ∀ w1, C0 w1 → (getAt 25 (.pointer (some ⟨w.heap.size, 0, none⟩))).run Tryd.prog w1 = .ok (.agg T) w1 := fun w1 hw => by
        have r := (P2.out.drew.belowAll (hCb w1 hw)).row
        go_simp
      (with_reducible refine h_call ?_ ?_)
      · exact rfl
      go_simp
      refine entersW_of ?_
      refine (tables18_any w2.drew T2.out).mono ?_
      rintro e w3 ⟨p2, rfl, t3, d3⟩
      refine ⟨_, rfl, d3, ?_⟩
      try simp only [Act.put, List.setIfInBounds_toArray, List.set_cons_succ, List.set_cons_zero]
      repeat
        first
          | ((with_reducible refine h_pure (v := ?_) (a' := ?_) ?_ (fun _ => ?_) ?_ ?_); rotate_left; rotate_left; (focus (exact rfl)); (focus (go_simp; (try go_bits); exact rfl)); (focus (simp only [Act.put, List.setIfInBounds_toArray, List.set_cons_succ, List.set_cons_zero, Act.eval, Array.getD_eq_getD_getElem?, List.getElem?_toArray, List.getElem?_cons_succ, List.getElem?_cons_zero, Option.getD_some]; exact rfl)))
          | ((with_reducible refine h_obl (v := ?_) (a' := ?_) ?_ (fun _ hcw => ?_) ?_ ?_); rotate_left; rotate_left; (focus (exact rfl)); (focus (have f := R0 _ hcw; go_simp; (try go_bits); exact rfl)); (focus (simp only [Act.put, List.setIfInBounds_toArray, List.set_cons_succ, List.set_cons_zero, Act.eval, Array.getD_eq_getD_getElem?, List.getElem?_toArray, List.getElem?_cons_succ, List.getElem?_cons_zero, Option.getD_some]; exact rfl)))
          | ((with_reducible refine h_read (v := ?_) (a' := ?_) ?_ (fun _ hbw => ?_) ?_ ?_); rotate_left; rotate_left; (focus (exact rfl)); (focus (skip; go_simp; (try go_bits); exact rfl)); (focus (simp only [Act.put, List.setIfInBounds_toArray, List.set_cons_succ, List.set_cons_zero, Act.eval, Array.getD_eq_getD_getElem?, List.getElem?_toArray, List.getElem?_cons_succ, List.getElem?_cons_zero, Option.getD_some]; exact rfl)))
      (with_reducible refine h_call ?_ ?_)
      · exact rfl
      go_simp
      refine entersW_of ?_
      refine (bytes18_any w3 HH.out).mono ?_
      rintro e w4 ⟨v4, rfl, o4, d4⟩
      refine ⟨_, rfl, d4, ?_⟩
      try simp only [Act.put, List.setIfInBounds_toArray, List.set_cons_succ, List.set_cons_zero]
      rw [← HK.out] at o4
      obtain ⟨a4, c4, rfl, hr4, _⟩ := o4.rd
      rw [keyB_length K hKl] at hr4 ⊢
      (with_reducible refine h_call ?_ ?_)
      · exact rfl
      go_simp
      refine entersW_of ?_
      refine (expandK_any p2 K a4 c4 w4 (t3.below d4) hr4).mono ?_
      rintro e w5 ⟨k5, rfl, hk5, d5⟩
      refine ⟨_, rfl, d5, ?_⟩
      try simp only [Act.put, List.setIfInBounds_toArray, List.set_cons_succ, List.set_cons_zero]
      rw [← HMM.out, ← HL.out] at hk5
      repeat
        first
          | ((with_reducible refine h_pure (v := ?_) (a' := ?_) ?_ (fun _ => ?_) ?_ ?_); rotate_left; rotate_left; (focus (exact rfl)); (focus (go_simp; (try go_bits); exact rfl)); (focus (simp only [Act.put, List.setIfInBounds_toArray, List.set_cons_succ, List.set_cons_zero, Act.eval, Array.getD_eq_getD_getElem?, List.getElem?_toArray, List.getElem?_cons_succ, List.getElem?_cons_zero, Option.getD_some]; exact rfl)))
          | ((with_reducible refine h_obl (v := ?_) (a' := ?_) ?_ (fun _ hcw => ?_) ?_ ?_); rotate_left; rotate_left; (focus (exact rfl)); (focus (skip; go_simp; (try go_bits); exact rfl)); (focus (simp only [Act.put, List.setIfInBounds_toArray, List.set_cons_succ, List.set_cons_zero, Act.eval, Array.getD_eq_getD_getElem?, List.getElem?_toArray, List.getElem?_cons_succ, List.getElem?_cons_zero, Option.getD_some]; exact rfl)))
          | ((with_reducible refine h_read (v := ?_) (a' := ?_) ?_ (fun _ hbw => ?_) ?_ ?_); rotate_left; rotate_left; (focus (exact rfl)); (focus (skip; go_simp; (try go_bits); exact rfl)); (focus (simp only [Act.put, List.setIfInBounds_toArray, List.set_cons_succ, List.set_cons_zero, Act.eval, Array.getD_eq_getD_getElem?, List.getElem?_toArray, List.getElem?_cons_succ, List.getElem?_cons_zero, Option.getD_some]; exact rfl)))
      refine h_tail [] rfl (by simp) (z_nil (hK' _ _ ?_))
      have D5 := d3.trans ((d4.trans (d5.mono d4.size)).mono d3.size)
      have E5 : Below w2.heap.size w2 w5 := ((Below.refl w2.heap.size w2).drew).trans D5
      have N5 := Lib.hid hk5
      have K5 := Lib.hid (K2.out.below E5)
      have P5 := Lib.hid (P2.out.belowAll E5)
      have B5 := Lib.hid (B2.out.trans (E5.mono B2.out.size))
      have T5 := Lib.hid (T2.out.below E5)
      have X5 := Lib.hid (X2.out.below E5)
      have M5 := Lib.hid (M2.out.below E5)
      clear R0 hC0 hCb hK' d3 d4 d5 D5 E5 o4 hr4 hk5 t3 K2 P2 B2 T2 X2 M2 HH
      have hx16 : 16 ≤ x.length := by omega
      have hHl : H.length = 16 := by rw [HHk.out]; exact encS_length L mm _
      have hlbl : lb.length = 16 := by rw [HLB.out]; exact encS_length L mm _
      obtain ⟨hdx, ehdx⟩ : ∃ z, z = x.take 16 := ⟨_, rfl⟩
      have hdxl : hdx.length = 16 := by rw [ehdx]; rw [List.length_take]; omega
      have Hhdx := Lib.hid ehdx
      clear ehdx
      obtain ⟨blx, eblx⟩ : ∃ z, z = x.drop 16 := ⟨_, rfl⟩
      have blxl : blx.length = m - 16 := by rw [eblx]; rw [List.length_drop, hxl]
      have Hblx := Lib.hid eblx
      clear eblx
      obtain ⟨ha1, eha1⟩ : ∃ z, z = hashB H t blx := ⟨_, rfl⟩
      have ha1l : ha1.length = 16 := by rw [eha1]; exact hashB_length _ _ _
      have Hha1 := Lib.hid eha1
      clear eha1
      obtain ⟨one, eone⟩ : ∃ z, z = xor16 hdx ha1 := ⟨_, rfl⟩
      have onel : one.length = 16 := by rw [eone]; exact xor16_length _ _
      have Hone := Lib.hid eone
      clear eone
      obtain ⟨two, etwo⟩ : ∃ z, z = encS L mm one := ⟨_, rfl⟩
      have twol : two.length = 16 := by rw [etwo]; exact encS_length _ _ _
      have Htwo := Lib.hid etwo
      clear etwo
      obtain ⟨st, est⟩ : ∃ z, z = xor16 (xor16 one two) lb := ⟨_, rfl⟩
      have stl : st.length = 16 := by rw [est]; exact xor16_length _ _
      have Hst := Lib.hid est
      clear est
      obtain ⟨bly, ebly⟩ : ∃ z, z = xcrypt L mm st blx := ⟨_, rfl⟩
      have blyl : bly.length = m - 16 := by rw [ebly]; rw [xcrypt_length]; exact blxl
      have Hbly := Lib.hid ebly
      clear ebly
      obtain ⟨ha2, eha2⟩ : ∃ z, z = hashB H t bly := ⟨_, rfl⟩
      have ha2l : ha2.length = 16 := by rw [eha2]; exact hashB_length _ _ _
      have Hha2 := Lib.hid eha2
      clear eha2
      obtain ⟨fst, efst⟩ : ∃ z, z = xor16 two ha2 := ⟨_, rfl⟩
      have fstl : fst.length = 16 := by rw [efst]; exact xor16_length _ _
      have Hfst := Lib.hid efst
      clear efst
      have hdo : doesS (encS L mm) L mm H lb t x = fst ++ bly := by
        have e1 : one = oneH H t x := by rw [Hone.out, Hha1.out, Hhdx.out, Hblx.out]; rfl
        have e2 : bly = bulkH (encS L mm) L mm H lb t x := by rw [Hbly.out, Hst.out, Htwo.out, e1, Hblx.out]; rfl
        rw [Hfst.out, Hha2.out, e2, Htwo.out, e1]; rfl
      have hYl : (fst ++ bly).length = m := by rw [List.length_append, fstl, blyl]; omega
      obtain ⟨Y, hY⟩ : ∃ z, z = fst ++ bly := ⟨_, rfl⟩
      rw [← hY] at hdo hYl
      have HDO := Lib.hid hdo
      have HYY := Lib.hid hY
      clear hdo hY
      obtain ⟨bk, bo, rfl, _, _⟩ := M5.out.2.2.2 (by omega)
      obtain ⟨bA, eA⟩ : ∃ z, (if d = 16 then some (⟨bk, bo, none⟩ : Addr) else some ⟨bk, bo + 16, none⟩) = z := ⟨_, rfl⟩
      have i1 : (16 : Int) ≤ (m : Int) := by omega
      have i2 : (m : Int) ≤ (d : Int) := by have := M5.out.2.1; omega
      go_wp2_with fail
      refine (encrypt_any k5 p2 mm L (zeros 8 16) w5 N5.out rfl (by omega) (by omega)).mono ?_
      rintro e w6 ⟨rfl, d6⟩
      rw [show encS L mm (zeros 8 16) = H from HHk.out.symm]
      obtain ⟨V, hV⟩ : ∃ V, V = w6.alloc (.cells (A8 H) 40) := ⟨_, rfl⟩
      have E6 : Below w5.heap.size w5 V := by rw [hV]; exact d6.alloc d6.size _
      have GV0 := Blk.new w6 40 (A8 H)
      rw [← hV] at GV0
      have GV := Lib.hid GV0
      have hVg := Lib.hid hV
      have KV := Lib.hid (K5.out.below E6)
      have NV := Lib.hid (N5.out.below E6)
      have PV := Lib.hid (P5.out.belowAll E6)
      have BV := Lib.hid (B5.out.trans (E6.mono B5.out.size))
      have TV := Lib.hid (T5.out.below E6)
      have XV := Lib.hid (X5.out.below E6)
      have MV := Lib.hid (M5.out.below E6)
      clear d6 E6 GV0 hV K5 N5 P5 B5 T5 X5 M5
      go_upto_region 8 with fail
      rw [← hVg.out]
      clear hVg
      generalize w6.heap.size = g at *
      have mc := MV.out.cut (j := 16) (k := m) (by omega) (Nat.le_refl _)
      simp only [Option.map_some, Addr.add_lit] at mc
      rw [eA, List.take_of_length_le (by omega), ← Hblx.out] at mc
      have MC := Lib.hid mc
      clear mc
      refine wp_region_order [0,5,2,5,0,5,0,5,0,2,2,2,3] [0,1,3,4,5,6,7,8] [(2, 2, _), (9, 2, _), (10, 2, _), (11, 2, _)] (fun i => if i = 9 then [2] else if i = 10 then [9] else []) [12] [_, _, _, _, _, _, _, _] [_] [0,5,5,0,5,0,5,0] [3] 4 rfl rfl rfl (by kernel_rfl) (by kernel_rfl) (by kernel_rfl) rfl rfl rfl (fun C0 hC0 hCb hCe K' hK' => ?_)
      have Q1 : ∀ w1, C0 w1 → rowAt w1 g = A8 H := fun w1 hw => (GV.out.drew.belowAll (hCb w1 hw)).row
      have Q2 : ∀ w1, C0 w1 → w1.cell? ⟨w.heap.size, 33, none⟩ = some (.slice a n c) := fun w1 hw => by rw [(PV.out.drew.belowAll (hCb w1 hw)).cell]; exact TW.out
      have Q3 : ∀ w1, C0 w1 → w1.cell? ⟨w.heap.size, 34, none⟩ = some (.slice (some ⟨bk, bo, none⟩) m d) := fun w1 hw => by rw [(PV.out.drew.belowAll (hCb w1 hw)).cell]; exact MS.out
      repeat
        first
          | ((with_reducible refine h_pure (v := ?_) (a' := ?_) ?_ (fun _ => ?_) ?_ ?_); rotate_left; rotate_left; (focus (exact rfl)); (focus (go_simp; (try go_bits); exact rfl)); (focus (simp only [Act.put, List.setIfInBounds_toArray, List.set_cons_succ, List.set_cons_zero, Act.eval, Array.getD_eq_getD_getElem?, List.getElem?_toArray, List.getElem?_cons_succ, List.getElem?_cons_zero, Option.getD_some]; exact rfl)))
          | ((with_reducible refine h_obl (v := ?_) (a' := ?_) ?_ (fun _ hcw => ?_) ?_ ?_); rotate_left; rotate_left; (focus (exact rfl)); (focus (have f1 := Q1 _ hcw; have f2 := Q2 _ hcw; have f3 := Q3 _ hcw; go_simp; (try go_bits); exact rfl)); (focus (simp only [Act.put, List.setIfInBounds_toArray, List.set_cons_succ, List.set_cons_zero, Act.eval, Array.getD_eq_getD_getElem?, List.getElem?_toArray, List.getElem?_cons_succ, List.getElem?_cons_zero, Option.getD_some]; exact rfl)))
          | ((with_reducible refine h_read (v := ?_) (a' := ?_) ?_ (fun _ hbw => ?_) ?_ ?_); rotate_left; rotate_left; (focus (exact rfl)); (focus (skip; go_simp; (try go_bits); exact rfl)); (focus (simp only [Act.put, List.setIfInBounds_toArray, List.set_cons_succ, List.set_cons_zero, Act.eval, Array.getD_eq_getD_getElem?, List.getElem?_toArray, List.getElem?_cons_succ, List.getElem?_cons_zero, Option.getD_some]; exact rfl)))
      refine h_nil ?_
      clear Q1 Q2 Q3
      generalize hAct : Act.mk _ _ = act
      obtain ⟨u, rfl⟩ : ∃ u : Nat → Value, act = { tmps := (fun u : Nat → Value => (u 0 :: Value.pointer (some ⟨w.heap.size, 0, none⟩) :: u 2 :: Value.pointer (some ⟨q, 0, none⟩) :: u 4 :: Value.pointer (some ⟨k5, 0, none⟩) :: u 6 :: Value.pointer (some ⟨g, 0, none⟩) :: u 8 :: u 9 :: u 10 :: u 11 :: u 12 :: u 13 :: u 14 :: u 15 :: u 16 :: u 17 :: u 18 :: u 19 :: u 20 :: u 21 :: u 22 :: u 23 :: u 24 :: u 25 :: u 26 :: u 27 :: u 28 :: u 29 :: u 30 :: u 31 :: u 32 :: u 33 :: u 34 :: u 35 :: u 36 :: u 37 :: u 38 :: u 39 :: u 40 :: u 41 :: u 42 :: u 43 :: u 44 :: u 45 :: u 46 :: u 47 :: u 48 :: u 49 :: Value.slice (some ⟨bk, bo, none⟩) m d :: u 51 :: Value.agg (A8 H) :: u 53 :: Value.slice a n c :: u 55 :: u 56 :: Value.slice bA (m - 16) (d - 16) :: u 58 :: u 59 :: u 60 :: u 61 :: u 62 :: u 63 :: u 64 :: u 65 :: u 66 :: u 67 :: u 68 :: u 69 :: u 70 :: u 71 :: u 72 :: u 73 :: u 74 :: u 75 :: u 76 :: u 77 :: u 78 :: u 79 :: u 80 :: u 81 :: u 82 :: u 83 :: u 84 :: u 85 :: u 86 :: u 87 :: u 88 :: u 89 :: u 90 :: u 91 :: u 92 :: u 93 :: u 94 :: u 95 :: u 96 :: u 97 :: u 98 :: u 99 :: u 100 :: u 101 :: u 102 :: u 103 :: u 104 :: u 105 :: u 106 :: u 107 :: u 108 :: u 109 :: u 110 :: u 111 :: u 112 :: u 113 :: []).toArray) u, defers := [] } := by
        subst hAct; exact ex_frame _ rfl
      clear hAct
      obtain ⟨St, hSt⟩ : ∃ St : Nat → Bool → Act → World → Prop, ∀ kk fr a' w', St kk fr a' w' ↔ (∃ x51 x58 x59 x8 : Value, a' = { tmps := (u 0 :: Value.pointer (some ⟨w.heap.size, 0, none⟩) :: u 2 :: Value.pointer (some ⟨q, 0, none⟩) :: u 4 :: Value.pointer (some ⟨k5, 0, none⟩) :: u 6 :: Value.pointer (some ⟨g, 0, none⟩) :: x8 :: u 9 :: u 10 :: u 11 :: u 12 :: u 13 :: u 14 :: u 15 :: u 16 :: u 17 :: u 18 :: u 19 :: u 20 :: u 21 :: u 22 :: u 23 :: u 24 :: u 25 :: u 26 :: u 27 :: u 28 :: u 29 :: u 30 :: u 31 :: u 32 :: u 33 :: u 34 :: u 35 :: u 36 :: u 37 :: u 38 :: u 39 :: u 40 :: u 41 :: u 42 :: u 43 :: u 44 :: u 45 :: u 46 :: u 47 :: u 48 :: u 49 :: Value.slice (some ⟨bk, bo, none⟩) m d :: x51 :: Value.agg (A8 H) :: u 53 :: Value.slice a n c :: u 55 :: u 56 :: Value.slice bA (m - 16) (d - 16) :: x58 :: x59 :: u 60 :: u 61 :: u 62 :: u 63 :: u 64 :: u 65 :: u 66 :: u 67 :: u 68 :: u 69 :: u 70 :: u 71 :: u 72 :: u 73 :: u 74 :: u 75 :: u 76 :: u 77 :: u 78 :: u 79 :: u 80 :: u 81 :: u 82 :: u 83 :: u 84 :: u 85 :: u 86 :: u 87 :: u 88 :: u 89 :: u 90 :: u 91 :: u 92 :: u 93 :: u 94 :: u 95 :: u 96 :: u 97 :: u 98 :: u 99 :: u 100 :: u 101 :: u 102 :: u 103 :: u 104 :: u 105 :: u 106 :: u 107 :: u 108 :: u 109 :: u 110 :: u 111 :: u 112 :: u 113 :: []).toArray, defers := [] } ∧ Below V.drew.heap.size V.drew w' ∧ (1 ≤ kk → x51 = .agg (A8 hdx)) ∧ (2 ≤ kk → x58 = .agg (A8 ha1)) ∧ (3 ≤ kk → x59 = .agg (A8 one)) ∧ (fr = true → ∃ g, x8 = .pointer (some ⟨g, 0, none⟩) ∧ V.heap.size ≤ g ∧ Blk w' g 40 (A8 (zeros 8 16)))) := ⟨_, fun _ _ _ _ => Iff.rfl⟩
      refine permHO_chain (St := St) [_, _, _] _ 0 ⟨?qs1, ?qs2, ?qs3, trivial⟩ ?qf ?qch ?qnd ?qR _ _ ?q0
      case q0 => exact (hSt _ _ _ _).2 ⟨_, _, _, _, rfl, Below.refl _ _, fun h => by omega, fun h => by omega, fun h => by omega, fun h => by cases h⟩
      case qch => exact ⟨by decide, by decide, trivial⟩
      case qnd => decide
      case qs1 =>
        intro fr a3 w3 hs
        obtain ⟨x51, x58, x59, x8, rfl, D3, h1, h2, h3, hf⟩ := (hSt _ _ _ _).1 hs
        clear hs
        refine opH_of_wpH ?_
        (with_reducible refine h_call ?_ ?_)
        · exact rfl
        go_simp
        refine entersW_of ?_
        refine (block_any x (some ⟨bk, bo, none⟩) m d w3 (MV.out.drew.below D3)).mono ?_
        rintro e w4 ⟨rfl, d4⟩
        refine ⟨_, rfl, d4, ?_⟩
        try simp only [Act.put, List.setIfInBounds_toArray, List.set_cons_succ, List.set_cons_zero]
        rw [blk_take x hx16, ← Hhdx.out]
        refine h_nil ((hSt _ _ _ _).2 ⟨_, _, _, _, rfl, D3.trans (d4.mono D3.size), fun _ => rfl, fun h => by omega, fun h => by omega, fun e => ?_⟩)
        obtain ⟨g, e1, e2, e3⟩ := hf e
        exact ⟨g, e1, e2, e3.belowAll d4⟩
      case qs2 =>
        intro fr a3 w3 hs
        obtain ⟨x51, x58, x59, x8, rfl, D3, h1, h2, h3, hf⟩ := (hSt _ _ _ _).1 hs
        clear hs
        obtain rfl := h1 (by omega)
        refine opH_of_wpH ?_
        (with_reducible refine h_call ?_ ?_)
        · exact rfl
        go_simp
        refine entersW_of ?_
        refine (vhash_any H t blx hHl a bA n c (m - 16) (d - 16) w3 (XV.out.drew.below D3) (MC.out.drew.below D3) (by omega) (by omega)).mono ?_
        rintro e w4 ⟨rfl, d4⟩
        refine ⟨_, rfl, d4, ?_⟩
        try simp only [Act.put, List.setIfInBounds_toArray, List.set_cons_succ, List.set_cons_zero]
        rw [← Hha1.out]
        refine h_nil ((hSt _ _ _ _).2 ⟨_, _, _, _, rfl, D3.trans (d4.mono D3.size), fun _ => rfl, fun _ => rfl, fun h => by omega, fun e => ?_⟩)
        obtain ⟨g, e1, e2, e3⟩ := hf e
        exact ⟨g, e1, e2, e3.belowAll d4⟩
      case qs3 =>
        intro fr a3 w3 hs
        obtain ⟨x51, x58, x59, x8, rfl, D3, h1, h2, h3, hf⟩ := (hSt _ _ _ _).1 hs
        clear hs
        obtain rfl := h1 (by omega)
        obtain rfl := h2 (by omega)
        refine opH_of_wpH ?_
        (with_reducible refine h_call ?_ ?_)
        · exact rfl
        go_simp
        refine entersW_of ?_
        refine (plus18_any hdx ha1 w3 hdxl ha1l).mono ?_
        rintro e w4 ⟨rfl, d4⟩
        refine ⟨_, rfl, d4, ?_⟩
        try simp only [Act.put, List.setIfInBounds_toArray, List.set_cons_succ, List.set_cons_zero]
        rw [← Hone.out]
        refine h_nil ((hSt _ _ _ _).2 ⟨_, _, _, _, rfl, D3.trans (d4.mono D3.size), fun _ => rfl, fun _ => rfl, fun _ => rfl, fun e => ?_⟩)
        obtain ⟨g, e1, e2, e3⟩ := hf e
        exact ⟨g, e1, e2, e3.belowAll d4⟩
      case qf =>
        intro j hj a3 w3 hs
        obtain ⟨x51, x58, x59, x8, rfl, D3, h1, h2, h3, hf⟩ := (hSt _ _ _ _).1 hs
        clear hs
        refine opH_of_wpH ?_
        obtain ⟨u3, eu3⟩ : ∃ u, w3.alloc (.cells (A8 (zeros 8 16)) 40) = u := ⟨_, rfl⟩
        obtain ⟨bf, du, zu⟩ := new1 _ _ _ _ eu3
        obtain ⟨pf, hpf⟩ : ∃ g, g = w3.heap.size := ⟨_, rfl⟩
        refine h_made (v := .pointer (some ⟨pf, 0, none⟩)) (w' := u3) rfl (by rw [hpf]; go_simp; exact eu3) du ?_
        simp only [Act.put, List.setIfInBounds_toArray, List.set_cons_succ, List.set_cons_zero]
        rw [← hpf] at bf
        exact h_nil ((hSt _ _ _ _).2 ⟨_, _, _, _, rfl, D3.trans (du.mono D3.size), h1, h2, h3, fun _ => ⟨pf, rfl, by rw [hpf]; exact D3.size, bf⟩⟩)
      case qR =>
        intro a3 w3 hs
        obtain ⟨x51, x58, x59, x8, rfl, D3, h1, h2, h3, hf⟩ := (hSt _ _ _ _).1 hs
        clear hs hSt
        obtain rfl := h3 (by decide)
        obtain ⟨g8, rfl, hg, bg⟩ := hf rfl
        refine c_act ?_
        refine z_storeRow bg rfl rfl (by rw [A8_size, A8_size, onel, zeros_length]) (A8_ones _) (by rw [A8_size, onel]; exact Tryd.sizeOf40 _) (fun w8 kk4 g4 s4 => ?_)
        have BD := D3.trans (grown_below g4 hg D3.size)
        refine z_nil ⟨hCe _ BD, ?_⟩
        refine c_nil (hK' _ _ ?_)
        have E4 : Below V.heap.size V w8 := ((Below.refl V.heap.size V).drew).trans BD
        have K8 := Lib.hid (KV.out.below E4)
        have N8 := Lib.hid (NV.out.below E4)
        have P8 := Lib.hid (PV.out.belowAll E4)
        have B8 := Lib.hid (BV.out.trans (E4.mono BV.out.size))
        have T8 := Lib.hid (TV.out.below E4)
        have X8 := Lib.hid (XV.out.below E4)
        have M8 := Lib.hid (MV.out.below E4)
        have G8 := Lib.hid (GV.out.belowAll E4)
        have J8 := Lib.hid kk4
        have MC8 := Lib.hid (MC.out.below E4)
        clear hK' hC0 hCb hCe BD D3 h1 h2 h3 hf bg g4 s4 kk4 E4 MC
        have r8 := J8.out.row
        go_wp2_with fail
        refine (encrypt_any k5 p2 mm L one w8 N8.out onel (by omega) (by omega)).mono ?_
        rintro e w9 ⟨rfl, d9⟩
        rw [show encS L mm one = two from Htwo.out.symm]
        obtain ⟨U, hU⟩ : ∃ U, U = w9.alloc (.cells (A8 two) 40) := ⟨_, rfl⟩
        have E9 : Below w8.heap.size w8 U := by rw [hU]; exact d9.alloc d9.size _
        have I0 := Blk.new w9 40 (A8 two)
        rw [← hU] at I0
        have IU := Lib.hid I0
        have hUg := Lib.hid hU
        have KU := Lib.hid (K8.out.below E9)
        have NU := Lib.hid (N8.out.below E9)
        have PU := Lib.hid (P8.out.belowAll E9)
        have BU := Lib.hid (B8.out.trans (E9.mono B8.out.size))
        have TU := Lib.hid (T8.out.below E9)
        have XU := Lib.hid (X8.out.below E9)
        have MU := Lib.hid (M8.out.below E9)
        have GU := Lib.hid (G8.out.belowAll E9)
        have JU := Lib.hid (J8.out.belowAll E9)
        have MCU := Lib.hid (MC8.out.below E9)
        clear d9 E9 I0 hU K8 N8 P8 B8 T8 X8 M8 G8 J8 MC8 r8
        go_upto_region 10 with fail
        rw [← hUg.out]
        clear hUg
        generalize w9.heap.size = g2 at *
        refine wp_region_tail [0,5,5,2,0,0,2,2,0,5,0,2,0,0,0,0,0] (by kernel_rfl) (by kernel_rfl) (fun C0 hC0 hCb K' hK' => ?_)
        have Q1 : ∀ w1, C0 w1 → rowAt w1 g8 = A8 one := fun w1 hw => (JU.out.drew.belowAll (hCb w1 hw)).row
        have Q2 : ∀ w1, C0 w1 → rowAt w1 g2 = A8 two := fun w1 hw => (IU.out.drew.belowAll (hCb w1 hw)).row
        have Q3 : ∀ w1, C0 w1 → w1.cell? ⟨w.heap.size, 34, none⟩ = some (.slice (some ⟨bk, bo, none⟩) m d) := fun w1 hw => by rw [(PU.out.drew.belowAll (hCb w1 hw)).cell]; exact MS.out
        repeat
          first
            | ((with_reducible refine h_pure (v := ?_) (a' := ?_) ?_ (fun _ => ?_) ?_ ?_); rotate_left; rotate_left; (focus (exact rfl)); (focus (go_simp; (try go_bits); exact rfl)); (focus (simp only [Act.put, List.setIfInBounds_toArray, List.set_cons_succ, List.set_cons_zero, Act.eval, Array.getD_eq_getD_getElem?, List.getElem?_toArray, List.getElem?_cons_succ, List.getElem?_cons_zero, Option.getD_some]; exact rfl)))
            | ((with_reducible refine h_obl (v := ?_) (a' := ?_) ?_ (fun _ hcw => ?_) ?_ ?_); rotate_left; rotate_left; (focus (exact rfl)); (focus (have f1 := Q1 _ hcw; have f2 := Q2 _ hcw; have f3 := Q3 _ hcw; go_simp; (try go_bits); exact rfl)); (focus (simp only [Act.put, List.setIfInBounds_toArray, List.set_cons_succ, List.set_cons_zero, Act.eval, Array.getD_eq_getD_getElem?, List.getElem?_toArray, List.getElem?_cons_succ, List.getElem?_cons_zero, Option.getD_some]; exact rfl)))
            | ((with_reducible refine h_read (v := ?_) (a' := ?_) ?_ (fun _ hbw => ?_) ?_ ?_); rotate_left; rotate_left; (focus (exact rfl)); (focus (skip; go_simp; (try go_bits); exact rfl)); (focus (simp only [Act.put, List.setIfInBounds_toArray, List.set_cons_succ, List.set_cons_zero, Act.eval, Array.getD_eq_getD_getElem?, List.getElem?_toArray, List.getElem?_cons_succ, List.getElem?_cons_zero, Option.getD_some]; exact rfl)))
        (with_reducible refine h_call ?_ ?_)
        · exact rfl
        go_simp
        refine entersW_of ?_
        refine (plus18_any one two U.drew onel twol).mono ?_
        rintro e w10 ⟨rfl, d10⟩
        refine ⟨_, rfl, d10, ?_⟩
        try simp only [Act.put, List.setIfInBounds_toArray, List.set_cons_succ, List.set_cons_zero]
        repeat
          first
            | ((with_reducible refine h_pure (v := ?_) (a' := ?_) ?_ (fun _ => ?_) ?_ ?_); rotate_left; rotate_left; (focus (exact rfl)); (focus (go_simp; (try go_bits); exact rfl)); (focus (simp only [Act.put, List.setIfInBounds_toArray, List.set_cons_succ, List.set_cons_zero, Act.eval, Array.getD_eq_getD_getElem?, List.getElem?_toArray, List.getElem?_cons_succ, List.getElem?_cons_zero, Option.getD_some]; exact rfl)))
            | ((with_reducible refine h_obl (v := ?_) (a' := ?_) ?_ (fun _ hcw => ?_) ?_ ?_); rotate_left; rotate_left; (focus (exact rfl)); (focus (have f1 := Q1 _ hcw; have f2 := Q2 _ hcw; have f3 := Q3 _ hcw; go_simp; (try go_bits); exact rfl)); (focus (simp only [Act.put, List.setIfInBounds_toArray, List.set_cons_succ, List.set_cons_zero, Act.eval, Array.getD_eq_getD_getElem?, List.getElem?_toArray, List.getElem?_cons_succ, List.getElem?_cons_zero, Option.getD_some]; exact rfl)))
            | ((with_reducible refine h_read (v := ?_) (a' := ?_) ?_ (fun _ hbw => ?_) ?_ ?_); rotate_left; rotate_left; (focus (exact rfl)); (focus (skip; go_simp; (try go_bits); exact rfl)); (focus (simp only [Act.put, List.setIfInBounds_toArray, List.set_cons_succ, List.set_cons_zero, Act.eval, Array.getD_eq_getD_getElem?, List.getElem?_toArray, List.getElem?_cons_succ, List.getElem?_cons_zero, Option.getD_some]; exact rfl)))
        (with_reducible refine h_call ?_ ?_)
        · exact rfl
        go_simp
        refine entersW_of ?_
        refine (encrypt_any k5 p2 mm L hone w10 (NU.out.drew.below d10) rfl (by omega) (by omega)).mono ?_
        rintro e w11 ⟨rfl, d11⟩
        refine ⟨_, rfl, d11, ?_⟩
        try simp only [Act.put, List.setIfInBounds_toArray, List.set_cons_succ, List.set_cons_zero]
        rw [show encS L mm hone = lb from HLB.out.symm]
        have e11 := d10.trans (d11.mono d10.size)
        (with_reducible refine h_call ?_ ?_)
        · exact rfl
        go_simp
        refine entersW_of ?_
        refine (plus18_any (xor16 one two) lb w11 (xor16_length _ _) hlbl).mono ?_
        rintro e w12 ⟨rfl, d12⟩
        refine ⟨_, rfl, d12, ?_⟩
        try simp only [Act.put, List.setIfInBounds_toArray, List.set_cons_succ, List.set_cons_zero]
        rw [← Hst.out]
        have e12 := e11.trans (d12.mono e11.size)
        repeat
          first
            | ((with_reducible refine h_pure (v := ?_) (a' := ?_) ?_ (fun _ => ?_) ?_ ?_); rotate_left; rotate_left; (focus (exact rfl)); (focus (go_simp; (try go_bits); exact rfl)); (focus (simp only [Act.put, List.setIfInBounds_toArray, List.set_cons_succ, List.set_cons_zero, Act.eval, Array.getD_eq_getD_getElem?, List.getElem?_toArray, List.getElem?_cons_succ, List.getElem?_cons_zero, Option.getD_some]; exact rfl)))
            | ((with_reducible refine h_obl (v := ?_) (a' := ?_) ?_ (fun _ hcw => ?_) ?_ ?_); rotate_left; rotate_left; (focus (exact rfl)); (focus (have f1 := Q1 _ hcw; have f2 := Q2 _ hcw; have f3 := Q3 _ hcw; go_simp; (try go_bits); exact rfl)); (focus (simp only [Act.put, List.setIfInBounds_toArray, List.set_cons_succ, List.set_cons_zero, Act.eval, Array.getD_eq_getD_getElem?, List.getElem?_toArray, List.getElem?_cons_succ, List.getElem?_cons_zero, Option.getD_some]; exact rfl)))
            | ((with_reducible refine h_read (v := ?_) (a' := ?_) ?_ (fun _ hbw => ?_) ?_ ?_); rotate_left; rotate_left; (focus (exact rfl)); (focus (skip; go_simp; (try go_bits); exact rfl)); (focus (simp only [Act.put, List.setIfInBounds_toArray, List.set_cons_succ, List.set_cons_zero, Act.eval, Array.getD_eq_getD_getElem?, List.getElem?_toArray, List.getElem?_cons_succ, List.getElem?_cons_zero, Option.getD_some]; exact rfl)))
        (with_reducible refine h_call ?_ ?_)
        · exact rfl
        go_simp
        refine entersW_of ?_
        refine (xcrypt_any k5 p2 mm L st blx bA (m - 16) (d - 16) w12 (NU.out.drew.below e12) stl (by omega) (by omega) (MCU.out.drew.below e12) (by omega)).mono ?_
        rintro e w13 ⟨v13, rfl, o13, d13⟩
        refine ⟨_, rfl, d13, ?_⟩
        try simp only [Act.put, List.setIfInBounds_toArray, List.set_cons_succ, List.set_cons_zero]
        rw [← Hbly.out] at o13
        obtain ⟨a13, c13, rfl, hr13, _⟩ := o13.rd
        rw [blyl] at hr13 ⊢
        repeat
          first
            | ((with_reducible refine h_pure (v := ?_) (a' := ?_) ?_ (fun _ => ?_) ?_ ?_); rotate_left; rotate_left; (focus (exact rfl)); (focus (go_simp; (try go_bits); exact rfl)); (focus (simp only [Act.put, List.setIfInBounds_toArray, List.set_cons_succ, List.set_cons_zero, Act.eval, Array.getD_eq_getD_getElem?, List.getElem?_toArray, List.getElem?_cons_succ, List.getElem?_cons_zero, Option.getD_some]; exact rfl)))
            | ((with_reducible refine h_obl (v := ?_) (a' := ?_) ?_ (fun _ hcw => ?_) ?_ ?_); rotate_left; rotate_left; (focus (exact rfl)); (focus (skip; go_simp; (try go_bits); exact rfl)); (focus (simp only [Act.put, List.setIfInBounds_toArray, List.set_cons_succ, List.set_cons_zero, Act.eval, Array.getD_eq_getD_getElem?, List.getElem?_toArray, List.getElem?_cons_succ, List.getElem?_cons_zero, Option.getD_some]; exact rfl)))
            | ((with_reducible refine h_read (v := ?_) (a' := ?_) ?_ (fun _ hbw => ?_) ?_ ?_); rotate_left; rotate_left; (focus (exact rfl)); (focus (skip; go_simp; (try go_bits); exact rfl)); (focus (simp only [Act.put, List.setIfInBounds_toArray, List.set_cons_succ, List.set_cons_zero, Act.eval, Array.getD_eq_getD_getElem?, List.getElem?_toArray, List.getElem?_cons_succ, List.getElem?_cons_zero, Option.getD_some]; exact rfl)))
        refine h_tail [] rfl (by simp) (z_nil (hK' _ _ ?_))
        have e13 := e12.trans (d13.mono e12.size)
        have E13 : Below U.heap.size U w13 := ((Below.refl U.heap.size U).drew).trans e13
        have A13 := Lib.hid hr13
        have K13 := Lib.hid (KU.out.below E13)
        have P13 := Lib.hid (PU.out.belowAll E13)
        have B13 := Lib.hid (BU.out.trans (E13.mono BU.out.size))
        have T13 := Lib.hid (TU.out.below E13)
        have X13 := Lib.hid (XU.out.below E13)
        have M13 := Lib.hid (MU.out.below E13)
        have G13 := Lib.hid (GU.out.belowAll E13)
        have I13 := Lib.hid (IU.out.belowAll E13)
        clear Q1 Q2 Q3 hC0 hCb hK' d10 d11 d12 d13 e11 e12 e13 E13 o13 hr13 KU NU PU BU TU XU MU GU JU IU MCU eA i1 i2
        go_upto_region 11 with fail
        refine wp_region_order [5,5,0,5,0,2,2,2,3] [0,1,2,3,4] [(5, 2, _), (6, 2, _), (7, 2, _)] (fun i => if i = 6 then [5] else []) [8] [_, _, _, _, _] [_] [5,5,0,5,0] [3] 3 rfl rfl rfl (by kernel_rfl) (by kernel_rfl) (by kernel_rfl) rfl rfl rfl (fun C0 hC0 hCb hCe K' hK' => ?_)
        have Q1 : ∀ w1, C0 w1 → rowAt w1 g = A8 H := fun w1 hw => (G13.out.drew.belowAll (hCb w1 hw)).row
        have Q3 : ∀ w1, C0 w1 → rowAt w1 g2 = A8 two := fun w1 hw => (I13.out.drew.belowAll (hCb w1 hw)).row
        have Q2 : ∀ w1, C0 w1 → w1.cell? ⟨w.heap.size, 33, none⟩ = some (.slice a n c) := fun w1 hw => by rw [(P13.out.drew.belowAll (hCb w1 hw)).cell]; exact TW.out
        repeat
          first
            | ((with_reducible refine h_pure (v := ?_) (a' := ?_) ?_ (fun _ => ?_) ?_ ?_); rotate_left; rotate_left; (focus (exact rfl)); (focus (go_simp; (try go_bits); exact rfl)); (focus (simp only [Act.put, List.setIfInBounds_toArray, List.set_cons_succ, List.set_cons_zero, Act.eval, Array.getD_eq_getD_getElem?, List.getElem?_toArray, List.getElem?_cons_succ, List.getElem?_cons_zero, Option.getD_some]; exact rfl)))
            | ((with_reducible refine h_obl (v := ?_) (a' := ?_) ?_ (fun _ hcw => ?_) ?_ ?_); rotate_left; rotate_left; (focus (exact rfl)); (focus (have f1 := Q1 _ hcw; have f2 := Q2 _ hcw; have f3 := Q3 _ hcw; go_simp; (try go_bits); exact rfl)); (focus (simp only [Act.put, List.setIfInBounds_toArray, List.set_cons_succ, List.set_cons_zero, Act.eval, Array.getD_eq_getD_getElem?, List.getElem?_toArray, List.getElem?_cons_succ, List.getElem?_cons_zero, Option.getD_some]; exact rfl)))
            | ((with_reducible refine h_read (v := ?_) (a' := ?_) ?_ (fun _ hbw => ?_) ?_ ?_); rotate_left; rotate_left; (focus (exact rfl)); (focus (skip; go_simp; (try go_bits); exact rfl)); (focus (simp only [Act.put, List.setIfInBounds_toArray, List.set_cons_succ, List.set_cons_zero, Act.eval, Array.getD_eq_getD_getElem?, List.getElem?_toArray, List.getElem?_cons_succ, List.getElem?_cons_zero, Option.getD_some]; exact rfl)))
        refine h_nil ?_
        clear Q1 Q2 Q3
        generalize hAct : Act.mk _ _ = act
        obtain ⟨u, rfl⟩ : ∃ u : Nat → Value, act = { tmps := (fun u : Nat → Value => (u 0 :: Value.pointer (some ⟨w.heap.size, 0, none⟩) :: u 2 :: Value.pointer (some ⟨q, 0, none⟩) :: u 4 :: u 5 :: u 6 :: u 7 :: u 8 :: u 9 :: Value.slice a13 (m - 16) c13 :: Value.int IntKind.i64 0 :: u 12 :: u 13 :: u 14 :: u 15 :: u 16 :: u 17 :: u 18 :: u 19 :: u 20 :: u 21 :: u 22 :: u 23 :: u 24 :: u 25 :: u 26 :: u 27 :: u 28 :: u 29 :: u 30 :: u 31 :: u 32 :: u 33 :: u 34 :: u 35 :: u 36 :: u 37 :: u 38 :: u 39 :: u 40 :: u 41 :: u 42 :: u 43 :: u 44 :: u 45 :: u 46 :: u 47 :: u 48 :: u 49 :: u 50 :: u 51 :: u 52 :: u 53 :: u 54 :: u 55 :: u 56 :: u 57 :: u 58 :: u 59 :: u 60 :: u 61 :: u 62 :: u 63 :: u 64 :: u 65 :: u 66 :: u 67 :: u 68 :: u 69 :: u 70 :: u 71 :: u 72 :: u 73 :: u 74 :: u 75 :: u 76 :: u 77 :: Value.agg (A8 two) :: Value.agg (A8 H) :: u 80 :: Value.slice a n c :: Value.slice a13 (m - 16) c13 :: u 83 :: u 84 :: u 85 :: u 86 :: u 87 :: u 88 :: u 89 :: u 90 :: u 91 :: u 92 :: u 93 :: u 94 :: u 95 :: u 96 :: u 97 :: u 98 :: u 99 :: u 100 :: u 101 :: u 102 :: u 103 :: u 104 :: u 105 :: u 106 :: u 107 :: u 108 :: u 109 :: u 110 :: u 111 :: u 112 :: u 113 :: []).toArray) u, defers := [] } := by
          subst hAct; exact ex_frame _ rfl
        clear hAct
        obtain ⟨St, hSt⟩ : ∃ St : Nat → Bool → Act → World → Prop, ∀ kk fr a' w', St kk fr a' w' ↔ (∃ x83 x84 x12 : Value, a' = { tmps := (u 0 :: Value.pointer (some ⟨w.heap.size, 0, none⟩) :: u 2 :: Value.pointer (some ⟨q, 0, none⟩) :: u 4 :: u 5 :: u 6 :: u 7 :: u 8 :: u 9 :: Value.slice a13 (m - 16) c13 :: Value.int IntKind.i64 0 :: x12 :: u 13 :: u 14 :: u 15 :: u 16 :: u 17 :: u 18 :: u 19 :: u 20 :: u 21 :: u 22 :: u 23 :: u 24 :: u 25 :: u 26 :: u 27 :: u 28 :: u 29 :: u 30 :: u 31 :: u 32 :: u 33 :: u 34 :: u 35 :: u 36 :: u 37 :: u 38 :: u 39 :: u 40 :: u 41 :: u 42 :: u 43 :: u 44 :: u 45 :: u 46 :: u 47 :: u 48 :: u 49 :: u 50 :: u 51 :: u 52 :: u 53 :: u 54 :: u 55 :: u 56 :: u 57 :: u 58 :: u 59 :: u 60 :: u 61 :: u 62 :: u 63 :: u 64 :: u 65 :: u 66 :: u 67 :: u 68 :: u 69 :: u 70 :: u 71 :: u 72 :: u 73 :: u 74 :: u 75 :: u 76 :: u 77 :: Value.agg (A8 two) :: Value.agg (A8 H) :: u 80 :: Value.slice a n c :: Value.slice a13 (m - 16) c13 :: x83 :: x84 :: u 85 :: u 86 :: u 87 :: u 88 :: u 89 :: u 90 :: u 91 :: u 92 :: u 93 :: u 94 :: u 95 :: u 96 :: u 97 :: u 98 :: u 99 :: u 100 :: u 101 :: u 102 :: u 103 :: u 104 :: u 105 :: u 106 :: u 107 :: u 108 :: u 109 :: u 110 :: u 111 :: u 112 :: u 113 :: []).toArray, defers := [] } ∧ Below w13.drew.heap.size w13.drew w' ∧ (1 ≤ kk → x83 = .agg (A8 ha2)) ∧ (2 ≤ kk → x84 = .agg (A8 fst)) ∧ (fr = true → ∃ g, x12 = .pointer (some ⟨g, 0, none⟩) ∧ w13.heap.size ≤ g ∧ Blk w' g 40 (A8 (zeros 8 16)))) := ⟨_, fun _ _ _ _ => Iff.rfl⟩
        refine permHO_chain (St := St) [_, _] _ 0 ⟨?rs1, ?rs2, trivial⟩ ?rf ?rch ?rnd ?rR _ _ ?r0
        case r0 => exact (hSt _ _ _ _).2 ⟨_, _, _, rfl, Below.refl _ _, fun h => by omega, fun h => by omega, fun h => by cases h⟩
        case rch => exact ⟨by decide, trivial⟩
        case rnd => decide
        case rs1 =>
          intro fr a3 w3 hs
          obtain ⟨x83, x84, x12, rfl, D3, h1, h2, hf⟩ := (hSt _ _ _ _).1 hs
          clear hs
          refine opH_of_wpH ?_
          (with_reducible refine h_call ?_ ?_)
          · exact rfl
          go_simp
          refine entersW_of ?_
          refine (vhash_any H t bly hHl a a13 n c (m - 16) c13 w3 (X13.out.drew.below D3) (A13.out.drew.below D3) (by omega) (by omega)).mono ?_
          rintro e w4 ⟨rfl, d4⟩
          refine ⟨_, rfl, d4, ?_⟩
          try simp only [Act.put, List.setIfInBounds_toArray, List.set_cons_succ, List.set_cons_zero]
          rw [← Hha2.out]
          refine h_nil ((hSt _ _ _ _).2 ⟨_, _, _, rfl, D3.trans (d4.mono D3.size), fun _ => rfl, fun h => by omega, fun e => ?_⟩)
          obtain ⟨g, e1, e2, e3⟩ := hf e
          exact ⟨g, e1, e2, e3.belowAll d4⟩
        case rs2 =>
          intro fr a3 w3 hs
          obtain ⟨x83, x84, x12, rfl, D3, h1, h2, hf⟩ := (hSt _ _ _ _).1 hs
          clear hs
          obtain rfl := h1 (by omega)
          refine opH_of_wpH ?_
          (with_reducible refine h_call ?_ ?_)
          · exact rfl
          go_simp
          refine entersW_of ?_
          refine (plus18_any two ha2 w3 twol ha2l).mono ?_
          rintro e w4 ⟨rfl, d4⟩
          refine ⟨_, rfl, d4, ?_⟩
          try simp only [Act.put, List.setIfInBounds_toArray, List.set_cons_succ, List.set_cons_zero]
          rw [← Hfst.out]
          refine h_nil ((hSt _ _ _ _).2 ⟨_, _, _, rfl, D3.trans (d4.mono D3.size), fun _ => rfl, fun _ => rfl, fun e => ?_⟩)
          obtain ⟨g, e1, e2, e3⟩ := hf e
          exact ⟨g, e1, e2, e3.belowAll d4⟩
        case rf =>
          intro j hj a3 w3 hs
          obtain ⟨x83, x84, x12, rfl, D3, h1, h2, hf⟩ := (hSt _ _ _ _).1 hs
          clear hs
          refine opH_of_wpH ?_
          obtain ⟨u3, eu3⟩ : ∃ u, w3.alloc (.cells (A8 (zeros 8 16)) 40) = u := ⟨_, rfl⟩
          obtain ⟨bf, du, zu⟩ := new1 _ _ _ _ eu3
          obtain ⟨pf, hpf⟩ : ∃ g, g = w3.heap.size := ⟨_, rfl⟩
          refine h_made (v := .pointer (some ⟨pf, 0, none⟩)) (w' := u3) rfl (by rw [hpf]; go_simp; exact eu3) du ?_
          simp only [Act.put, List.setIfInBounds_toArray, List.set_cons_succ, List.set_cons_zero]
          rw [← hpf] at bf
          exact h_nil ((hSt _ _ _ _).2 ⟨_, _, _, rfl, D3.trans (du.mono D3.size), h1, h2, fun _ => ⟨pf, rfl, by rw [hpf]; exact D3.size, bf⟩⟩)
        case rR =>
          intro a3 w3 hs
          obtain ⟨x83, x84, x12, rfl, D3, h1, h2, hf⟩ := (hSt _ _ _ _).1 hs
          clear hs hSt
          obtain rfl := h2 (by decide)
          obtain ⟨gf, rfl, hg, bg⟩ := hf rfl
          refine c_act ?_
          refine z_storeRow bg rfl rfl (by rw [A8_size, A8_size, fstl, zeros_length]) (A8_ones _) (by rw [A8_size, fstl]; exact Tryd.sizeOf40 _) (fun w14 kk4 g4 s4 => ?_)
          have BD := D3.trans (grown_below g4 hg D3.size)
          refine z_nil ⟨hCe _ BD, ?_⟩
          refine c_nil (hK' _ _ ?_)
          have E4 : Below w13.heap.size w13 w14 := ((Below.refl w13.heap.size w13).drew).trans BD
          have K14 := Lib.hid (K13.out.below E4)
          have P14 := Lib.hid (P13.out.belowAll E4)
          have B14 := Lib.hid (B13.out.trans (E4.mono B13.out.size))
          have T14 := Lib.hid (T13.out.below E4)
          have X14 := Lib.hid (X13.out.below E4)
          have M14 := Lib.hid (M13.out.below E4)
          have A14 := Lib.hid (A13.out.below E4)
          have F14 := Lib.hid kk4
          clear hK' hC0 hCb hCe BD D3 h1 h2 hf bg g4 s4 kk4 E4
          have c1 := P14.out.cell 33
          rw [TW.out] at c1
          have c2 := P14.out.cell 34
          rw [MS.out] at c2
          go_wp2_with fail
          refine (henc_any q ck p mm L H lb t x a (some ⟨bk, bo, none⟩) n c m d w14 K14.out (by omega) (by omega) X14.out M14.out (by omega) (by omega) (by omega)).mono ?_
          rintro e w15 ⟨v15, rfl, o15, d15⟩
          rw [HDO.out] at o15
          obtain ⟨a15, c15, rfl, hr15, _⟩ := o15.rd
          rw [hYl] at hr15 ⊢
          have Y15 := Lib.hid hr15
          have B15 := Lib.hid (B14.out.trans (d15.mono B14.out.size))
          have T15 := Lib.hid (T14.out.below d15)
          have A15 := Lib.hid (A14.out.below d15)
          have F15 := Lib.hid (F14.out.belowAll d15)
          clear c1 c2 d15 o15 hr15 K14 P14 B14 T14 X14 M14 A14 F14
          go_upto_region 13 with fail
          refine wp_region_order [0,0,0,0,0,0,0,0,5,2,0,3,0,3,3,0,0,0,3,0,0] [0,1,2,3,4,5,6,7,8,10,12] [(9, 2, _)] (fun _ => []) [11,13,14,15,16,17,18,19,20] [_, _, _, _, _, _, _, _, _, _, _] [_, _, _, _, _, _, _, _, _] [0,0,0,0,0,0,0,0,5,0,0] [3,3,3,0,0,0,3,0,0] 1 rfl rfl rfl (by kernel_rfl) (by kernel_rfl) (by kernel_rfl) rfl rfl rfl (fun C0 hC0 hCb hCe K' hK' => ?_)
          have Q1 : ∀ w1, C0 w1 → (convert 23 9 (.slice a15 m c15)).run Tryd.prog w1 = .ok (.string (str Y)) w1 := fun w1 hw => run_str (P := Tryd.prog) w1 23 9 5 a15 m c15 Y Tryd.underlying23 Tryd.underlying9 Tryd.underlying5 (Y15.out.drew.below (hCb w1 hw))
          repeat
            first
              | ((with_reducible refine h_pure (v := ?_) (a' := ?_) ?_ (fun _ => ?_) ?_ ?_); rotate_left; rotate_left; (focus (exact rfl)); (focus (go_simp; (try go_bits); exact rfl)); (focus (simp only [Act.put, List.setIfInBounds_toArray, List.set_cons_succ, List.set_cons_zero, Act.eval, Array.getD_eq_getD_getElem?, List.getElem?_toArray, List.getElem?_cons_succ, List.getElem?_cons_zero, Option.getD_some]; exact rfl)))
              | ((with_reducible refine h_obl (v := ?_) (a' := ?_) ?_ (fun _ hcw => ?_) ?_ ?_); rotate_left; rotate_left; (focus (exact rfl)); (focus (have f1 := Q1 _ hcw; go_simp; (try go_bits); exact rfl)); (focus (simp only [Act.put, List.setIfInBounds_toArray, List.set_cons_succ, List.set_cons_zero, Act.eval, Array.getD_eq_getD_getElem?, List.getElem?_toArray, List.getElem?_cons_succ, List.getElem?_cons_zero, Option.getD_some]; exact rfl)))
              | ((with_reducible refine h_read (v := ?_) (a' := ?_) ?_ (fun _ hbw => ?_) ?_ ?_); rotate_left; rotate_left; (focus (exact rfl)); (focus (skip; go_simp; (try go_bits); exact rfl)); (focus (simp only [Act.put, List.setIfInBounds_toArray, List.set_cons_succ, List.set_cons_zero, Act.eval, Array.getD_eq_getD_getElem?, List.getElem?_toArray, List.getElem?_cons_succ, List.getElem?_cons_zero, Option.getD_some]; exact rfl)))
          refine h_nil (permHO_one (opH_of_wpH ?_))
          clear Q1
          refine h_build0 (B := w15.heap.size) (Nat.le_refl _) Tryd.underlying23 info8 rfl (fun w16 v16 o16 d16 => ?_)
          simp only [Act.put, List.setIfInBounds_toArray, List.set_cons_succ, List.set_cons_zero]
          refine h_nil ?_
          have rF : Rd8 w16 (some ⟨gf, 0, none⟩) 16 16 fst := by
            have := ((F15.out.drew.belowAll d16).rd8 16 (by omega) (by rw [fstl]; unfold maxLen; omega))
            rwa [fstl, List.take_of_length_le (by omega)] at this
          refine c_append8 o16 rF rfl rfl rfl Tryd.underlying23 info8 (by simp) d16.size (fun w17 v17 o17 g17 b17 => ?_)
          simp only [Act.put, List.setIfInBounds_toArray, List.set_cons_succ, List.set_cons_zero]
          have BD17 := d16.trans b17
          have hC17 := hCe _ BD17
          refine ⟨hC17, ?_⟩
          rw [List.nil_append] at o17
          refine c_append8 o17 (A15.out.drew.below BD17) rfl rfl rfl Tryd.underlying23 info8 (by rw [fstl]; omega) BD17.size (fun w18 v18 o18 g18 b18 => ?_)
          simp only [Act.put, List.setIfInBounds_toArray, List.set_cons_succ, List.set_cons_zero]
          have BD18 := BD17.trans b18
          have hC18 := hCe _ BD18
          refine ⟨hC18, ?_⟩
          rw [← HYY.out] at o18
          obtain ⟨a18, c18, rfl, hr18, _⟩ := o18.rd
          rw [hYl] at hr18 ⊢
          have s2 := run_str (P := Tryd.prog) w18 23 9 5 a18 m c18 Y Tryd.underlying23 Tryd.underlying9 Tryd.underlying5 hr18
          refine c_run (v := .string (str Y)) (w' := w18) rfl (by go_simp) hC18 ?_
          simp only [Act.put, List.setIfInBounds_toArray, List.set_cons_succ, List.set_cons_zero]
          clear s2
          (refine c_pure (v := ?_) (a' := ?_) ?_ ?_ ?_ ?_ ?_)
          rotate_left
          rotate_left
          · assumption
          · exact rfl
          · (intro wq; go_simp; (try go_bits); exact rfl)
          · (simp only [Act.put, List.setIfInBounds_toArray, List.set_cons_succ, List.set_cons_zero, Act.eval, Array.getD_eq_getD_getElem?, List.getElem?_toArray, List.getElem?_cons_succ, List.getElem?_cons_zero, Option.getD_some]; exact rfl)
          (refine c_pure (v := ?_) (a' := ?_) ?_ ?_ ?_ ?_ ?_)
          rotate_left
          rotate_left
          · assumption
          · exact rfl
          · (intro wq; go_simp; (try go_bits); exact rfl)
          · (simp only [Act.put, List.setIfInBounds_toArray, List.set_cons_succ, List.set_cons_zero, Act.eval, Array.getD_eq_getD_getElem?, List.getElem?_toArray, List.getElem?_cons_succ, List.getElem?_cons_zero, Option.getD_some]; exact rfl)
          (refine c_pure (v := ?_) (a' := ?_) ?_ ?_ ?_ ?_ ?_)
          rotate_left
          rotate_left
          · assumption
          · exact rfl
          · (intro wq; go_simp; (try go_bits); exact rfl)
          · (simp only [Act.put, List.setIfInBounds_toArray, List.set_cons_succ, List.set_cons_zero, Act.eval, Array.getD_eq_getD_getElem?, List.getElem?_toArray, List.getElem?_cons_succ, List.getElem?_cons_zero, Option.getD_some]; exact rfl)
          (refine c_call ?_ ?_)
          · exact rfl
          go_simp
          refine entersW_of ?_
          refine (awake18_any w18 (T15.out.below (((Below.refl w15.heap.size w15).drew).trans BD18))).mono ?_
          rintro e w19 ⟨rfl, d19⟩
          refine ⟨_, rfl, hCe _ (BD18.trans (d19.mono BD18.size)), ?_⟩
          try simp only [Act.put, List.setIfInBounds_toArray, List.set_cons_succ, List.set_cons_zero]
          have BD19 := BD18.trans (d19.mono BD18.size)
          have hC19 := hCe _ BD19
          (refine c_pure (v := ?_) (a' := ?_) ?_ ?_ ?_ ?_ ?_)
          rotate_left
          rotate_left
          · assumption
          · exact rfl
          · (intro wq; go_simp; (try go_bits); exact rfl)
          · (simp only [Act.put, List.setIfInBounds_toArray, List.set_cons_succ, List.set_cons_zero, Act.eval, Array.getD_eq_getD_getElem?, List.getElem?_toArray, List.getElem?_cons_succ, List.getElem?_cons_zero, Option.getD_some]; exact rfl)
          (refine c_pure (v := ?_) (a' := ?_) ?_ ?_ ?_ ?_ ?_)
          rotate_left
          rotate_left
          · assumption
          · exact rfl
          · (intro wq; go_simp; (try go_bits); exact rfl)
          · (simp only [Act.put, List.setIfInBounds_toArray, List.set_cons_succ, List.set_cons_zero, Act.eval, Array.getD_eq_getD_getElem?, List.getElem?_toArray, List.getElem?_cons_succ, List.getElem?_cons_zero, Option.getD_some]; exact rfl)
          refine c_nil (hK' _ _ ?_)
          have B19 := Lib.hid (B15.out.drew.trans (BD19.mono B15.out.size))
          clear hK' hC0 hCb hCe o16 d16 rF o17 g17 b17 BD17 hC17 o18 g18 b18 BD18 hC18 hr18 d19 BD19 hC19
          go_wp2
          go_ret
          exact ⟨rfl, B19.out⟩
  · rw [decide_eq_false hs] at sh
    have SH := Lib.hid sh
    clear sh hs
    go_enter Tryd.func4, Tryd.ntmps4
    go_wp2_with fail
    refine SH.out.mono ?_
    rintro e w1 ⟨rfl, d1⟩
    go_wp2
    go_ret
    exact ⟨rfl, B0.out.trans (d1.mono B0.out.size)⟩
end Go.Proofs.YtfdkmjegcghieaaDoor
