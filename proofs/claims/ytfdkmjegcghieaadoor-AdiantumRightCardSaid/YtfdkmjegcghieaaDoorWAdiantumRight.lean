/- AdiantumRight: the walk -/
import Derived.Test.YtfdkmjegcghieaaDoorHl
import Derived.Test.YtfdkmjegcghieaaDoorEq
import Derived.Test.YtfdkmjegcghieaaDoorGs
import Derived.Test.YtfdkmjegcghieaaDoorEqW
namespace Go.Proofs.YtfdkmjegcghieaaDoor
open Go.RowKit
set_option linter.unusedSimpArgs false in
set_option maxRecDepth 100000 in
set_option maxHeartbeats 1600000 in
theorem AdiantumRight_walk (T : Array Value) (k : List (BitVec 8)) (a : Option Addr) (n c : Nat) (t : List (BitVec 8)) (b : Option Addr) (m d : Nat) (x ot : List (BitVec 8)) (w : World) (h : AText T k a n c b m d) (ht : Rd8 w a n c t) (hx : Rd8 w b m d x) (hot : ot.length = 16) (hT : Turning w) :
    Calls Tryd.prog 10 #[.agg T, .agg (A8 ot)] w fun e w' => e = .returned (.bool true) ∧ Below w.heap.size w w' := by
  obtain ⟨W, hW⟩ : ∃ W, ((w.alloc (.cells T 53)).alloc (.cells (A8 ot) 40)) = W := ⟨_, rfl⟩
  obtain ⟨b0, b1, hb, hz⟩ := new2 _ _ _ _ _ _ hW
  have r0 := b0.row
  have P0 := Lib.hid b0
  have O0 := Lib.hid b1
  have B0 := Lib.hid hb
  have T0 := Lib.hid (hT.below hb)
  have X0 := Lib.hid (ht.below hb)
  have M0 := Lib.hid (hx.below hb)
  have s0 := h.size
  have x0 : T.extract 0 34 = T := by rw [← s0]; simp
  have HH := Lib.hid h
  have TW := Lib.hid h.tweak
  have MS := Lib.hid h.msg
  have hxl := hx.1
  have sh := short17_any W h
  clear hb hz hT ht hx h b0 b1
  by_cases hs : n ≤ 100 ∧ m ≤ 300
  · rw [decide_eq_true hs] at sh
    have SH := Lib.hid sh
    obtain ⟨hn, hm⟩ := hs
    clear sh
    go_enter Tryd.func10, Tryd.ntmps10
    go_wp2_with fail
    refine SH.out.mono ?_
    rintro e w1 ⟨rfl, d1⟩
    have P1 := Lib.hid (P0.out.belowAll d1)
    have B1 := Lib.hid (B0.out.trans (d1.mono B0.out.size))
    have T1 := Lib.hid (T0.out.below d1)
    have O1 := Lib.hid (O0.out.belowAll d1)
    have X1 := Lib.hid (X0.out.below d1)
    have M1 := Lib.hid (M0.out.below d1)
    have c2 := P1.out.cell 33
    rw [MS.out] at c2
    have r1 := P1.out.row
    clear d1 r0 hW SH P0 B0 T0 X0 M0 O0
    by_cases hm16 : m < 16
    · have f1 : (m : Int) < 16 := by omega
      go_wp2
      go_ret
      exact ⟨rfl, B1.out⟩
    · have f1 : ¬ (m : Int) < 16 := by omega
      go_wp2_with fail
      refine (cipher17_any w1 HH.out T1.out).mono ?_
      rintro e w2 ⟨q, p, rfl, hk2, d2⟩
      have hkl := HH.out.lk
      have K2 := Lib.hid hk2
      have P2 := Lib.hid (P1.out.belowAll d2)
      have B2 := Lib.hid (B1.out.trans (d2.mono B1.out.size))
      have T2 := Lib.hid (T1.out.below d2)
      have O2 := Lib.hid (O1.out.belowAll d2)
      have X2 := Lib.hid (X1.out.below d2)
      have M2 := Lib.hid (M1.out.below d2)
      clear hk2 c2 r1 d2 P1 B1 T1 X1 M1 O1
      have r2 := P2.out.row
      have ek := HH.out.key
      go_wp2_with fail
      refine (own17_any w2 HH.out T2.out).mono ?_
      rintro e wA ⟨gk, ks, p2, rfl, hk3, ha3, d3⟩
      have NA := Lib.hid hk3
      have SA := Lib.hid ha3
      have KA := Lib.hid (K2.out.below d3)
      have PA := Lib.hid (P2.out.belowAll d3)
      have BA := Lib.hid (B2.out.trans (d3.mono B2.out.size))
      have TA := Lib.hid (T2.out.below d3)
      have XA := Lib.hid (X2.out.below d3)
      have ZA := Lib.hid (M2.out.below d3)
      have OA := Lib.hid (O2.out.belowAll d3)
      clear hk3 ha3 d3 r2 ek HH K2 P2 B2 T2 X2 M2 O2
      obtain ⟨E, hE⟩ : ∃ E, E = m - 16 := ⟨_, rfl⟩
      have e1 : (m : Int) - 16 = (E : Int) := by omega
      have e2 : IntKind.i64.wrap (E : Int) = (E : Int) := by rw [IntKind.wrap_i64]; omega
      have hEm : E + 16 = m := by omega
      have HE := Lib.hid hE
      clear hE
      have e3 : (0 : Int) ≤ (E : Int) := by omega
      have e4 : (E : Int) ≤ (m : Int) := by omega
      have e6 : E ≤ 300 := by omega
      obtain ⟨B, eB⟩ : ∃ z, z = x.take E := ⟨_, rfl⟩
      have Bl : B.length = E := by rw [eB]; rw [List.length_take]; omega
      have HB := Lib.hid eB
      clear eB
      obtain ⟨RR, eRR⟩ : ∃ z, z = x.drop E := ⟨_, rfl⟩
      have RRl : RR.length = 16 := by rw [eRR]; rw [List.length_drop]; omega
      have HRR := Lib.hid eRR
      clear eRR
      obtain ⟨R, eR⟩ : ∃ z, z = wideN RR := ⟨_, rfl⟩
      have HR := Lib.hid eR
      clear eR
      obtain ⟨RO, eRO⟩ : ∃ z, z = wideN ot := ⟨_, rfl⟩
      have HRO := Lib.hid eRO
      clear eRO
      obtain ⟨y, ey⟩ : ∃ z, z = B ++ ot := ⟨_, rfl⟩
      have hyl : y.length = m := by rw [ey, List.length_append]; omega
      have hyt : y.take E = B := by rw [ey, List.take_left' Bl]
      have hyd : y.drop E = ot := by rw [ey, List.drop_left' Bl]
      have HY := Lib.hid ey
      clear ey
      have hx16 : 16 ≤ x.length := by omega
      have hy16 : 16 ≤ y.length := by omega
      have hbx : bulkA x = B := by rw [bulkA, HB.out, hxl, HE.out]
      have hby : bulkA y = B := by rw [bulkA, hyl, ← HE.out, hyt]
      have hrx : rightA x = R := by rw [rightA, HR.out, HRR.out, hxl, HE.out]
      have hry : rightA y = RO := by rw [rightA, HRO.out, hyl, ← HE.out, hyd]
      obtain ⟨S, eS⟩ : ∃ z, z = sumN (hashA k) t B := ⟨_, rfl⟩
      have HS := Lib.hid eS
      clear eS
      have app := encA_plain k t x
      have arp := encA_right k t x
      have alp : (encA k t x).length = m := by rw [encA_length _ _ _ hx16]; exact hxl
      rw [hbx, hrx, ← HS.out] at app
      rw [rightA, bulkA, alp, ← HE.out] at arp
      obtain ⟨A, eA⟩ : ∃ z, z = encA k t x := ⟨_, rfl⟩
      have HA := Lib.hid eA
      clear eA
      rw [← HA.out] at arp alp
      obtain ⟨Mp, eMp⟩ : ∃ z, z = midE k t x := ⟨_, rfl⟩
      have HMp := Lib.hid eMp
      clear eMp
      rw [← HMp.out] at app arp
      obtain ⟨Lp, eLp⟩ : ∃ z, z = wideN (A.drop E) := ⟨_, rfl⟩
      have HLp := Lib.hid eLp
      clear eLp
      obtain ⟨Sp, eSp⟩ : ∃ z, z = sumN (hashA k) t (A.take E) := ⟨_, rfl⟩
      have HSp := Lib.hid eSp
      clear eSp
      obtain ⟨PBp, ePBp⟩ : ∃ z, z = bytesW Mp := ⟨_, rfl⟩
      have PBpl : PBp.length = 16 := by rw [ePBp]; exact bytesW_length _
      have HPBp := Lib.hid ePBp
      clear ePBp
      obtain ⟨Wp, eWp⟩ : ∃ z, z = addW2 R S := ⟨_, rfl⟩
      have HWp := Lib.hid eWp
      clear eWp
      obtain ⟨Up, eUp⟩ : ∃ z, z = bytesW Wp := ⟨_, rfl⟩
      have Upl : Up.length = 16 := by rw [eUp]; exact bytesW_length _
      have HUp := Lib.hid eUp
      clear eUp
      rw [← HLp.out, ← HSp.out] at arp
      rw [← HPBp.out, ← HWp.out, ← HUp.out] at app
      have ARp := Lib.hid arp
      have APp := Lib.hid app
      clear arp app
      have apq := encA_plain k t y
      have arq := encA_right k t y
      have alq : (encA k t y).length = m := by rw [encA_length _ _ _ hy16]; exact hyl
      rw [hby, hry, ← HS.out] at apq
      rw [rightA, bulkA, alq, ← HE.out] at arq
      obtain ⟨Q, eQ⟩ : ∃ z, z = encA k t y := ⟨_, rfl⟩
      have HQ := Lib.hid eQ
      clear eQ
      rw [← HQ.out] at arq alq
      obtain ⟨Mq, eMq⟩ : ∃ z, z = midE k t y := ⟨_, rfl⟩
      have HMq := Lib.hid eMq
      clear eMq
      rw [← HMq.out] at apq arq
      obtain ⟨Lq, eLq⟩ : ∃ z, z = wideN (Q.drop E) := ⟨_, rfl⟩
      have HLq := Lib.hid eLq
      clear eLq
      obtain ⟨Sq, eSq⟩ : ∃ z, z = sumN (hashA k) t (Q.take E) := ⟨_, rfl⟩
      have HSq := Lib.hid eSq
      clear eSq
      obtain ⟨PBq, ePBq⟩ : ∃ z, z = bytesW Mq := ⟨_, rfl⟩
      have PBql : PBq.length = 16 := by rw [ePBq]; exact bytesW_length _
      have HPBq := Lib.hid ePBq
      clear ePBq
      obtain ⟨Wq, eWq⟩ : ∃ z, z = addW2 RO S := ⟨_, rfl⟩
      have HWq := Lib.hid eWq
      clear eWq
      obtain ⟨Uq, eUq⟩ : ∃ z, z = bytesW Wq := ⟨_, rfl⟩
      have Uql : Uq.length = 16 := by rw [eUq]; exact bytesW_length _
      have HUq := Lib.hid eUq
      clear eUq
      rw [← HLq.out, ← HSq.out] at arq
      rw [← HPBq.out, ← HWq.out, ← HUq.out] at apq
      have ARq := Lib.hid arq
      have APq := Lib.hid apq
      clear arq apq
      obtain ⟨DI, eDI⟩ : ∃ z, z = subW2 R RO := ⟨_, rfl⟩
      have HDI := Lib.hid eDI
      clear eDI
      have hdi : subW2 Wp Wq = DI := by rw [HWp.out, HWq.out, sub_both, HDI.out]
      have HDD := Lib.hid hdi
      clear hdi hbx hby hrx hry hyt hyd
      obtain ⟨bk, bo, rfl, _, _⟩ := ZA.out.2.2.2 (by omega)
      obtain ⟨bA, eA⟩ : ∃ z, (if d = E then some (⟨bk, bo, none⟩ : Addr) else some ⟨bk, bo + E, none⟩) = z := ⟨_, rfl⟩
      have mc := ZA.out.cut (j := E) (k := m) (by omega) (Nat.le_refl _)
      simp only [Option.map_some, Addr.add_lit] at mc
      rw [eA, List.take_of_length_le (by omega), ← HRR.out] at mc
      have MC := Lib.hid mc
      have mp := ZA.out.pre (j := E) (by omega)
      rw [← HB.out] at mp
      have MP := Lib.hid mp
      clear mc mp
      have i1 : (E : Int) ≤ (d : Int) := by have := ZA.out.2.1; omega
      have i2 : (m : Int) ≤ (d : Int) := by have := ZA.out.2.1; omega
      have c1 := PA.out.cell 32
      rw [TW.out] at c1
      have c2 := PA.out.cell 33
      rw [MS.out] at c2
      go_upto_region 8 with fail
      clear c1 c2
      refine wp_region_order [2,0,5,0,0,3,0,3,0] [1,2,3,4,6] [(0, 2, _)] (fun _ => []) [5,7,8] [_, _, _, _, _] [_, _, _] [0,5,0,0,0] [3,3,0] 1 rfl rfl rfl (by kernel_rfl) (by kernel_rfl) (by kernel_rfl) rfl rfl rfl (fun C0 hC0 hCb hCe K' hK' => ?_)
      have Q2 : ∀ w1, C0 w1 → w1.cell? ⟨w.heap.size, 33, none⟩ = some (.slice (some ⟨bk, bo, none⟩) m d) := fun w1 hw => by rw [(PA.out.drew.belowAll (hCb w1 hw)).cell]; exact MS.out
      repeat
        first
          | ((with_reducible refine h_pure (v := ?_) (a' := ?_) ?_ (fun _ => ?_) ?_ ?_); rotate_left; rotate_left; (focus (exact rfl)); (focus (go_simp; (try go_bits); exact rfl)); (focus (simp only [Act.put, List.setIfInBounds_toArray, List.set_cons_succ, List.set_cons_zero, Act.eval, Array.getD_eq_getD_getElem?, List.getElem?_toArray, List.getElem?_cons_succ, List.getElem?_cons_zero, Option.getD_some]; exact rfl)))
          | ((with_reducible refine h_obl (v := ?_) (a' := ?_) ?_ (fun _ hcw => ?_) ?_ ?_); rotate_left; rotate_left; (focus (exact rfl)); (focus (have f := Q2 _ hcw; go_simp; (try go_bits); exact rfl)); (focus (simp only [Act.put, List.setIfInBounds_toArray, List.set_cons_succ, List.set_cons_zero, Act.eval, Array.getD_eq_getD_getElem?, List.getElem?_toArray, List.getElem?_cons_succ, List.getElem?_cons_zero, Option.getD_some]; exact rfl)))
          | ((with_reducible refine h_read (v := ?_) (a' := ?_) ?_ (fun _ hbw => ?_) ?_ ?_); rotate_left; rotate_left; (focus (exact rfl)); (focus (skip; go_simp; (try go_bits); exact rfl)); (focus (simp only [Act.put, List.setIfInBounds_toArray, List.set_cons_succ, List.set_cons_zero, Act.eval, Array.getD_eq_getD_getElem?, List.getElem?_toArray, List.getElem?_cons_succ, List.getElem?_cons_zero, Option.getD_some]; exact rfl)))
      refine h_nil (permHO_one (opH_of_wpH ?_))
      clear Q2
      refine h_build0 (B := wA.heap.size) (Nat.le_refl _) Tryd.underlying23 info8 rfl (fun w6 v6 o6 d6 => ?_)
      simp only [Act.put, List.setIfInBounds_toArray, List.set_cons_succ, List.set_cons_zero]
      refine h_nil ?_
      refine c_append8 o6 (MP.out.drew.below d6) rfl rfl rfl Tryd.underlying23 info8 (by simp; omega) d6.size (fun w7 v7 o7 g7 b7 => ?_)
      simp only [Act.put, List.setIfInBounds_toArray, List.set_cons_succ, List.set_cons_zero]
      have BD7 := d6.trans b7
      have hC7 := hCe _ BD7
      refine ⟨hC7, ?_⟩
      rw [List.nil_append] at o7
      have rO : Rd8 w7 (some ⟨w.heap.size + 1, 0, none⟩) 16 16 ot := by
        have := ((OA.out.drew.belowAll BD7).rd8 16 (by omega) (by rw [hot]; unfold maxLen; omega))
        rwa [hot, List.take_of_length_le (by omega)] at this
      refine c_append8 o7 rO rfl rfl rfl Tryd.underlying23 info8 (by rw [Bl]; omega) BD7.size (fun w8 v8_ o8 g8 b8 => ?_)
      simp only [Act.put, List.setIfInBounds_toArray, List.set_cons_succ, List.set_cons_zero]
      have BD8 := BD7.trans b8
      have hC8 := hCe _ BD8
      refine ⟨hC8, ?_⟩
      (refine c_pure (v := ?_) (a' := ?_) ?_ ?_ ?_ ?_ ?_)
      rotate_left
      rotate_left
      · assumption
      · exact rfl
      · (intro wq; go_simp; (try go_bits); exact rfl)
      · (simp only [Act.put, List.setIfInBounds_toArray, List.set_cons_succ, List.set_cons_zero, Act.eval, Array.getD_eq_getD_getElem?, List.getElem?_toArray, List.getElem?_cons_succ, List.getElem?_cons_zero, Option.getD_some]; exact rfl)
      refine c_nil (hK' _ _ ?_)
      rw [← HY.out] at o8
      obtain ⟨a8, c8, rfl, hr8, _⟩ := o8.rd
      rw [hyl] at hr8 ⊢
      have E8 : Below wA.heap.size wA w8 := ((Below.refl wA.heap.size wA).drew).trans BD8
      have K8 := Lib.hid (KA.out.below E8)
      have P8 := Lib.hid (PA.out.belowAll E8)
      have B8 := Lib.hid (BA.out.trans (E8.mono BA.out.size))
      have T8 := Lib.hid (TA.out.below E8)
      have X8 := Lib.hid (XA.out.below E8)
      have Z8 := Lib.hid (ZA.out.below E8)
      have O8 := Lib.hid (OA.out.belowAll E8)
      have N8 := Lib.hid (NA.out.below E8)
      have S8 := Lib.hid (SA.out.below E8)
      have MC8 := Lib.hid (MC.out.below E8)
      have Y8 := Lib.hid hr8
      clear hC0 hCb hCe hK' o6 d6 rO o7 g7 b7 BD7 hC7 o8 g8 b8 BD8 hC8 hr8 E8 MC MP KA PA BA TA XA ZA OA NA SA
      have c1 := P8.out.cell 32
      rw [TW.out] at c1
      have c2 := P8.out.cell 33
      rw [MS.out] at c2
      go_wp2_with fail
      refine (aenc_any q p k t x a (some ⟨bk, bo, none⟩) n c m d w8 K8.out hkl X8.out Z8.out (by omega) (by omega)).mono ?_
      rintro e w9 ⟨v9, rfl, o9, d9⟩
      rw [← HA.out] at o9
      obtain ⟨a9, c9, rfl, hr9, _⟩ := o9.rd
      rw [alp] at hr9 ⊢
      obtain ⟨gk9, go9, rfl, _, _⟩ := hr9.2.2.2 (by omega)
      have K9 := Lib.hid (K8.out.below d9)
      have P9 := Lib.hid (P8.out.belowAll d9)
      have B9 := Lib.hid (B8.out.trans (d9.mono B8.out.size))
      have T9 := Lib.hid (T8.out.below d9)
      have X9 := Lib.hid (X8.out.below d9)
      have Z9 := Lib.hid (Z8.out.below d9)
      have O9 := Lib.hid (O8.out.belowAll d9)
      have N9 := Lib.hid (N8.out.below d9)
      have S9 := Lib.hid (S8.out.below d9)
      have Y9 := Lib.hid (Y8.out.below d9)
      have MC9 := Lib.hid (MC8.out.below d9)
      have A9 := Lib.hid hr9
      clear o9 hr9 d9 c1 c2 MC8 K8 P8 B8 T8 X8 Z8 O8 N8 S8 Y8
      have c1 := P9.out.cell 32
      rw [TW.out] at c1
      have c2 := P9.out.cell 33
      rw [MS.out] at c2
      go_wp2_with fail
      refine (aenc_any q p k t y a a8 n c m c8 w9 K9.out hkl X9.out Y9.out (by omega) (by omega)).mono ?_
      rintro e w10 ⟨v10, rfl, o10, d10⟩
      rw [← HQ.out] at o10
      obtain ⟨a10, c10, rfl, hr10, _⟩ := o10.rd
      rw [alq] at hr10 ⊢
      obtain ⟨gk10, go10, rfl, _, _⟩ := hr10.2.2.2 (by omega)
      have P10 := Lib.hid (P9.out.belowAll d10)
      have B10 := Lib.hid (B9.out.trans (d10.mono B9.out.size))
      have T10 := Lib.hid (T9.out.below d10)
      have X10 := Lib.hid (X9.out.below d10)
      have Z10 := Lib.hid (Z9.out.below d10)
      have O10 := Lib.hid (O9.out.belowAll d10)
      have N10 := Lib.hid (N9.out.below d10)
      have S10 := Lib.hid (S9.out.below d10)
      have A10 := Lib.hid (A9.out.below d10)
      have MC10 := Lib.hid (MC9.out.below d10)
      have Q10 := Lib.hid hr10
      clear o10 hr10 d10 c1 c2 MC9 K9 Y9 P9 B9 T9 X9 Z9 O9 N9 S9 A9
      obtain ⟨bbp, ebp⟩ : ∃ z, (if c9 = E then some (⟨gk9, go9, none⟩ : Addr) else some ⟨gk9, go9 + E, none⟩) = z := ⟨_, rfl⟩
      have mc := A10.out.cut (j := E) (k := m) (by omega) (Nat.le_refl _)
      simp only [Option.map_some, Addr.add_lit] at mc
      rw [ebp, List.take_of_length_le (by omega)] at mc
      have Dp := Lib.hid mc
      have mp := A10.out.pre (j := E) (by omega)
      have Fp := Lib.hid mp
      clear mc mp
      have i1p : (E : Int) ≤ (c9 : Int) := by have := A10.out.2.1; omega
      have i2p : (m : Int) ≤ (c9 : Int) := by have := A10.out.2.1; omega
      obtain ⟨bbq, ebq⟩ : ∃ z, (if c10 = E then some (⟨gk10, go10, none⟩ : Addr) else some ⟨gk10, go10 + E, none⟩) = z := ⟨_, rfl⟩
      have mc := Q10.out.cut (j := E) (k := m) (by omega) (Nat.le_refl _)
      simp only [Option.map_some, Addr.add_lit] at mc
      rw [ebq, List.take_of_length_le (by omega)] at mc
      have Dq := Lib.hid mc
      have mp := Q10.out.pre (j := E) (by omega)
      have Fq := Lib.hid mp
      clear mc mp
      have i1q : (E : Int) ≤ (c10 : Int) := by have := Q10.out.2.1; omega
      have i2q : (m : Int) ≤ (c10 : Int) := by have := Q10.out.2.1; omega
      go_upto_region 13 with fail
      refine wp_region_order [0,0,0,0,2,0,0,5,0,0,0,2,2,2,2,2,3] [0,1,2,3,5,6,7,8,9,10] [(4, 2, _), (11, 2, _), (12, 2, _), (13, 2, _), (14, 2, _), (15, 2, _)] (fun i => if i = 11 then [4] else if i = 12 then [11] else if i = 13 then [12] else if i = 14 then [13] else []) [16] [_, _, _, _, _, _, _, _, _, _] [_] [0,0,0,0,0,0,5,0,0,0] [3] 6 rfl rfl rfl (by kernel_rfl) (by kernel_rfl) (by kernel_rfl) rfl rfl rfl (fun C0 hC0 hCb hCe K' hK' => ?_)
      have Q2 : ∀ w1, C0 w1 → w1.cell? ⟨w.heap.size, 32, none⟩ = some (.slice a n c) := fun w1 hw => by rw [(P10.out.drew.belowAll (hCb w1 hw)).cell]; exact TW.out
      repeat
        first
          | ((with_reducible refine h_pure (v := ?_) (a' := ?_) ?_ (fun _ => ?_) ?_ ?_); rotate_left; rotate_left; (focus (exact rfl)); (focus (go_simp; (try go_bits); exact rfl)); (focus (simp only [Act.put, List.setIfInBounds_toArray, List.set_cons_succ, List.set_cons_zero, Act.eval, Array.getD_eq_getD_getElem?, List.getElem?_toArray, List.getElem?_cons_succ, List.getElem?_cons_zero, Option.getD_some]; exact rfl)))
          | ((with_reducible refine h_obl (v := ?_) (a' := ?_) ?_ (fun _ hcw => ?_) ?_ ?_); rotate_left; rotate_left; (focus (exact rfl)); (focus (have fQ2 := Q2 _ hcw; go_simp; (try go_bits); exact rfl)); (focus (simp only [Act.put, List.setIfInBounds_toArray, List.set_cons_succ, List.set_cons_zero, Act.eval, Array.getD_eq_getD_getElem?, List.getElem?_toArray, List.getElem?_cons_succ, List.getElem?_cons_zero, Option.getD_some]; exact rfl)))
          | ((with_reducible refine h_read (v := ?_) (a' := ?_) ?_ (fun _ hbw => ?_) ?_ ?_); rotate_left; rotate_left; (focus (exact rfl)); (focus (skip; go_simp; (try go_bits); exact rfl)); (focus (simp only [Act.put, List.setIfInBounds_toArray, List.set_cons_succ, List.set_cons_zero, Act.eval, Array.getD_eq_getD_getElem?, List.getElem?_toArray, List.getElem?_cons_succ, List.getElem?_cons_zero, Option.getD_some]; exact rfl)))
      refine h_nil ?_
      clear Q2
      generalize hAct : Act.mk _ _ = act
      obtain ⟨u, rfl⟩ : ∃ u : Nat → Value, act = { tmps := (fun u : Nat → Value => (u 0 :: u 1 :: Value.pointer (some ⟨w.heap.size, 0, none⟩) :: Value.pointer (some ⟨w.heap.size + 1, 0, none⟩) :: u 4 :: u 5 :: u 6 :: Value.pointer (some ⟨gk, 0, none⟩) :: Value.pointer (some ⟨ks, 0, none⟩) :: u 9 :: Value.int IntKind.i64 E :: u 11 :: u 12 :: u 13 :: Value.slice (some ⟨gk10, go10, none⟩) m c10 :: u 15 :: u 16 :: u 17 :: u 18 :: u 19 :: u 20 :: u 21 :: u 22 :: u 23 :: u 24 :: u 25 :: u 26 :: u 27 :: u 28 :: u 29 :: u 30 :: u 31 :: u 32 :: u 33 :: u 34 :: u 35 :: u 36 :: u 37 :: u 38 :: u 39 :: u 40 :: u 41 :: u 42 :: u 43 :: u 44 :: u 45 :: u 46 :: u 47 :: u 48 :: u 49 :: u 50 :: u 51 :: u 52 :: u 53 :: u 54 :: u 55 :: u 56 :: u 57 :: u 58 :: u 59 :: u 60 :: u 61 :: u 62 :: u 63 :: u 64 :: u 65 :: u 66 :: u 67 :: u 68 :: u 69 :: u 70 :: u 71 :: u 72 :: u 73 :: u 74 :: u 75 :: u 76 :: u 77 :: u 78 :: u 79 :: u 80 :: u 81 :: u 82 :: u 83 :: u 84 :: u 85 :: u 86 :: u 87 :: u 88 :: u 89 :: u 90 :: u 91 :: u 92 :: Value.pointer (some ⟨gk, 0, none⟩) :: u 94 :: u 95 :: Value.slice bbp (m - E) (c9 - E) :: u 97 :: Value.pointer (some ⟨ks, 0, none⟩) :: u 99 :: Value.slice a n c :: u 101 :: u 102 :: Value.slice (some ⟨gk9, go9, none⟩) E c9 :: u 104 :: u 105 :: u 106 :: u 107 :: u 108 :: u 109 :: u 110 :: u 111 :: u 112 :: u 113 :: u 114 :: u 115 :: u 116 :: u 117 :: u 118 :: u 119 :: u 120 :: u 121 :: u 122 :: u 123 :: u 124 :: u 125 :: u 126 :: u 127 :: u 128 :: u 129 :: u 130 :: u 131 :: u 132 :: u 133 :: u 134 :: u 135 :: u 136 :: u 137 :: u 138 :: u 139 :: []).toArray) u, defers := [] } := by
        subst hAct; exact ex_frame _ rfl
      clear hAct
      obtain ⟨St, hSt⟩ : ∃ St : Nat → Bool → Act → World → Prop, ∀ kk fr a' w', St kk fr a' w' ↔ (∃ x97 x104 x105 x106 x107 x16 : Value, a' = { tmps := (u 0 :: u 1 :: Value.pointer (some ⟨w.heap.size, 0, none⟩) :: Value.pointer (some ⟨w.heap.size + 1, 0, none⟩) :: u 4 :: u 5 :: u 6 :: Value.pointer (some ⟨gk, 0, none⟩) :: Value.pointer (some ⟨ks, 0, none⟩) :: u 9 :: Value.int IntKind.i64 E :: u 11 :: u 12 :: u 13 :: Value.slice (some ⟨gk10, go10, none⟩) m c10 :: u 15 :: x16 :: u 17 :: u 18 :: u 19 :: u 20 :: u 21 :: u 22 :: u 23 :: u 24 :: u 25 :: u 26 :: u 27 :: u 28 :: u 29 :: u 30 :: u 31 :: u 32 :: u 33 :: u 34 :: u 35 :: u 36 :: u 37 :: u 38 :: u 39 :: u 40 :: u 41 :: u 42 :: u 43 :: u 44 :: u 45 :: u 46 :: u 47 :: u 48 :: u 49 :: u 50 :: u 51 :: u 52 :: u 53 :: u 54 :: u 55 :: u 56 :: u 57 :: u 58 :: u 59 :: u 60 :: u 61 :: u 62 :: u 63 :: u 64 :: u 65 :: u 66 :: u 67 :: u 68 :: u 69 :: u 70 :: u 71 :: u 72 :: u 73 :: u 74 :: u 75 :: u 76 :: u 77 :: u 78 :: u 79 :: u 80 :: u 81 :: u 82 :: u 83 :: u 84 :: u 85 :: u 86 :: u 87 :: u 88 :: u 89 :: u 90 :: u 91 :: u 92 :: Value.pointer (some ⟨gk, 0, none⟩) :: u 94 :: u 95 :: Value.slice bbp (m - E) (c9 - E) :: x97 :: Value.pointer (some ⟨ks, 0, none⟩) :: u 99 :: Value.slice a n c :: u 101 :: u 102 :: Value.slice (some ⟨gk9, go9, none⟩) E c9 :: x104 :: x105 :: x106 :: x107 :: u 108 :: u 109 :: u 110 :: u 111 :: u 112 :: u 113 :: u 114 :: u 115 :: u 116 :: u 117 :: u 118 :: u 119 :: u 120 :: u 121 :: u 122 :: u 123 :: u 124 :: u 125 :: u 126 :: u 127 :: u 128 :: u 129 :: u 130 :: u 131 :: u 132 :: u 133 :: u 134 :: u 135 :: u 136 :: u 137 :: u 138 :: u 139 :: []).toArray, defers := [] } ∧ Below w10.drew.heap.size w10.drew w' ∧ (1 ≤ kk → x97 = .agg (A64 (wl Lp))) ∧ (2 ≤ kk → x104 = .agg (A64 (wl Sp))) ∧ (3 ≤ kk → x105 = .agg (A64 (wl Mp))) ∧ (4 ≤ kk → x106 = .agg (A8 PBp)) ∧ (5 ≤ kk → x107 = .agg (A8 Up)) ∧ (fr = true → ∃ g, x16 = .pointer (some ⟨g, 0, none⟩) ∧ w10.heap.size ≤ g ∧ Blk w' g 40 (A8 (zeros 8 16)))) := ⟨_, fun _ _ _ _ => Iff.rfl⟩
      refine permHO_chain (St := St) [_, _, _, _, _] _ 0 ⟨?ys1, ?ys2, ?ys3, ?ys4, ?ys5, trivial⟩ ?yf ?ych ?ynd ?yR _ _ ?y0
      case y0 => exact (hSt _ _ _ _).2 ⟨_, _, _, _, _, _, rfl, Below.refl _ _, fun h => by omega, fun h => by omega, fun h => by omega, fun h => by omega, fun h => by omega, fun h => by cases h⟩
      case ych => exact ⟨by decide, by decide, by decide, by decide, trivial⟩
      case ynd => decide
      case ys1 =>
        intro fr a3 w3 hs
        obtain ⟨x97, x104, x105, x106, x107, x16, rfl, D3, h1, h2, h3, h4, h5, hf⟩ := (hSt _ _ _ _).1 hs
        clear hs
        refine opH_of_wpH ?_
        (with_reducible refine h_call ?_ ?_)
        · exact rfl
        go_simp
        refine entersW_of ?_
        refine (load_any (A.drop E) bbp (m - E) (c9 - E) w3 (Dp.out.drew.below D3)).mono ?_
        rintro e w4 ⟨rfl, d4⟩
        refine ⟨_, rfl, d4, ?_⟩
        try simp only [Act.put, List.setIfInBounds_toArray, List.set_cons_succ, List.set_cons_zero]
        rw [show (long (A.drop E) 0, long (A.drop E) 8) = Lp from HLp.out.symm]
        refine h_nil ((hSt _ _ _ _).2 ⟨_, _, _, _, _, _, rfl, D3.trans (d4.mono D3.size), fun _ => rfl, fun h => by omega, fun h => by omega, fun h => by omega, fun h => by omega, fun e => ?_⟩)
        obtain ⟨g, e1, e2, e3⟩ := hf e
        exact ⟨g, e1, e2, e3.belowAll d4⟩
      case ys2 =>
        intro fr a3 w3 hs
        obtain ⟨x97, x104, x105, x106, x107, x16, rfl, D3, h1, h2, h3, h4, h5, hf⟩ := (hSt _ _ _ _).1 hs
        clear hs
        obtain rfl := h1 (by omega)
        refine opH_of_wpH ?_
        (with_reducible refine h_call ?_ ?_)
        · exact rfl
        go_simp
        refine entersW_of ?_
        refine (asum_any ks (hashA k) t (A.take E) a n c (some ⟨gk9, go9, none⟩) E c9 w3 ((show AdK w10.drew ks (hashA k) from S10.out).below D3) (X10.out.drew.below D3) (Fp.out.drew.below D3) (by omega)).mono ?_
        rintro e w4 ⟨rfl, d4⟩
        refine ⟨_, rfl, d4, ?_⟩
        try simp only [Act.put, List.setIfInBounds_toArray, List.set_cons_succ, List.set_cons_zero]
        rw [← HSp.out]
        refine h_nil ((hSt _ _ _ _).2 ⟨_, _, _, _, _, _, rfl, D3.trans (d4.mono D3.size), fun _ => rfl, fun _ => rfl, fun h => by omega, fun h => by omega, fun h => by omega, fun e => ?_⟩)
        obtain ⟨g, e1, e2, e3⟩ := hf e
        exact ⟨g, e1, e2, e3.belowAll d4⟩
      case ys3 =>
        intro fr a3 w3 hs
        obtain ⟨x97, x104, x105, x106, x107, x16, rfl, D3, h1, h2, h3, h4, h5, hf⟩ := (hSt _ _ _ _).1 hs
        clear hs
        obtain rfl := h1 (by omega)
        obtain rfl := h2 (by omega)
        refine opH_of_wpH ?_
        (with_reducible refine h_call ?_ ?_)
        · exact rfl
        go_simp
        refine entersW_of ?_
        refine (wadd64_any Lp Sp w3).mono ?_
        rintro e w4 ⟨rfl, d4⟩
        refine ⟨_, rfl, d4, ?_⟩
        try simp only [Act.put, List.setIfInBounds_toArray, List.set_cons_succ, List.set_cons_zero]
        rw [ARp.out]
        refine h_nil ((hSt _ _ _ _).2 ⟨_, _, _, _, _, _, rfl, D3.trans (d4.mono D3.size), fun _ => rfl, fun _ => rfl, fun _ => rfl, fun h => by omega, fun h => by omega, fun e => ?_⟩)
        obtain ⟨g, e1, e2, e3⟩ := hf e
        exact ⟨g, e1, e2, e3.belowAll d4⟩
      case ys4 =>
        intro fr a3 w3 hs
        obtain ⟨x97, x104, x105, x106, x107, x16, rfl, D3, h1, h2, h3, h4, h5, hf⟩ := (hSt _ _ _ _).1 hs
        clear hs
        obtain rfl := h1 (by omega)
        obtain rfl := h2 (by omega)
        obtain rfl := h3 (by omega)
        refine opH_of_wpH ?_
        (with_reducible refine h_call ?_ ?_)
        · exact rfl
        go_simp
        refine entersW_of ?_
        refine (wbytes_any Mp w3).mono ?_
        rintro e w4 ⟨rfl, d4⟩
        refine ⟨_, rfl, d4, ?_⟩
        try simp only [Act.put, List.setIfInBounds_toArray, List.set_cons_succ, List.set_cons_zero]
        rw [show le64 Mp.1 ++ le64 Mp.2 = PBp from HPBp.out.symm]
        refine h_nil ((hSt _ _ _ _).2 ⟨_, _, _, _, _, _, rfl, D3.trans (d4.mono D3.size), fun _ => rfl, fun _ => rfl, fun _ => rfl, fun _ => rfl, fun h => by omega, fun e => ?_⟩)
        obtain ⟨g, e1, e2, e3⟩ := hf e
        exact ⟨g, e1, e2, e3.belowAll d4⟩
      case ys5 =>
        intro fr a3 w3 hs
        obtain ⟨x97, x104, x105, x106, x107, x16, rfl, D3, h1, h2, h3, h4, h5, hf⟩ := (hSt _ _ _ _).1 hs
        clear hs
        obtain rfl := h1 (by omega)
        obtain rfl := h2 (by omega)
        obtain rfl := h3 (by omega)
        obtain rfl := h4 (by omega)
        refine opH_of_wpH ?_
        (with_reducible refine h_call ?_ ?_)
        · exact rfl
        go_simp
        refine entersW_of ?_
        refine (decrypt_any gk p2 15 (aesA k) PBp w3 (N10.out.drew.below D3) PBpl (by omega) (by omega)).mono ?_
        rintro e w4 ⟨rfl, d4⟩
        refine ⟨_, rfl, d4, ?_⟩
        try simp only [Act.put, List.setIfInBounds_toArray, List.set_cons_succ, List.set_cons_zero]
        rw [APp.out]
        refine h_nil ((hSt _ _ _ _).2 ⟨_, _, _, _, _, _, rfl, D3.trans (d4.mono D3.size), fun _ => rfl, fun _ => rfl, fun _ => rfl, fun _ => rfl, fun _ => rfl, fun e => ?_⟩)
        obtain ⟨g, e1, e2, e3⟩ := hf e
        exact ⟨g, e1, e2, e3.belowAll d4⟩
      case yf =>
        intro j hj a3 w3 hs
        obtain ⟨x97, x104, x105, x106, x107, x16, rfl, D3, h1, h2, h3, h4, h5, hf⟩ := (hSt _ _ _ _).1 hs
        clear hs
        refine opH_of_wpH ?_
        obtain ⟨u3, eu3⟩ : ∃ u, w3.alloc (.cells (A8 (zeros 8 16)) 40) = u := ⟨_, rfl⟩
        obtain ⟨bf, du, zu⟩ := new1 _ _ _ _ eu3
        obtain ⟨pf, hpf⟩ : ∃ g, g = w3.heap.size := ⟨_, rfl⟩
        refine h_made (v := .pointer (some ⟨pf, 0, none⟩)) (w' := u3) rfl (by rw [hpf]; go_simp; exact eu3) du ?_
        simp only [Act.put, List.setIfInBounds_toArray, List.set_cons_succ, List.set_cons_zero]
        rw [← hpf] at bf
        exact h_nil ((hSt _ _ _ _).2 ⟨_, _, _, _, _, _, rfl, D3.trans (du.mono D3.size), h1, h2, h3, h4, h5, fun _ => ⟨pf, rfl, by rw [hpf]; exact D3.size, bf⟩⟩)
      case yR =>
        intro a3 w3 hs
        obtain ⟨x97, x104, x105, x106, x107, x16, rfl, D3, h1, h2, h3, h4, h5, hf⟩ := (hSt _ _ _ _).1 hs
        clear hs hSt
        obtain rfl := h1 (by decide)
        obtain rfl := h2 (by decide)
        obtain rfl := h3 (by decide)
        obtain rfl := h4 (by decide)
        obtain rfl := h5 (by decide)
        obtain ⟨gp, rfl, hg, bg⟩ := hf rfl
        refine c_act ?_
        refine z_storeRow bg rfl rfl (by rw [A8_size, A8_size, Upl, zeros_length]) (A8_ones _) (by rw [A8_size, Upl]; exact Tryd.sizeOf40 _) (fun w13 kk4 g4 s4 => ?_)
        have BD := D3.trans (grown_below g4 hg D3.size)
        refine z_nil ⟨hCe _ BD, ?_⟩
        refine c_nil (hK' _ _ ?_)
        have E4 : Below w10.heap.size w10 w13 := ((Below.refl w10.heap.size w10).drew).trans BD
        have P13 := Lib.hid (P10.out.belowAll E4)
        have B13 := Lib.hid (B10.out.trans (E4.mono B10.out.size))
        have T13 := Lib.hid (T10.out.below E4)
        have X13 := Lib.hid (X10.out.below E4)
        have Z13 := Lib.hid (Z10.out.below E4)
        have O13 := Lib.hid (O10.out.belowAll E4)
        have N13 := Lib.hid (N10.out.below E4)
        have S13 := Lib.hid (S10.out.below E4)
        have MC13 := Lib.hid (MC10.out.below E4)
        have Dq := Lib.hid (Dq.out.below E4)
        have Fq := Lib.hid (Fq.out.below E4)
        have I13 := Lib.hid kk4
        clear hK' hC0 hCb hCe BD D3  hf bg g4 s4 E4 kk4 MC10 h1 h2 h3 h4 h5 A10 Q10 Dp Fp i1p i2p ebp P10 B10 T10 X10 Z10 O10 N10 S10
        go_upto_region 14 with fail
        refine wp_region_order [0,0,0,0,2,0,0,5,0,0,0,2,2,2,2,2,3] [0,1,2,3,5,6,7,8,9,10] [(4, 2, _), (11, 2, _), (12, 2, _), (13, 2, _), (14, 2, _), (15, 2, _)] (fun i => if i = 11 then [4] else if i = 12 then [11] else if i = 13 then [12] else if i = 14 then [13] else []) [16] [_, _, _, _, _, _, _, _, _, _] [_] [0,0,0,0,0,0,5,0,0,0] [3] 6 rfl rfl rfl (by kernel_rfl) (by kernel_rfl) (by kernel_rfl) rfl rfl rfl (fun C0 hC0 hCb hCe K' hK' => ?_)
        have Q2 : ∀ w1, C0 w1 → w1.cell? ⟨w.heap.size, 32, none⟩ = some (.slice a n c) := fun w1 hw => by rw [(P13.out.drew.belowAll (hCb w1 hw)).cell]; exact TW.out
        repeat
          first
            | ((with_reducible refine h_pure (v := ?_) (a' := ?_) ?_ (fun _ => ?_) ?_ ?_); rotate_left; rotate_left; (focus (exact rfl)); (focus (go_simp; (try go_bits); exact rfl)); (focus (simp only [Act.put, List.setIfInBounds_toArray, List.set_cons_succ, List.set_cons_zero, Act.eval, Array.getD_eq_getD_getElem?, List.getElem?_toArray, List.getElem?_cons_succ, List.getElem?_cons_zero, Option.getD_some]; exact rfl)))
            | ((with_reducible refine h_obl (v := ?_) (a' := ?_) ?_ (fun _ hcw => ?_) ?_ ?_); rotate_left; rotate_left; (focus (exact rfl)); (focus (have fQ2 := Q2 _ hcw; go_simp; (try go_bits); exact rfl)); (focus (simp only [Act.put, List.setIfInBounds_toArray, List.set_cons_succ, List.set_cons_zero, Act.eval, Array.getD_eq_getD_getElem?, List.getElem?_toArray, List.getElem?_cons_succ, List.getElem?_cons_zero, Option.getD_some]; exact rfl)))
            | ((with_reducible refine h_read (v := ?_) (a' := ?_) ?_ (fun _ hbw => ?_) ?_ ?_); rotate_left; rotate_left; (focus (exact rfl)); (focus (skip; go_simp; (try go_bits); exact rfl)); (focus (simp only [Act.put, List.setIfInBounds_toArray, List.set_cons_succ, List.set_cons_zero, Act.eval, Array.getD_eq_getD_getElem?, List.getElem?_toArray, List.getElem?_cons_succ, List.getElem?_cons_zero, Option.getD_some]; exact rfl)))
        refine h_nil ?_
        clear Q2
        generalize hAct : Act.mk _ _ = act
        obtain ⟨u, rfl⟩ : ∃ u : Nat → Value, act = { tmps := (fun u : Nat → Value => (u 0 :: u 1 :: Value.pointer (some ⟨w.heap.size, 0, none⟩) :: Value.pointer (some ⟨w.heap.size + 1, 0, none⟩) :: u 4 :: u 5 :: u 6 :: Value.pointer (some ⟨gk, 0, none⟩) :: Value.pointer (some ⟨ks, 0, none⟩) :: u 9 :: Value.int IntKind.i64 E :: u 11 :: u 12 :: u 13 :: Value.slice (some ⟨gk10, go10, none⟩) m c10 :: u 15 :: Value.pointer (some ⟨gp, 0, none⟩) :: u 17 :: u 18 :: u 19 :: u 20 :: u 21 :: u 22 :: u 23 :: u 24 :: u 25 :: u 26 :: u 27 :: u 28 :: u 29 :: u 30 :: u 31 :: u 32 :: u 33 :: u 34 :: u 35 :: u 36 :: u 37 :: u 38 :: u 39 :: u 40 :: u 41 :: u 42 :: u 43 :: u 44 :: u 45 :: u 46 :: u 47 :: u 48 :: u 49 :: u 50 :: u 51 :: u 52 :: u 53 :: u 54 :: u 55 :: u 56 :: u 57 :: u 58 :: u 59 :: u 60 :: u 61 :: u 62 :: u 63 :: u 64 :: u 65 :: u 66 :: u 67 :: u 68 :: u 69 :: u 70 :: u 71 :: u 72 :: u 73 :: u 74 :: u 75 :: u 76 :: u 77 :: u 78 :: u 79 :: u 80 :: u 81 :: u 82 :: u 83 :: u 84 :: u 85 :: u 86 :: u 87 :: u 88 :: u 89 :: u 90 :: u 91 :: u 92 :: u 93 :: u 94 :: u 95 :: u 96 :: u 97 :: u 98 :: u 99 :: u 100 :: u 101 :: u 102 :: u 103 :: u 104 :: u 105 :: u 106 :: u 107 :: Value.pointer (some ⟨gk, 0, none⟩) :: u 109 :: u 110 :: Value.slice bbq (m - E) (c10 - E) :: u 112 :: Value.pointer (some ⟨ks, 0, none⟩) :: u 114 :: Value.slice a n c :: u 116 :: u 117 :: Value.slice (some ⟨gk10, go10, none⟩) E c10 :: u 119 :: u 120 :: u 121 :: u 122 :: u 123 :: u 124 :: u 125 :: u 126 :: u 127 :: u 128 :: u 129 :: u 130 :: u 131 :: u 132 :: u 133 :: u 134 :: u 135 :: u 136 :: u 137 :: u 138 :: u 139 :: []).toArray) u, defers := [] } := by
          subst hAct; exact ex_frame _ rfl
        clear hAct
        obtain ⟨St, hSt⟩ : ∃ St : Nat → Bool → Act → World → Prop, ∀ kk fr a' w', St kk fr a' w' ↔ (∃ x112 x119 x120 x121 x122 x17 : Value, a' = { tmps := (u 0 :: u 1 :: Value.pointer (some ⟨w.heap.size, 0, none⟩) :: Value.pointer (some ⟨w.heap.size + 1, 0, none⟩) :: u 4 :: u 5 :: u 6 :: Value.pointer (some ⟨gk, 0, none⟩) :: Value.pointer (some ⟨ks, 0, none⟩) :: u 9 :: Value.int IntKind.i64 E :: u 11 :: u 12 :: u 13 :: Value.slice (some ⟨gk10, go10, none⟩) m c10 :: u 15 :: Value.pointer (some ⟨gp, 0, none⟩) :: x17 :: u 18 :: u 19 :: u 20 :: u 21 :: u 22 :: u 23 :: u 24 :: u 25 :: u 26 :: u 27 :: u 28 :: u 29 :: u 30 :: u 31 :: u 32 :: u 33 :: u 34 :: u 35 :: u 36 :: u 37 :: u 38 :: u 39 :: u 40 :: u 41 :: u 42 :: u 43 :: u 44 :: u 45 :: u 46 :: u 47 :: u 48 :: u 49 :: u 50 :: u 51 :: u 52 :: u 53 :: u 54 :: u 55 :: u 56 :: u 57 :: u 58 :: u 59 :: u 60 :: u 61 :: u 62 :: u 63 :: u 64 :: u 65 :: u 66 :: u 67 :: u 68 :: u 69 :: u 70 :: u 71 :: u 72 :: u 73 :: u 74 :: u 75 :: u 76 :: u 77 :: u 78 :: u 79 :: u 80 :: u 81 :: u 82 :: u 83 :: u 84 :: u 85 :: u 86 :: u 87 :: u 88 :: u 89 :: u 90 :: u 91 :: u 92 :: u 93 :: u 94 :: u 95 :: u 96 :: u 97 :: u 98 :: u 99 :: u 100 :: u 101 :: u 102 :: u 103 :: u 104 :: u 105 :: u 106 :: u 107 :: Value.pointer (some ⟨gk, 0, none⟩) :: u 109 :: u 110 :: Value.slice bbq (m - E) (c10 - E) :: x112 :: Value.pointer (some ⟨ks, 0, none⟩) :: u 114 :: Value.slice a n c :: u 116 :: u 117 :: Value.slice (some ⟨gk10, go10, none⟩) E c10 :: x119 :: x120 :: x121 :: x122 :: u 123 :: u 124 :: u 125 :: u 126 :: u 127 :: u 128 :: u 129 :: u 130 :: u 131 :: u 132 :: u 133 :: u 134 :: u 135 :: u 136 :: u 137 :: u 138 :: u 139 :: []).toArray, defers := [] } ∧ Below w13.drew.heap.size w13.drew w' ∧ (1 ≤ kk → x112 = .agg (A64 (wl Lq))) ∧ (2 ≤ kk → x119 = .agg (A64 (wl Sq))) ∧ (3 ≤ kk → x120 = .agg (A64 (wl Mq))) ∧ (4 ≤ kk → x121 = .agg (A8 PBq)) ∧ (5 ≤ kk → x122 = .agg (A8 Uq)) ∧ (fr = true → ∃ g, x17 = .pointer (some ⟨g, 0, none⟩) ∧ w13.heap.size ≤ g ∧ Blk w' g 40 (A8 (zeros 8 16)))) := ⟨_, fun _ _ _ _ => Iff.rfl⟩
        refine permHO_chain (St := St) [_, _, _, _, _] _ 0 ⟨?zs1, ?zs2, ?zs3, ?zs4, ?zs5, trivial⟩ ?zf ?zch ?znd ?zR _ _ ?z0
        case z0 => exact (hSt _ _ _ _).2 ⟨_, _, _, _, _, _, rfl, Below.refl _ _, fun h => by omega, fun h => by omega, fun h => by omega, fun h => by omega, fun h => by omega, fun h => by cases h⟩
        case zch => exact ⟨by decide, by decide, by decide, by decide, trivial⟩
        case znd => decide
        case zs1 =>
          intro fr a3 w3 hs
          obtain ⟨x112, x119, x120, x121, x122, x17, rfl, D3, h1, h2, h3, h4, h5, hf⟩ := (hSt _ _ _ _).1 hs
          clear hs
          refine opH_of_wpH ?_
          (with_reducible refine h_call ?_ ?_)
          · exact rfl
          go_simp
          refine entersW_of ?_
          refine (load_any (Q.drop E) bbq (m - E) (c10 - E) w3 (Dq.out.drew.below D3)).mono ?_
          rintro e w4 ⟨rfl, d4⟩
          refine ⟨_, rfl, d4, ?_⟩
          try simp only [Act.put, List.setIfInBounds_toArray, List.set_cons_succ, List.set_cons_zero]
          rw [show (long (Q.drop E) 0, long (Q.drop E) 8) = Lq from HLq.out.symm]
          refine h_nil ((hSt _ _ _ _).2 ⟨_, _, _, _, _, _, rfl, D3.trans (d4.mono D3.size), fun _ => rfl, fun h => by omega, fun h => by omega, fun h => by omega, fun h => by omega, fun e => ?_⟩)
          obtain ⟨g, e1, e2, e3⟩ := hf e
          exact ⟨g, e1, e2, e3.belowAll d4⟩
        case zs2 =>
          intro fr a3 w3 hs
          obtain ⟨x112, x119, x120, x121, x122, x17, rfl, D3, h1, h2, h3, h4, h5, hf⟩ := (hSt _ _ _ _).1 hs
          clear hs
          obtain rfl := h1 (by omega)
          refine opH_of_wpH ?_
          (with_reducible refine h_call ?_ ?_)
          · exact rfl
          go_simp
          refine entersW_of ?_
          refine (asum_any ks (hashA k) t (Q.take E) a n c (some ⟨gk10, go10, none⟩) E c10 w3 ((show AdK w13.drew ks (hashA k) from S13.out).below D3) (X13.out.drew.below D3) (Fq.out.drew.below D3) (by omega)).mono ?_
          rintro e w4 ⟨rfl, d4⟩
          refine ⟨_, rfl, d4, ?_⟩
          try simp only [Act.put, List.setIfInBounds_toArray, List.set_cons_succ, List.set_cons_zero]
          rw [← HSq.out]
          refine h_nil ((hSt _ _ _ _).2 ⟨_, _, _, _, _, _, rfl, D3.trans (d4.mono D3.size), fun _ => rfl, fun _ => rfl, fun h => by omega, fun h => by omega, fun h => by omega, fun e => ?_⟩)
          obtain ⟨g, e1, e2, e3⟩ := hf e
          exact ⟨g, e1, e2, e3.belowAll d4⟩
        case zs3 =>
          intro fr a3 w3 hs
          obtain ⟨x112, x119, x120, x121, x122, x17, rfl, D3, h1, h2, h3, h4, h5, hf⟩ := (hSt _ _ _ _).1 hs
          clear hs
          obtain rfl := h1 (by omega)
          obtain rfl := h2 (by omega)
          refine opH_of_wpH ?_
          (with_reducible refine h_call ?_ ?_)
          · exact rfl
          go_simp
          refine entersW_of ?_
          refine (wadd64_any Lq Sq w3).mono ?_
          rintro e w4 ⟨rfl, d4⟩
          refine ⟨_, rfl, d4, ?_⟩
          try simp only [Act.put, List.setIfInBounds_toArray, List.set_cons_succ, List.set_cons_zero]
          rw [ARq.out]
          refine h_nil ((hSt _ _ _ _).2 ⟨_, _, _, _, _, _, rfl, D3.trans (d4.mono D3.size), fun _ => rfl, fun _ => rfl, fun _ => rfl, fun h => by omega, fun h => by omega, fun e => ?_⟩)
          obtain ⟨g, e1, e2, e3⟩ := hf e
          exact ⟨g, e1, e2, e3.belowAll d4⟩
        case zs4 =>
          intro fr a3 w3 hs
          obtain ⟨x112, x119, x120, x121, x122, x17, rfl, D3, h1, h2, h3, h4, h5, hf⟩ := (hSt _ _ _ _).1 hs
          clear hs
          obtain rfl := h1 (by omega)
          obtain rfl := h2 (by omega)
          obtain rfl := h3 (by omega)
          refine opH_of_wpH ?_
          (with_reducible refine h_call ?_ ?_)
          · exact rfl
          go_simp
          refine entersW_of ?_
          refine (wbytes_any Mq w3).mono ?_
          rintro e w4 ⟨rfl, d4⟩
          refine ⟨_, rfl, d4, ?_⟩
          try simp only [Act.put, List.setIfInBounds_toArray, List.set_cons_succ, List.set_cons_zero]
          rw [show le64 Mq.1 ++ le64 Mq.2 = PBq from HPBq.out.symm]
          refine h_nil ((hSt _ _ _ _).2 ⟨_, _, _, _, _, _, rfl, D3.trans (d4.mono D3.size), fun _ => rfl, fun _ => rfl, fun _ => rfl, fun _ => rfl, fun h => by omega, fun e => ?_⟩)
          obtain ⟨g, e1, e2, e3⟩ := hf e
          exact ⟨g, e1, e2, e3.belowAll d4⟩
        case zs5 =>
          intro fr a3 w3 hs
          obtain ⟨x112, x119, x120, x121, x122, x17, rfl, D3, h1, h2, h3, h4, h5, hf⟩ := (hSt _ _ _ _).1 hs
          clear hs
          obtain rfl := h1 (by omega)
          obtain rfl := h2 (by omega)
          obtain rfl := h3 (by omega)
          obtain rfl := h4 (by omega)
          refine opH_of_wpH ?_
          (with_reducible refine h_call ?_ ?_)
          · exact rfl
          go_simp
          refine entersW_of ?_
          refine (decrypt_any gk p2 15 (aesA k) PBq w3 (N13.out.drew.below D3) PBql (by omega) (by omega)).mono ?_
          rintro e w4 ⟨rfl, d4⟩
          refine ⟨_, rfl, d4, ?_⟩
          try simp only [Act.put, List.setIfInBounds_toArray, List.set_cons_succ, List.set_cons_zero]
          rw [APq.out]
          refine h_nil ((hSt _ _ _ _).2 ⟨_, _, _, _, _, _, rfl, D3.trans (d4.mono D3.size), fun _ => rfl, fun _ => rfl, fun _ => rfl, fun _ => rfl, fun _ => rfl, fun e => ?_⟩)
          obtain ⟨g, e1, e2, e3⟩ := hf e
          exact ⟨g, e1, e2, e3.belowAll d4⟩
        case zf =>
          intro j hj a3 w3 hs
          obtain ⟨x112, x119, x120, x121, x122, x17, rfl, D3, h1, h2, h3, h4, h5, hf⟩ := (hSt _ _ _ _).1 hs
          clear hs
          refine opH_of_wpH ?_
          obtain ⟨u3, eu3⟩ : ∃ u, w3.alloc (.cells (A8 (zeros 8 16)) 40) = u := ⟨_, rfl⟩
          obtain ⟨bf, du, zu⟩ := new1 _ _ _ _ eu3
          obtain ⟨pf, hpf⟩ : ∃ g, g = w3.heap.size := ⟨_, rfl⟩
          refine h_made (v := .pointer (some ⟨pf, 0, none⟩)) (w' := u3) rfl (by rw [hpf]; go_simp; exact eu3) du ?_
          simp only [Act.put, List.setIfInBounds_toArray, List.set_cons_succ, List.set_cons_zero]
          rw [← hpf] at bf
          exact h_nil ((hSt _ _ _ _).2 ⟨_, _, _, _, _, _, rfl, D3.trans (du.mono D3.size), h1, h2, h3, h4, h5, fun _ => ⟨pf, rfl, by rw [hpf]; exact D3.size, bf⟩⟩)
        case zR =>
          intro a3 w3 hs
          obtain ⟨x112, x119, x120, x121, x122, x17, rfl, D3, h1, h2, h3, h4, h5, hf⟩ := (hSt _ _ _ _).1 hs
          clear hs hSt
          obtain rfl := h1 (by decide)
          obtain rfl := h2 (by decide)
          obtain rfl := h3 (by decide)
          obtain rfl := h4 (by decide)
          obtain rfl := h5 (by decide)
          obtain ⟨gq, rfl, hg, bg⟩ := hf rfl
          refine c_act ?_
          refine z_storeRow bg rfl rfl (by rw [A8_size, A8_size, Uql, zeros_length]) (A8_ones _) (by rw [A8_size, Uql]; exact Tryd.sizeOf40 _) (fun w14 kk4 g4 s4 => ?_)
          have BD := D3.trans (grown_below g4 hg D3.size)
          refine z_nil ⟨hCe _ BD, ?_⟩
          refine c_nil (hK' _ _ ?_)
          have E4 : Below w13.heap.size w13 w14 := ((Below.refl w13.heap.size w13).drew).trans BD
          have P14 := Lib.hid (P13.out.belowAll E4)
          have B14 := Lib.hid (B13.out.trans (E4.mono B13.out.size))
          have T14 := Lib.hid (T13.out.below E4)
          have X14 := Lib.hid (X13.out.below E4)
          have Z14 := Lib.hid (Z13.out.below E4)
          have O14 := Lib.hid (O13.out.belowAll E4)
          have N14 := Lib.hid (N13.out.below E4)
          have S14 := Lib.hid (S13.out.below E4)
          have MC14 := Lib.hid (MC13.out.below E4)
          have I14 := Lib.hid (I13.out.belowAll E4)
          have J14 := Lib.hid kk4
          clear hK' hC0 hCb hCe BD D3  hf bg g4 s4 E4 kk4 MC13 I13 h1 h2 h3 h4 h5 Dq Fq i1q i2q ebq P13 B13 T13 X13 Z13 O13 N13 S13
          have rp := (I14.out.drew).rd8 16 (by omega) (by rw [Upl]; unfold maxLen; omega)
          rw [Upl, List.take_of_length_le (by omega)] at rp
          have RP := Lib.hid rp
          have rq := (J14.out.drew).rd8 16 (by omega) (by rw [Uql]; unfold maxLen; omega)
          rw [Uql, List.take_of_length_le (by omega)] at rq
          have RQ := Lib.hid rq
          have ro := (O14.out.drew).rd8 16 (by omega) (by rw [hot]; unfold maxLen; omega)
          rw [hot, List.take_of_length_le (by omega)] at ro
          have RO_ := Lib.hid ro
          clear rp rq ro
          have wp1 : wideN Up = Wp := by rw [HUp.out, wideN_bytesW]
          have wq1 : wideN Uq = Wq := by rw [HUq.out, wideN_bytesW]
          have WP := Lib.hid wp1
          have WQ := Lib.hid wq1
          clear wp1 wq1
          have qs := eqW_self DI
          go_upto_region 15 with fail
          refine wp_region_tail [0,2,0,2,2,0,5,0,0,2,0,2,2,0,0,2,0,0] (by kernel_rfl) (by kernel_rfl) (fun C0 hC0 hCb K' hK' => ?_)
          have Q2 : ∀ w1, C0 w1 → w1.cell? ⟨w.heap.size, 33, none⟩ = some (.slice (some ⟨bk, bo, none⟩) m d) := fun w1 hw => by rw [(P14.out.drew.belowAll (hCb w1 hw)).cell]; exact MS.out
          repeat
            first
              | ((with_reducible refine h_pure (v := ?_) (a' := ?_) ?_ (fun _ => ?_) ?_ ?_); rotate_left; rotate_left; (focus (exact rfl)); (focus (go_simp; (try go_bits); exact rfl)); (focus (simp only [Act.put, List.setIfInBounds_toArray, List.set_cons_succ, List.set_cons_zero, Act.eval, Array.getD_eq_getD_getElem?, List.getElem?_toArray, List.getElem?_cons_succ, List.getElem?_cons_zero, Option.getD_some]; exact rfl)))
              | ((with_reducible refine h_obl (v := ?_) (a' := ?_) ?_ (fun _ hcw => ?_) ?_ ?_); rotate_left; rotate_left; (focus (exact rfl)); (focus (have f2 := Q2 _ hcw; go_simp; (try go_bits); exact rfl)); (focus (simp only [Act.put, List.setIfInBounds_toArray, List.set_cons_succ, List.set_cons_zero, Act.eval, Array.getD_eq_getD_getElem?, List.getElem?_toArray, List.getElem?_cons_succ, List.getElem?_cons_zero, Option.getD_some]; exact rfl)))
              | ((with_reducible refine h_read (v := ?_) (a' := ?_) ?_ (fun _ hbw => ?_) ?_ ?_); rotate_left; rotate_left; (focus (exact rfl)); (focus (skip; go_simp; (try go_bits); exact rfl)); (focus (simp only [Act.put, List.setIfInBounds_toArray, List.set_cons_succ, List.set_cons_zero, Act.eval, Array.getD_eq_getD_getElem?, List.getElem?_toArray, List.getElem?_cons_succ, List.getElem?_cons_zero, Option.getD_some]; exact rfl)))
          (with_reducible refine h_call ?_ ?_)
          · exact rfl
          go_simp
          refine entersW_of ?_
          refine (load_any Up (some ⟨gp, 0, none⟩) 16 16 w14.drew RP.out).mono ?_
          rintro e w15 ⟨rfl, d15⟩
          refine ⟨_, rfl, d15, ?_⟩
          try simp only [Act.put, List.setIfInBounds_toArray, List.set_cons_succ, List.set_cons_zero]
          rw [show (long Up 0, long Up 8) = Wp from WP.out]
          repeat
            first
              | ((with_reducible refine h_pure (v := ?_) (a' := ?_) ?_ (fun _ => ?_) ?_ ?_); rotate_left; rotate_left; (focus (exact rfl)); (focus (go_simp; (try go_bits); exact rfl)); (focus (simp only [Act.put, List.setIfInBounds_toArray, List.set_cons_succ, List.set_cons_zero, Act.eval, Array.getD_eq_getD_getElem?, List.getElem?_toArray, List.getElem?_cons_succ, List.getElem?_cons_zero, Option.getD_some]; exact rfl)))
              | ((with_reducible refine h_obl (v := ?_) (a' := ?_) ?_ (fun _ hcw => ?_) ?_ ?_); rotate_left; rotate_left; (focus (exact rfl)); (focus (have f2 := Q2 _ hcw; go_simp; (try go_bits); exact rfl)); (focus (simp only [Act.put, List.setIfInBounds_toArray, List.set_cons_succ, List.set_cons_zero, Act.eval, Array.getD_eq_getD_getElem?, List.getElem?_toArray, List.getElem?_cons_succ, List.getElem?_cons_zero, Option.getD_some]; exact rfl)))
              | ((with_reducible refine h_read (v := ?_) (a' := ?_) ?_ (fun _ hbw => ?_) ?_ ?_); rotate_left; rotate_left; (focus (exact rfl)); (focus (skip; go_simp; (try go_bits); exact rfl)); (focus (simp only [Act.put, List.setIfInBounds_toArray, List.set_cons_succ, List.set_cons_zero, Act.eval, Array.getD_eq_getD_getElem?, List.getElem?_toArray, List.getElem?_cons_succ, List.getElem?_cons_zero, Option.getD_some]; exact rfl)))
          (with_reducible refine h_call ?_ ?_)
          · exact rfl
          go_simp
          refine entersW_of ?_
          refine (load_any Uq (some ⟨gq, 0, none⟩) 16 16 w15 (RQ.out.below d15)).mono ?_
          rintro e w16 ⟨rfl, d16⟩
          refine ⟨_, rfl, d16, ?_⟩
          try simp only [Act.put, List.setIfInBounds_toArray, List.set_cons_succ, List.set_cons_zero]
          rw [show (long Uq 0, long Uq 8) = Wq from WQ.out]
          have e16 := d15.trans (d16.mono d15.size)
          (with_reducible refine h_call ?_ ?_)
          · exact rfl
          go_simp
          refine entersW_of ?_
          refine (wsub64_any Wp Wq w16).mono ?_
          rintro e w17 ⟨rfl, d17⟩
          refine ⟨_, rfl, d17, ?_⟩
          try simp only [Act.put, List.setIfInBounds_toArray, List.set_cons_succ, List.set_cons_zero]
          rw [HDD.out]
          have e17 := e16.trans (d17.mono e16.size)
          repeat
            first
              | ((with_reducible refine h_pure (v := ?_) (a' := ?_) ?_ (fun _ => ?_) ?_ ?_); rotate_left; rotate_left; (focus (exact rfl)); (focus (go_simp; (try go_bits); exact rfl)); (focus (simp only [Act.put, List.setIfInBounds_toArray, List.set_cons_succ, List.set_cons_zero, Act.eval, Array.getD_eq_getD_getElem?, List.getElem?_toArray, List.getElem?_cons_succ, List.getElem?_cons_zero, Option.getD_some]; exact rfl)))
              | ((with_reducible refine h_obl (v := ?_) (a' := ?_) ?_ (fun _ hcw => ?_) ?_ ?_); rotate_left; rotate_left; (focus (exact rfl)); (focus (have f2 := Q2 _ hcw; go_simp; (try go_bits); exact rfl)); (focus (simp only [Act.put, List.setIfInBounds_toArray, List.set_cons_succ, List.set_cons_zero, Act.eval, Array.getD_eq_getD_getElem?, List.getElem?_toArray, List.getElem?_cons_succ, List.getElem?_cons_zero, Option.getD_some]; exact rfl)))
              | ((with_reducible refine h_read (v := ?_) (a' := ?_) ?_ (fun _ hbw => ?_) ?_ ?_); rotate_left; rotate_left; (focus (exact rfl)); (focus (skip; go_simp; (try go_bits); exact rfl)); (focus (simp only [Act.put, List.setIfInBounds_toArray, List.set_cons_succ, List.set_cons_zero, Act.eval, Array.getD_eq_getD_getElem?, List.getElem?_toArray, List.getElem?_cons_succ, List.getElem?_cons_zero, Option.getD_some]; exact rfl)))
          (with_reducible refine h_call ?_ ?_)
          · exact rfl
          go_simp
          refine entersW_of ?_
          refine (load_any RR bA (m - E) (d - E) w17 (MC14.out.drew.below e17)).mono ?_
          rintro e w18 ⟨rfl, d18⟩
          refine ⟨_, rfl, d18, ?_⟩
          try simp only [Act.put, List.setIfInBounds_toArray, List.set_cons_succ, List.set_cons_zero]
          rw [show (long RR 0, long RR 8) = R from HR.out.symm]
          have e18 := e17.trans (d18.mono e17.size)
          repeat
            first
              | ((with_reducible refine h_pure (v := ?_) (a' := ?_) ?_ (fun _ => ?_) ?_ ?_); rotate_left; rotate_left; (focus (exact rfl)); (focus (go_simp; (try go_bits); exact rfl)); (focus (simp only [Act.put, List.setIfInBounds_toArray, List.set_cons_succ, List.set_cons_zero, Act.eval, Array.getD_eq_getD_getElem?, List.getElem?_toArray, List.getElem?_cons_succ, List.getElem?_cons_zero, Option.getD_some]; exact rfl)))
              | ((with_reducible refine h_obl (v := ?_) (a' := ?_) ?_ (fun _ hcw => ?_) ?_ ?_); rotate_left; rotate_left; (focus (exact rfl)); (focus (skip; go_simp; (try go_bits); exact rfl)); (focus (simp only [Act.put, List.setIfInBounds_toArray, List.set_cons_succ, List.set_cons_zero, Act.eval, Array.getD_eq_getD_getElem?, List.getElem?_toArray, List.getElem?_cons_succ, List.getElem?_cons_zero, Option.getD_some]; exact rfl)))
              | ((with_reducible refine h_read (v := ?_) (a' := ?_) ?_ (fun _ hbw => ?_) ?_ ?_); rotate_left; rotate_left; (focus (exact rfl)); (focus (skip; go_simp; (try go_bits); exact rfl)); (focus (simp only [Act.put, List.setIfInBounds_toArray, List.set_cons_succ, List.set_cons_zero, Act.eval, Array.getD_eq_getD_getElem?, List.getElem?_toArray, List.getElem?_cons_succ, List.getElem?_cons_zero, Option.getD_some]; exact rfl)))
          (with_reducible refine h_call ?_ ?_)
          · exact rfl
          go_simp
          refine entersW_of ?_
          refine (load_any ot (some ⟨w.heap.size + 1, 0, none⟩) 16 16 w18 (RO_.out.below e18)).mono ?_
          rintro e w19 ⟨rfl, d19⟩
          refine ⟨_, rfl, d19, ?_⟩
          try simp only [Act.put, List.setIfInBounds_toArray, List.set_cons_succ, List.set_cons_zero]
          rw [show (long ot 0, long ot 8) = RO from HRO.out.symm]
          have e19 := e18.trans (d19.mono e18.size)
          (with_reducible refine h_call ?_ ?_)
          · exact rfl
          go_simp
          refine entersW_of ?_
          refine (wsub64_any R RO w19).mono ?_
          rintro e w20 ⟨rfl, d20⟩
          refine ⟨_, rfl, d20, ?_⟩
          try simp only [Act.put, List.setIfInBounds_toArray, List.set_cons_succ, List.set_cons_zero]
          rw [← HDI.out]
          have e20 := e19.trans (d20.mono e19.size)
          repeat
            first
              | ((with_reducible refine h_pure (v := ?_) (a' := ?_) ?_ (fun _ => ?_) ?_ ?_); rotate_left; rotate_left; (focus (exact rfl)); (focus (go_simp; (try go_bits); exact rfl)); (focus (simp only [Act.put, List.setIfInBounds_toArray, List.set_cons_succ, List.set_cons_zero, Act.eval, Array.getD_eq_getD_getElem?, List.getElem?_toArray, List.getElem?_cons_succ, List.getElem?_cons_zero, Option.getD_some]; exact rfl)))
              | ((with_reducible refine h_obl (v := ?_) (a' := ?_) ?_ (fun _ hcw => ?_) ?_ ?_); rotate_left; rotate_left; (focus (exact rfl)); (focus (skip; go_simp; (try go_bits); exact rfl)); (focus (simp only [Act.put, List.setIfInBounds_toArray, List.set_cons_succ, List.set_cons_zero, Act.eval, Array.getD_eq_getD_getElem?, List.getElem?_toArray, List.getElem?_cons_succ, List.getElem?_cons_zero, Option.getD_some]; exact rfl)))
              | ((with_reducible refine h_read (v := ?_) (a' := ?_) ?_ (fun _ hbw => ?_) ?_ ?_); rotate_left; rotate_left; (focus (exact rfl)); (focus (skip; go_simp; (try go_bits); exact rfl)); (focus (simp only [Act.put, List.setIfInBounds_toArray, List.set_cons_succ, List.set_cons_zero, Act.eval, Array.getD_eq_getD_getElem?, List.getElem?_toArray, List.getElem?_cons_succ, List.getElem?_cons_zero, Option.getD_some]; exact rfl)))
          (with_reducible refine h_call ?_ ?_)
          · exact rfl
          go_simp
          refine entersW_of ?_
          refine (awake17_any w20 (T14.out.below (((Below.refl w14.heap.size w14).drew).trans e20))).mono ?_
          rintro e w21 ⟨rfl, d21⟩
          refine ⟨_, rfl, d21, ?_⟩
          try simp only [Act.put, List.setIfInBounds_toArray, List.set_cons_succ, List.set_cons_zero]
          repeat
            first
              | ((with_reducible refine h_pure (v := ?_) (a' := ?_) ?_ (fun _ => ?_) ?_ ?_); rotate_left; rotate_left; (focus (exact rfl)); (focus (go_simp; (try go_bits); exact rfl)); (focus (simp only [Act.put, List.setIfInBounds_toArray, List.set_cons_succ, List.set_cons_zero, Act.eval, Array.getD_eq_getD_getElem?, List.getElem?_toArray, List.getElem?_cons_succ, List.getElem?_cons_zero, Option.getD_some]; exact rfl)))
              | ((with_reducible refine h_obl (v := ?_) (a' := ?_) ?_ (fun _ hcw => ?_) ?_ ?_); rotate_left; rotate_left; (focus (exact rfl)); (focus (skip; go_simp; (try go_bits); exact rfl)); (focus (simp only [Act.put, List.setIfInBounds_toArray, List.set_cons_succ, List.set_cons_zero, Act.eval, Array.getD_eq_getD_getElem?, List.getElem?_toArray, List.getElem?_cons_succ, List.getElem?_cons_zero, Option.getD_some]; exact rfl)))
              | ((with_reducible refine h_read (v := ?_) (a' := ?_) ?_ (fun _ hbw => ?_) ?_ ?_); rotate_left; rotate_left; (focus (exact rfl)); (focus (skip; go_simp; (try go_bits); exact rfl)); (focus (simp only [Act.put, List.setIfInBounds_toArray, List.set_cons_succ, List.set_cons_zero, Act.eval, Array.getD_eq_getD_getElem?, List.getElem?_toArray, List.getElem?_cons_succ, List.getElem?_cons_zero, Option.getD_some]; exact rfl)))
          refine h_tail [] rfl (by simp) (z_nil (hK' _ _ ?_))
          have e21 := e20.trans (d21.mono e20.size)
          have B21 := Lib.hid (B14.out.drew.trans (e21.mono B14.out.size))
          clear Q2 hC0 hCb hK' d15 d16 d17 d18 d19 d20 d21 e16 e17 e18 e19 e20 e21
          go_wp2
          go_ret
          exact ⟨rfl, B21.out⟩
  · rw [decide_eq_false hs] at sh
    have SH := Lib.hid sh
    clear sh hs
    go_enter Tryd.func10, Tryd.ntmps10
    go_wp2_with fail
    refine SH.out.mono ?_
    rintro e w1 ⟨rfl, d1⟩
    go_wp2
    go_ret
    exact ⟨rfl, B0.out.trans (d1.mono B0.out.size)⟩
end Go.Proofs.YtfdkmjegcghieaaDoor
