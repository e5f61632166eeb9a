/- AdiantumSteps: the walk -/
import Derived.Test.YtfdkmjegcghieaaDoorHl
import Derived.Test.YtfdkmjegcghieaaDoorEq
import Derived.Test.YtfdkmjegcghieaaDoorGs
import Derived.Test.YtfdkmjegcghieaaDoorNonce
namespace Go.Proofs.YtfdkmjegcghieaaDoor
open Go.RowKit
set_option linter.unusedSimpArgs false in
set_option maxRecDepth 100000 in
set_option maxHeartbeats 1600000 in
theorem AdiantumSteps_walk (T : Array Value) (k : List (BitVec 8)) (a : Option Addr) (n c : Nat) (t : List (BitVec 8)) (b : Option Addr) (m d : Nat) (x : List (BitVec 8)) (w : World) (h : AText T k a n c b m d) (ht : Rd8 w a n c t) (hx : Rd8 w b m d x) (hT : Turning w) :
    Calls Tryd.prog 9 #[.agg T] w fun e w' => e = .returned (.bool true) ∧ Below w.heap.size w w' := by
  obtain ⟨W, hW⟩ : ∃ W, (w.alloc (.cells T 53)) = W := ⟨_, rfl⟩
  obtain ⟨b0, hb, hz⟩ := new1 _ _ _ _ hW
  have r0 := b0.row
  have P0 := Lib.hid b0
  have B0 := Lib.hid hb
  have T0 := Lib.hid (hT.below hb)
  have X0 := Lib.hid (ht.below hb)
  have M0 := Lib.hid (hx.below hb)
  have s0 := h.size
  have x0 : T.extract 0 34 = T := by rw [← s0]; simp
  have HH := Lib.hid h
  have TW := Lib.hid h.tweak
  have MS := Lib.hid h.msg
  have hxl := hx.1
  have sh := short17_any W h
  clear hb hz hT ht hx h b0
  by_cases hs : n ≤ 100 ∧ m ≤ 300
  · rw [decide_eq_true hs] at sh
    have SH := Lib.hid sh
    obtain ⟨hn, hm⟩ := hs
    clear sh
    go_enter Tryd.func9, Tryd.ntmps9
    go_wp2_with fail
    refine SH.out.mono ?_
    rintro e w1 ⟨rfl, d1⟩
    have P1 := Lib.hid (P0.out.belowAll d1)
    have B1 := Lib.hid (B0.out.trans (d1.mono B0.out.size))
    have T1 := Lib.hid (T0.out.below d1)
    have X1 := Lib.hid (X0.out.below d1)
    have M1 := Lib.hid (M0.out.below d1)
    have c2 := P1.out.cell 33
    rw [MS.out] at c2
    have r1 := P1.out.row
    clear d1 r0 hW SH P0 B0 T0 X0 M0
    by_cases hm16 : m < 16
    · have f1 : (m : Int) < 16 := by omega
      go_wp2
      go_ret
      exact ⟨rfl, B1.out⟩
    · have f1 : ¬ (m : Int) < 16 := by omega
      go_wp2_with fail
      refine (cipher17_any w1 HH.out T1.out).mono ?_
      rintro e w2 ⟨q, p, rfl, hk2, d2⟩
      have hkl := HH.out.lk
      have K2 := Lib.hid hk2
      have P2 := Lib.hid (P1.out.belowAll d2)
      have B2 := Lib.hid (B1.out.trans (d2.mono B1.out.size))
      have T2 := Lib.hid (T1.out.below d2)
      have X2 := Lib.hid (X1.out.below d2)
      have M2 := Lib.hid (M1.out.below d2)
      clear hk2 c2 r1 d2 P1 B1 T1 X1 M1
      have r2 := P2.out.row
      have ek := HH.out.key
      go_wp2_with fail
      refine (own17_any w2 HH.out T2.out).mono ?_
      rintro e wA ⟨gk, ks, p2, rfl, hk3, ha3, d3⟩
      have NA := Lib.hid hk3
      have SA := Lib.hid ha3
      have KA := Lib.hid (K2.out.below d3)
      have PA := Lib.hid (P2.out.belowAll d3)
      have BA := Lib.hid (B2.out.trans (d3.mono B2.out.size))
      have TA := Lib.hid (T2.out.below d3)
      have XA := Lib.hid (X2.out.below d3)
      have ZA := Lib.hid (M2.out.below d3)
      clear hk3 ha3 d3 r2 HH K2 P2 B2 T2 X2 M2
      obtain ⟨E, hE⟩ : ∃ E, E = m - 16 := ⟨_, rfl⟩
      have e1 : (m : Int) - 16 = (E : Int) := by omega
      have e2 : IntKind.i64.wrap (E : Int) = (E : Int) := by rw [IntKind.wrap_i64]; omega
      have hEm : E + 16 = m := by omega
      have HE := Lib.hid hE
      clear hE
      have e3 : (0 : Int) ≤ (E : Int) := by omega
      have e4 : (E : Int) ≤ (m : Int) := by omega
      have e6 : E ≤ 300 := by omega
      obtain ⟨B, eB⟩ : ∃ z, z = x.take E := ⟨_, rfl⟩
      have Bl : B.length = E := by rw [eB]; rw [List.length_take]; omega
      have HB := Lib.hid eB
      clear eB
      obtain ⟨RR, eRR⟩ : ∃ z, z = x.drop E := ⟨_, rfl⟩
      have RRl : RR.length = 16 := by rw [eRR]; rw [List.length_drop]; omega
      have HRR := Lib.hid eRR
      clear eRR
      obtain ⟨R, eR⟩ : ∃ z, z = wideN RR := ⟨_, rfl⟩
      have HR := Lib.hid eR
      clear eR
      obtain ⟨SB, eSB⟩ : ∃ z, z = sumN (hashA k) t B := ⟨_, rfl⟩
      have HSB := Lib.hid eSB
      clear eSB
      obtain ⟨PL, ePL⟩ : ∃ z, z = addW2 R SB := ⟨_, rfl⟩
      have HPL := Lib.hid ePL
      clear ePL
      obtain ⟨PB, ePB⟩ : ∃ z, z = bytesW PL := ⟨_, rfl⟩
      have PBl : PB.length = 16 := by rw [ePB]; exact bytesW_length _
      have HPB := Lib.hid ePB
      clear ePB
      obtain ⟨MD, eMD⟩ : ∃ z, z = encS (aesA k) 15 PB := ⟨_, rfl⟩
      have MDl : MD.length = 16 := by rw [eMD]; exact encS_length _ _ _
      have HMD := Lib.hid eMD
      clear eMD
      obtain ⟨MW, eMW⟩ : ∃ z, z = wideN MD := ⟨_, rfl⟩
      have HMW := Lib.hid eMW
      clear eMW
      obtain ⟨OUT, eOUT⟩ : ∃ z, z = cryptOf k (nonceW MW) 12 B := ⟨_, rfl⟩
      have OUTl : OUT.length = E := by rw [eOUT]; rw [cryA_length]; exact Bl
      have HOUT := Lib.hid eOUT
      clear eOUT
      obtain ⟨SO, eSO⟩ : ∃ z, z = sumN (hashA k) t OUT := ⟨_, rfl⟩
      have HSO := Lib.hid eSO
      clear eSO
      obtain ⟨DF, eDF⟩ : ∃ z, z = subW2 MW SO := ⟨_, rfl⟩
      have HDF := Lib.hid eDF
      clear eDF
      obtain ⟨LA, eLA⟩ : ∃ z, z = bytesW DF := ⟨_, rfl⟩
      have LAl : LA.length = 16 := by rw [eLA]; exact bytesW_length _
      have HLA := Lib.hid eLA
      clear eLA
      have hdo : encA k t x = OUT ++ LA := by
        have hb : bulkA x = B := by rw [bulkA, HB.out, hxl, HE.out]
        have hr : rightA x = R := by rw [rightA, HR.out, HRR.out, hxl, HE.out]
        have hm : midE k t x = MW := by rw [midE, hb, hr, HMW.out, HMD.out, HPB.out, HPL.out, HSB.out]
        rw [encA, joinA, hm, hb, HLA.out, HDF.out, HSO.out, HOUT.out]
      have hYl : (OUT ++ LA).length = m := by rw [List.length_append, OUTl, LAl]; omega
      obtain ⟨Y, hY⟩ : ∃ z, z = OUT ++ LA := ⟨_, rfl⟩
      rw [← hY] at hdo hYl
      have HDO := Lib.hid hdo
      have HYY := Lib.hid hY
      clear hdo hY
      obtain ⟨bk, bo, rfl, _, _⟩ := ZA.out.2.2.2 (by omega)
      obtain ⟨bA, eA⟩ : ∃ z, (if d = E then some (⟨bk, bo, none⟩ : Addr) else some ⟨bk, bo + E, none⟩) = z := ⟨_, rfl⟩
      have mc := ZA.out.cut (j := E) (k := m) (by omega) (Nat.le_refl _)
      simp only [Option.map_some, Addr.add_lit] at mc
      rw [eA, List.take_of_length_le (by omega), ← HRR.out] at mc
      have MC := Lib.hid mc
      have mp := ZA.out.pre (j := E) (by omega)
      rw [← HB.out] at mp
      have MP := Lib.hid mp
      clear mc mp
      have i1 : (E : Int) ≤ (d : Int) := by have := ZA.out.2.1; omega
      have i2 : (m : Int) ≤ (d : Int) := by have := ZA.out.2.1; omega
      have i3 : ((m - E : Nat) : Int) = 16 := by omega
      have c1 := PA.out.cell 32
      rw [TW.out] at c1
      have c2 := PA.out.cell 33
      rw [MS.out] at c2
      go_upto_region 8 with fail
      clear c1 c2
      refine wp_region_order [0,5,0,0,0,5,0,0,2,2,0,3] [0,1,2,3,4,5,6,7] [(8, 2, _), (9, 2, _)] (fun _ => []) [10,11] [_, _, _, _, _, _, _, _] [_, _] [0,5,0,0,0,5,0,0] [0,3] 2 rfl rfl rfl (by kernel_rfl) (by kernel_rfl) (by kernel_rfl) rfl rfl rfl (fun C0 hC0 hCb hCe K' hK' => ?_)
      have Q2 : ∀ w1, C0 w1 → w1.cell? ⟨w.heap.size, 33, none⟩ = some (.slice (some ⟨bk, bo, none⟩) m d) := fun w1 hw => by rw [(PA.out.drew.belowAll (hCb w1 hw)).cell]; exact MS.out
      repeat
        first
          | ((with_reducible refine h_pure (v := ?_) (a' := ?_) ?_ (fun _ => ?_) ?_ ?_); rotate_left; rotate_left; (focus (exact rfl)); (focus (go_simp; (try go_bits); exact rfl)); (focus (simp only [Act.put, List.setIfInBounds_toArray, List.set_cons_succ, List.set_cons_zero, Act.eval, Array.getD_eq_getD_getElem?, List.getElem?_toArray, List.getElem?_cons_succ, List.getElem?_cons_zero, Option.getD_some]; exact rfl)))
          | ((with_reducible refine h_obl (v := ?_) (a' := ?_) ?_ (fun _ hcw => ?_) ?_ ?_); rotate_left; rotate_left; (focus (exact rfl)); (focus (have fQ2 := Q2 _ hcw; go_simp; (try go_bits); exact rfl)); (focus (simp only [Act.put, List.setIfInBounds_toArray, List.set_cons_succ, List.set_cons_zero, Act.eval, Array.getD_eq_getD_getElem?, List.getElem?_toArray, List.getElem?_cons_succ, List.getElem?_cons_zero, Option.getD_some]; exact rfl)))
          | ((with_reducible refine h_read (v := ?_) (a' := ?_) ?_ (fun _ hbw => ?_) ?_ ?_); rotate_left; rotate_left; (focus (exact rfl)); (focus (skip; go_simp; (try go_bits); exact rfl)); (focus (simp only [Act.put, List.setIfInBounds_toArray, List.set_cons_succ, List.set_cons_zero, Act.eval, Array.getD_eq_getD_getElem?, List.getElem?_toArray, List.getElem?_cons_succ, List.getElem?_cons_zero, Option.getD_some]; exact rfl)))
      refine h_nil ?_
      clear Q2
      generalize hAct : Act.mk _ _ = act
      obtain ⟨u, rfl⟩ : ∃ u : Nat → Value, act = { tmps := (fun u : Nat → Value => (u 0 :: Value.pointer (some ⟨w.heap.size, 0, none⟩) :: u 2 :: Value.pointer (some ⟨q, 0, none⟩) :: u 4 :: Value.pointer (some ⟨gk, 0, none⟩) :: Value.pointer (some ⟨ks, 0, none⟩) :: u 7 :: u 8 :: u 9 :: u 10 :: u 11 :: u 12 :: u 13 :: u 14 :: u 15 :: u 16 :: u 17 :: u 18 :: u 19 :: u 20 :: u 21 :: u 22 :: u 23 :: u 24 :: u 25 :: u 26 :: u 27 :: u 28 :: u 29 :: u 30 :: u 31 :: u 32 :: u 33 :: u 34 :: u 35 :: u 36 :: u 37 :: u 38 :: u 39 :: u 40 :: u 41 :: u 42 :: u 43 :: u 44 :: u 45 :: u 46 :: u 47 :: u 48 :: u 49 :: u 50 :: u 51 :: Value.slice (some ⟨bk, bo, none⟩) E d :: u 53 :: u 54 :: u 55 :: Value.slice bA (m - E) (d - E) :: u 57 :: u 58 :: u 59 :: u 60 :: u 61 :: u 62 :: u 63 :: u 64 :: u 65 :: u 66 :: u 67 :: u 68 :: u 69 :: u 70 :: u 71 :: u 72 :: u 73 :: u 74 :: u 75 :: u 76 :: u 77 :: u 78 :: u 79 :: u 80 :: u 81 :: u 82 :: u 83 :: u 84 :: u 85 :: u 86 :: u 87 :: u 88 :: u 89 :: u 90 :: u 91 :: u 92 :: u 93 :: u 94 :: u 95 :: u 96 :: u 97 :: u 98 :: u 99 :: u 100 :: u 101 :: u 102 :: u 103 :: u 104 :: u 105 :: u 106 :: u 107 :: u 108 :: u 109 :: u 110 :: u 111 :: u 112 :: u 113 :: u 114 :: u 115 :: u 116 :: u 117 :: u 118 :: u 119 :: u 120 :: u 121 :: []).toArray) u, defers := [] } := by
        subst hAct; exact ex_frame _ rfl
      clear hAct
      obtain ⟨St, hSt⟩ : ∃ St : Nat → Bool → Act → World → Prop, ∀ kk fr a' w', St kk fr a' w' ↔ (∃ x57 x10 : Value, a' = { tmps := (u 0 :: Value.pointer (some ⟨w.heap.size, 0, none⟩) :: u 2 :: Value.pointer (some ⟨q, 0, none⟩) :: u 4 :: Value.pointer (some ⟨gk, 0, none⟩) :: Value.pointer (some ⟨ks, 0, none⟩) :: u 7 :: u 8 :: u 9 :: x10 :: u 11 :: u 12 :: u 13 :: u 14 :: u 15 :: u 16 :: u 17 :: u 18 :: u 19 :: u 20 :: u 21 :: u 22 :: u 23 :: u 24 :: u 25 :: u 26 :: u 27 :: u 28 :: u 29 :: u 30 :: u 31 :: u 32 :: u 33 :: u 34 :: u 35 :: u 36 :: u 37 :: u 38 :: u 39 :: u 40 :: u 41 :: u 42 :: u 43 :: u 44 :: u 45 :: u 46 :: u 47 :: u 48 :: u 49 :: u 50 :: u 51 :: Value.slice (some ⟨bk, bo, none⟩) E d :: u 53 :: u 54 :: u 55 :: Value.slice bA (m - E) (d - E) :: x57 :: u 58 :: u 59 :: u 60 :: u 61 :: u 62 :: u 63 :: u 64 :: u 65 :: u 66 :: u 67 :: u 68 :: u 69 :: u 70 :: u 71 :: u 72 :: u 73 :: u 74 :: u 75 :: u 76 :: u 77 :: u 78 :: u 79 :: u 80 :: u 81 :: u 82 :: u 83 :: u 84 :: u 85 :: u 86 :: u 87 :: u 88 :: u 89 :: u 90 :: u 91 :: u 92 :: u 93 :: u 94 :: u 95 :: u 96 :: u 97 :: u 98 :: u 99 :: u 100 :: u 101 :: u 102 :: u 103 :: u 104 :: u 105 :: u 106 :: u 107 :: u 108 :: u 109 :: u 110 :: u 111 :: u 112 :: u 113 :: u 114 :: u 115 :: u 116 :: u 117 :: u 118 :: u 119 :: u 120 :: u 121 :: []).toArray, defers := [] } ∧ Below wA.drew.heap.size wA.drew w' ∧ (1 ≤ kk → x57 = .agg (A64 (wl R))) ∧ (fr = true → ∃ g, x10 = .pointer (some ⟨g, 0, none⟩) ∧ wA.heap.size ≤ g ∧ Blk w' g 63 (A64 (zeros 64 2)))) := ⟨_, fun _ _ _ _ => Iff.rfl⟩
      refine permHO_chain (St := St) [_] _ 0 ⟨?as1, trivial⟩ ?af ?ach ?and ?aR _ _ ?a0
      case a0 => exact (hSt _ _ _ _).2 ⟨_, _, rfl, Below.refl _ _, fun h => by omega, fun h => by cases h⟩
      case ach => trivial
      case and => decide
      case as1 =>
        intro fr a3 w3 hs
        obtain ⟨x57, x10, rfl, D3, h1, hf⟩ := (hSt _ _ _ _).1 hs
        clear hs
        refine opH_of_wpH ?_
        (with_reducible refine h_call ?_ ?_)
        · exact rfl
        go_simp
        refine entersW_of ?_
        refine (load_any RR bA (m - E) (d - E) w3 (MC.out.drew.below D3)).mono ?_
        rintro e w4 ⟨rfl, d4⟩
        refine ⟨_, rfl, d4, ?_⟩
        try simp only [Act.put, List.setIfInBounds_toArray, List.set_cons_succ, List.set_cons_zero]
        rw [show (long RR 0, long RR 8) = R from HR.out.symm]
        refine h_nil ((hSt _ _ _ _).2 ⟨_, _, rfl, D3.trans (d4.mono D3.size), fun _ => rfl, fun e => ?_⟩)
        obtain ⟨g, e1, e2, e3⟩ := hf e
        exact ⟨g, e1, e2, e3.belowAll d4⟩
      case af =>
        intro j hj a3 w3 hs
        obtain ⟨x57, x10, rfl, D3, h1, hf⟩ := (hSt _ _ _ _).1 hs
        clear hs
        refine opH_of_wpH ?_
        obtain ⟨u3, eu3⟩ : ∃ u, w3.alloc (.cells (A64 (zeros 64 2)) 63) = u := ⟨_, rfl⟩
        obtain ⟨bf, du, zu⟩ := new1 _ _ _ _ eu3
        obtain ⟨pf, hpf⟩ : ∃ g, g = w3.heap.size := ⟨_, rfl⟩
        refine h_made (v := .pointer (some ⟨pf, 0, none⟩)) (w' := u3) rfl (by rw [hpf]; go_simp; exact eu3) du ?_
        simp only [Act.put, List.setIfInBounds_toArray, List.set_cons_succ, List.set_cons_zero]
        rw [← hpf] at bf
        exact h_nil ((hSt _ _ _ _).2 ⟨_, _, rfl, D3.trans (du.mono D3.size), h1, fun _ => ⟨pf, rfl, by rw [hpf]; exact D3.size, bf⟩⟩)
      case aR =>
        intro a3 w3 hs
        obtain ⟨x57, x10, rfl, D3, h1, hf⟩ := (hSt _ _ _ _).1 hs
        clear hs hSt
        obtain rfl := h1 (by decide)
        obtain ⟨g8, rfl, hg, bg⟩ := hf rfl
        have hC3 := hCe _ D3
        (refine c_pure (v := ?_) (a' := ?_) ?_ ?_ ?_ ?_ ?_)
        rotate_left
        rotate_left
        · assumption
        · exact rfl
        · (intro wq; go_simp; (try go_bits); exact rfl)
        · (simp only [Act.put, List.setIfInBounds_toArray, List.set_cons_succ, List.set_cons_zero, Act.eval, Array.getD_eq_getD_getElem?, List.getElem?_toArray, List.getElem?_cons_succ, List.getElem?_cons_zero, Option.getD_some]; exact rfl)
        refine c_act ?_
        refine z_storeRow bg rfl rfl rfl (A64_ones _) (Tryd.sizeOf63 _) (fun w8 kk4 g4 s4 => ?_)
        have BD := D3.trans (grown_below g4 hg D3.size)
        refine z_nil ⟨hCe _ BD, ?_⟩
        refine c_nil (hK' _ _ ?_)
        have E4 : Below wA.heap.size wA w8 := ((Below.refl wA.heap.size wA).drew).trans BD
        have K8 := Lib.hid (KA.out.below E4)
        have P8 := Lib.hid (PA.out.belowAll E4)
        have B8 := Lib.hid (BA.out.trans (E4.mono BA.out.size))
        have T8 := Lib.hid (TA.out.below E4)
        have X8 := Lib.hid (XA.out.below E4)
        have Z8 := Lib.hid (ZA.out.below E4)
        have N8 := Lib.hid (NA.out.below E4)
        have S8 := Lib.hid (SA.out.below E4)
        have G8 := Lib.hid kk4
        have MP8 := Lib.hid (MP.out.below E4)
        clear hK' hC0 hCb hCe BD D3  hf bg g4 s4 E4 kk4 MP MC eA i1 i2 i3 e1 e2 e3 e4 h1 KA PA BA TA XA ZA NA SA
        go_upto_region 9 with fail
        refine wp_region_order [0,5,0,0,5,0,2,2,2,2,2,3] [0,1,2,3,4,5] [(6, 2, _), (7, 2, _), (8, 2, _), (9, 2, _), (10, 2, _)] (fun i => if i = 7 then [6] else if i = 8 then [7] else if i = 9 then [8] else []) [11] [_, _, _, _, _, _] [_] [0,5,0,0,5,0] [3] 5 rfl rfl rfl (by kernel_rfl) (by kernel_rfl) (by kernel_rfl) rfl rfl rfl (fun C0 hC0 hCb hCe K' hK' => ?_)
        have Q1 : ∀ w1, C0 w1 → rowAt w1 g8 = A64 (wl R) := fun w1 hw => (G8.out.drew.belowAll (hCb w1 hw)).row
        have Q2 : ∀ w1, C0 w1 → w1.cell? ⟨w.heap.size, 32, none⟩ = some (.slice a n c) := fun w1 hw => by rw [(P8.out.drew.belowAll (hCb w1 hw)).cell]; exact TW.out
        repeat
          first
            | ((with_reducible refine h_pure (v := ?_) (a' := ?_) ?_ (fun _ => ?_) ?_ ?_); rotate_left; rotate_left; (focus (exact rfl)); (focus (go_simp; (try go_bits); exact rfl)); (focus (simp only [Act.put, List.setIfInBounds_toArray, List.set_cons_succ, List.set_cons_zero, Act.eval, Array.getD_eq_getD_getElem?, List.getElem?_toArray, List.getElem?_cons_succ, List.getElem?_cons_zero, Option.getD_some]; exact rfl)))
            | ((with_reducible refine h_obl (v := ?_) (a' := ?_) ?_ (fun _ hcw => ?_) ?_ ?_); rotate_left; rotate_left; (focus (exact rfl)); (focus (have fQ1 := Q1 _ hcw; have fQ2 := Q2 _ hcw; go_simp; (try go_bits); exact rfl)); (focus (simp only [Act.put, List.setIfInBounds_toArray, List.set_cons_succ, List.set_cons_zero, Act.eval, Array.getD_eq_getD_getElem?, List.getElem?_toArray, List.getElem?_cons_succ, List.getElem?_cons_zero, Option.getD_some]; exact rfl)))
            | ((with_reducible refine h_read (v := ?_) (a' := ?_) ?_ (fun _ hbw => ?_) ?_ ?_); rotate_left; rotate_left; (focus (exact rfl)); (focus (skip; go_simp; (try go_bits); exact rfl)); (focus (simp only [Act.put, List.setIfInBounds_toArray, List.set_cons_succ, List.set_cons_zero, Act.eval, Array.getD_eq_getD_getElem?, List.getElem?_toArray, List.getElem?_cons_succ, List.getElem?_cons_zero, Option.getD_some]; exact rfl)))
        refine h_nil ?_
        clear Q1 Q2
        generalize hAct : Act.mk _ _ = act
        obtain ⟨u, rfl⟩ : ∃ u : Nat → Value, act = { tmps := (fun u : Nat → Value => (u 0 :: Value.pointer (some ⟨w.heap.size, 0, none⟩) :: u 2 :: Value.pointer (some ⟨q, 0, none⟩) :: u 4 :: Value.pointer (some ⟨gk, 0, none⟩) :: Value.pointer (some ⟨ks, 0, none⟩) :: u 7 :: u 8 :: Value.slice (some ⟨bk, bo, none⟩) E d :: Value.pointer (some ⟨g8, 0, none⟩) :: u 11 :: u 12 :: u 13 :: u 14 :: u 15 :: u 16 :: u 17 :: u 18 :: u 19 :: u 20 :: u 21 :: u 22 :: u 23 :: u 24 :: u 25 :: u 26 :: u 27 :: u 28 :: u 29 :: u 30 :: u 31 :: u 32 :: u 33 :: u 34 :: u 35 :: u 36 :: u 37 :: u 38 :: u 39 :: u 40 :: u 41 :: u 42 :: u 43 :: u 44 :: u 45 :: u 46 :: u 47 :: u 48 :: u 49 :: u 50 :: u 51 :: u 52 :: u 53 :: u 54 :: u 55 :: u 56 :: u 57 :: Value.pointer (some ⟨gk, 0, none⟩) :: Value.agg (A64 (wl R)) :: Value.pointer (some ⟨ks, 0, none⟩) :: u 61 :: Value.slice a n c :: Value.slice (some ⟨bk, bo, none⟩) E d :: u 64 :: u 65 :: u 66 :: u 67 :: u 68 :: u 69 :: u 70 :: u 71 :: u 72 :: u 73 :: u 74 :: u 75 :: u 76 :: u 77 :: u 78 :: u 79 :: u 80 :: u 81 :: u 82 :: u 83 :: u 84 :: u 85 :: u 86 :: u 87 :: u 88 :: u 89 :: u 90 :: u 91 :: u 92 :: u 93 :: u 94 :: u 95 :: u 96 :: u 97 :: u 98 :: u 99 :: u 100 :: u 101 :: u 102 :: u 103 :: u 104 :: u 105 :: u 106 :: u 107 :: u 108 :: u 109 :: u 110 :: u 111 :: u 112 :: u 113 :: u 114 :: u 115 :: u 116 :: u 117 :: u 118 :: u 119 :: u 120 :: u 121 :: []).toArray) u, defers := [] } := by
          subst hAct; exact ex_frame _ rfl
        clear hAct
        obtain ⟨St, hSt⟩ : ∃ St : Nat → Bool → Act → World → Prop, ∀ kk fr a' w', St kk fr a' w' ↔ (∃ x64 x65 x66 x67 x11 : Value, a' = { tmps := (u 0 :: Value.pointer (some ⟨w.heap.size, 0, none⟩) :: u 2 :: Value.pointer (some ⟨q, 0, none⟩) :: u 4 :: Value.pointer (some ⟨gk, 0, none⟩) :: Value.pointer (some ⟨ks, 0, none⟩) :: u 7 :: u 8 :: Value.slice (some ⟨bk, bo, none⟩) E d :: Value.pointer (some ⟨g8, 0, none⟩) :: x11 :: u 12 :: u 13 :: u 14 :: u 15 :: u 16 :: u 17 :: u 18 :: u 19 :: u 20 :: u 21 :: u 22 :: u 23 :: u 24 :: u 25 :: u 26 :: u 27 :: u 28 :: u 29 :: u 30 :: u 31 :: u 32 :: u 33 :: u 34 :: u 35 :: u 36 :: u 37 :: u 38 :: u 39 :: u 40 :: u 41 :: u 42 :: u 43 :: u 44 :: u 45 :: u 46 :: u 47 :: u 48 :: u 49 :: u 50 :: u 51 :: u 52 :: u 53 :: u 54 :: u 55 :: u 56 :: u 57 :: Value.pointer (some ⟨gk, 0, none⟩) :: Value.agg (A64 (wl R)) :: Value.pointer (some ⟨ks, 0, none⟩) :: u 61 :: Value.slice a n c :: Value.slice (some ⟨bk, bo, none⟩) E d :: x64 :: x65 :: x66 :: x67 :: u 68 :: u 69 :: u 70 :: u 71 :: u 72 :: u 73 :: u 74 :: u 75 :: u 76 :: u 77 :: u 78 :: u 79 :: u 80 :: u 81 :: u 82 :: u 83 :: u 84 :: u 85 :: u 86 :: u 87 :: u 88 :: u 89 :: u 90 :: u 91 :: u 92 :: u 93 :: u 94 :: u 95 :: u 96 :: u 97 :: u 98 :: u 99 :: u 100 :: u 101 :: u 102 :: u 103 :: u 104 :: u 105 :: u 106 :: u 107 :: u 108 :: u 109 :: u 110 :: u 111 :: u 112 :: u 113 :: u 114 :: u 115 :: u 116 :: u 117 :: u 118 :: u 119 :: u 120 :: u 121 :: []).toArray, defers := [] } ∧ Below w8.drew.heap.size w8.drew w' ∧ (1 ≤ kk → x64 = .agg (A64 (wl SB))) ∧ (2 ≤ kk → x65 = .agg (A64 (wl PL))) ∧ (3 ≤ kk → x66 = .agg (A8 PB)) ∧ (4 ≤ kk → x67 = .agg (A8 MD)) ∧ (fr = true → ∃ g, x11 = .pointer (some ⟨g, 0, none⟩) ∧ w8.heap.size ≤ g ∧ Blk w' g 40 (A8 (zeros 8 16)))) := ⟨_, fun _ _ _ _ => Iff.rfl⟩
        refine permHO_chain (St := St) [_, _, _, _] _ 0 ⟨?bs1, ?bs2, ?bs3, ?bs4, trivial⟩ ?bf ?bch ?bnd ?bR _ _ ?b0
        case b0 => exact (hSt _ _ _ _).2 ⟨_, _, _, _, _, rfl, Below.refl _ _, fun h => by omega, fun h => by omega, fun h => by omega, fun h => by omega, fun h => by cases h⟩
        case bch => exact ⟨by decide, by decide, by decide, trivial⟩
        case bnd => decide
        case bs1 =>
          intro fr a3 w3 hs
          obtain ⟨x64, x65, x66, x67, x11, rfl, D3, h1, h2, h3, h4, hf⟩ := (hSt _ _ _ _).1 hs
          clear hs
          refine opH_of_wpH ?_
          (with_reducible refine h_call ?_ ?_)
          · exact rfl
          go_simp
          refine entersW_of ?_
          refine (asum_any ks (hashA k) t B a n c (some ⟨bk, bo, none⟩) E d w3 ((show AdK w8.drew ks (hashA k) from S8.out).below D3) (X8.out.drew.below D3) (MP8.out.drew.below D3) (by omega)).mono ?_
          rintro e w4 ⟨rfl, d4⟩
          refine ⟨_, rfl, d4, ?_⟩
          try simp only [Act.put, List.setIfInBounds_toArray, List.set_cons_succ, List.set_cons_zero]
          rw [← HSB.out]
          refine h_nil ((hSt _ _ _ _).2 ⟨_, _, _, _, _, rfl, D3.trans (d4.mono D3.size), fun _ => rfl, fun h => by omega, fun h => by omega, fun h => by omega, fun e => ?_⟩)
          obtain ⟨g, e1, e2, e3⟩ := hf e
          exact ⟨g, e1, e2, e3.belowAll d4⟩
        case bs2 =>
          intro fr a3 w3 hs
          obtain ⟨x64, x65, x66, x67, x11, rfl, D3, h1, h2, h3, h4, hf⟩ := (hSt _ _ _ _).1 hs
          clear hs
          obtain rfl := h1 (by omega)
          refine opH_of_wpH ?_
          (with_reducible refine h_call ?_ ?_)
          · exact rfl
          go_simp
          refine entersW_of ?_
          refine (wadd64_any R SB w3).mono ?_
          rintro e w4 ⟨rfl, d4⟩
          refine ⟨_, rfl, d4, ?_⟩
          try simp only [Act.put, List.setIfInBounds_toArray, List.set_cons_succ, List.set_cons_zero]
          rw [← HPL.out]
          refine h_nil ((hSt _ _ _ _).2 ⟨_, _, _, _, _, rfl, D3.trans (d4.mono D3.size), fun _ => rfl, fun _ => rfl, fun h => by omega, fun h => by omega, fun e => ?_⟩)
          obtain ⟨g, e1, e2, e3⟩ := hf e
          exact ⟨g, e1, e2, e3.belowAll d4⟩
        case bs3 =>
          intro fr a3 w3 hs
          obtain ⟨x64, x65, x66, x67, x11, rfl, D3, h1, h2, h3, h4, hf⟩ := (hSt _ _ _ _).1 hs
          clear hs
          obtain rfl := h1 (by omega)
          obtain rfl := h2 (by omega)
          refine opH_of_wpH ?_
          (with_reducible refine h_call ?_ ?_)
          · exact rfl
          go_simp
          refine entersW_of ?_
          refine (wbytes_any PL w3).mono ?_
          rintro e w4 ⟨rfl, d4⟩
          refine ⟨_, rfl, d4, ?_⟩
          try simp only [Act.put, List.setIfInBounds_toArray, List.set_cons_succ, List.set_cons_zero]
          rw [show le64 PL.1 ++ le64 PL.2 = PB from HPB.out.symm]
          refine h_nil ((hSt _ _ _ _).2 ⟨_, _, _, _, _, rfl, D3.trans (d4.mono D3.size), fun _ => rfl, fun _ => rfl, fun _ => rfl, fun h => by omega, fun e => ?_⟩)
          obtain ⟨g, e1, e2, e3⟩ := hf e
          exact ⟨g, e1, e2, e3.belowAll d4⟩
        case bs4 =>
          intro fr a3 w3 hs
          obtain ⟨x64, x65, x66, x67, x11, rfl, D3, h1, h2, h3, h4, hf⟩ := (hSt _ _ _ _).1 hs
          clear hs
          obtain rfl := h1 (by omega)
          obtain rfl := h2 (by omega)
          obtain rfl := h3 (by omega)
          refine opH_of_wpH ?_
          (with_reducible refine h_call ?_ ?_)
          · exact rfl
          go_simp
          refine entersW_of ?_
          refine (encrypt_any gk p2 15 (aesA k) PB w3 (N8.out.drew.below D3) PBl (by omega) (by omega)).mono ?_
          rintro e w4 ⟨rfl, d4⟩
          refine ⟨_, rfl, d4, ?_⟩
          try simp only [Act.put, List.setIfInBounds_toArray, List.set_cons_succ, List.set_cons_zero]
          rw [← HMD.out]
          refine h_nil ((hSt _ _ _ _).2 ⟨_, _, _, _, _, rfl, D3.trans (d4.mono D3.size), fun _ => rfl, fun _ => rfl, fun _ => rfl, fun _ => rfl, fun e => ?_⟩)
          obtain ⟨g, e1, e2, e3⟩ := hf e
          exact ⟨g, e1, e2, e3.belowAll d4⟩
        case bf =>
          intro j hj a3 w3 hs
          obtain ⟨x64, x65, x66, x67, x11, rfl, D3, h1, h2, h3, h4, hf⟩ := (hSt _ _ _ _).1 hs
          clear hs
          refine opH_of_wpH ?_
          obtain ⟨u3, eu3⟩ : ∃ u, w3.alloc (.cells (A8 (zeros 8 16)) 40) = u := ⟨_, rfl⟩
          obtain ⟨bf, du, zu⟩ := new1 _ _ _ _ eu3
          obtain ⟨pf, hpf⟩ : ∃ g, g = w3.heap.size := ⟨_, rfl⟩
          refine h_made (v := .pointer (some ⟨pf, 0, none⟩)) (w' := u3) rfl (by rw [hpf]; go_simp; exact eu3) du ?_
          simp only [Act.put, List.setIfInBounds_toArray, List.set_cons_succ, List.set_cons_zero]
          rw [← hpf] at bf
          exact h_nil ((hSt _ _ _ _).2 ⟨_, _, _, _, _, rfl, D3.trans (du.mono D3.size), h1, h2, h3, h4, fun _ => ⟨pf, rfl, by rw [hpf]; exact D3.size, bf⟩⟩)
        case bR =>
          intro a3 w3 hs
          obtain ⟨x64, x65, x66, x67, x11, rfl, D3, h1, h2, h3, h4, hf⟩ := (hSt _ _ _ _).1 hs
          clear hs hSt
          obtain rfl := h1 (by decide)
          obtain rfl := h2 (by decide)
          obtain rfl := h3 (by decide)
          obtain rfl := h4 (by decide)
          obtain ⟨g9, rfl, hg, bg⟩ := hf rfl
          refine c_act ?_
          refine z_storeRow bg rfl rfl (by rw [A8_size, A8_size, MDl, zeros_length]) (A8_ones _) (by rw [A8_size, MDl]; exact Tryd.sizeOf40 _) (fun w9 kk4 g4 s4 => ?_)
          have BD := D3.trans (grown_below g4 hg D3.size)
          refine z_nil ⟨hCe _ BD, ?_⟩
          refine c_nil (hK' _ _ ?_)
          have E4 : Below w8.heap.size w8 w9 := ((Below.refl w8.heap.size w8).drew).trans BD
          have K9 := Lib.hid (K8.out.below E4)
          have P9 := Lib.hid (P8.out.belowAll E4)
          have B9 := Lib.hid (B8.out.trans (E4.mono B8.out.size))
          have T9 := Lib.hid (T8.out.below E4)
          have X9 := Lib.hid (X8.out.below E4)
          have Z9 := Lib.hid (Z8.out.below E4)
          have N9 := Lib.hid (N8.out.below E4)
          have S9 := Lib.hid (S8.out.below E4)
          have J9 := Lib.hid kk4
          have MP9 := Lib.hid (MP8.out.below E4)
          clear hK' hC0 hCb hCe BD D3  hf bg g4 s4 E4 kk4 MP8 G8 h1 h2 h3 h4 K8 P8 B8 T8 X8 Z8 N8 S8
          obtain ⟨V, hV⟩ : ∃ V, V = w9.alloc (.cells (A8 (zeros 8 24)) 68) := ⟨_, rfl⟩
          have EV : Below w9.heap.size w9 V := by rw [hV]; exact (Below.refl _ _).alloc (Nat.le_refl _) _
          have I0 := Blk.new w9 68 (A8 (zeros 8 24))
          rw [← hV] at I0
          have IV := Lib.hid I0
          have HEV := Lib.hid EV
          have hV2 := Lib.hid hV
          clear EV I0 hV
          go_upto_region 11 with fail
          rw [← hV2.out]
          clear hV2
          obtain ⟨gN, hgN⟩ : ∃ z, z = w9.heap.size := ⟨_, rfl⟩
          rw [← hgN] at IV HEV ⊢
          have HGN := Lib.hid hgN
          clear hgN
          go_wp2
          go_loopw [13] (fun i wr => ∃ j : Nat, j ≤ 16 ∧ i = .int .i64 j ∧ Blk wr gN 68 (A8 (nonTo MD j)) ∧ Below gN w9 wr) (fun i _ => 16 - (intOf i).toNat)
          case atStart => exact ⟨0, by omega, rfl, by rw [nonTo_zero]; exact IV.out, HEV.out⟩
          case round =>
            obtain ⟨j, hj, rfl, hN, hB⟩ := hrel
            have EB : Below w9.heap.size w9 wr := by rw [← HGN.out]; exact hB
            by_cases hj16 : j < 16
            · have j1 : (j : Int) < 16 := by omega
              have j0 : (0 : Int) ≤ (j : Int) := by omega
              have v1 := (J9.out.belowAll EB).cell8 MDl j hj16
              have v2 := hN.cell8 (nonTo_length MD MDl j (by omega)) j (show j < 24 by omega)
              have fo := hN.frozen j
              have k6 := hN.set_ j (v8 (nth MD j))
              rw [A8_set, nonTo_set MD MDl j hj16] at k6
              have B6 := hB.setCell (p := ⟨gN, j, none⟩) (Nat.le_refl _) (v8 (nth MD j))
              have K6 := Lib.hid k6
              have HB6 := Lib.hid B6
              clear k6 B6 hN hB EB IV HEV
              go_wp2
              exact ⟨⟨j + 1, by omega, by go_num, K6.out, HB6.out⟩, by simp [intOf]; omega⟩
            · obtain rfl : j = 16 := by omega
              have v2 := hN.cell8 (nonTo_length MD MDl 16 (by omega)) 16 (show 16 < 24 by omega)
              have fo := hN.frozen 16
              have k6 := hN.set_ 16 (v8 1#8)
              rw [A8_set, nonTo_full MD MDl, ← HMW.out] at k6
              have EU := EB.setCell (p := ⟨gN, 16, none⟩) (Nat.le_of_eq HGN.out.symm) (v8 1#8)
              obtain ⟨U, hU⟩ : ∃ U, U = wr.setCell ⟨gN, 16, none⟩ (v8 1#8) := ⟨_, rfl⟩
              rw [← hU] at k6 EU
              have KU := Lib.hid (K9.out.below EU)
              have PU := Lib.hid (P9.out.belowAll EU)
              have BU := Lib.hid (B9.out.trans (EU.mono B9.out.size))
              have TU := Lib.hid (T9.out.below EU)
              have XU := Lib.hid (X9.out.below EU)
              have ZU := Lib.hid (Z9.out.below EU)
              have NU := Lib.hid (N9.out.below EU)
              have SU := Lib.hid (S9.out.below EU)
              have JU := Lib.hid (J9.out.belowAll EU)
              have MPU := Lib.hid (MP9.out.below EU)
              have rN := k6.row
              have hnl := nonceW_length MW
              have rT := PU.out.row
              have HU := Lib.hid hU
              clear hU k6 EU EB hN hB IV HEV MP9 K9 P9 B9 T9 X9 Z9 N9 S9 J9
              go_upto_region 16 with fail
              have hv1 : wr.setCell ⟨gN, 16, none⟩ (v8 1#8) = U := HU.out.symm
              try rw [show (Value.int .u8 1) = v8 1#8 from rfl, hv1]
              clear hv1
              go_wp2_with fail
              refine (crypt_yes k (nonceW MW) B 12 (some ⟨bk, bo, none⟩) E d U hkl rfl (by omega) MPU.out (by omega)).mono ?_
              rintro e wC ⟨v, rfl, oC, dC⟩
              rw [show cryptOf k (nonceW MW) (12 : Int).toNat B = OUT from HOUT.out.symm] at oC
              obtain ⟨aC, cC, rfl, rC, _⟩ := oC.rd
              rw [OUTl] at rC ⊢
              have KC := Lib.hid (KU.out.below dC)
              have PC := Lib.hid (PU.out.belowAll dC)
              have BC := Lib.hid (BU.out.trans (dC.mono BU.out.size))
              have TC := Lib.hid (TU.out.below dC)
              have XC := Lib.hid (XU.out.below dC)
              have ZC := Lib.hid (ZU.out.below dC)
              have NC := Lib.hid (NU.out.below dC)
              have SC := Lib.hid (SU.out.below dC)
              have JC := Lib.hid (JU.out.belowAll dC)
              have OC := Lib.hid rC
              clear oC rC dC rN rT HU MPU v2 fo KU PU BU TU XU ZU NU SU JU
              have mr := (JC.out.drew).rd8 16 (by omega) (by rw [MDl]; unfold maxLen; omega)
              rw [MDl, List.take_of_length_le (by omega)] at mr
              have MR := Lib.hid mr
              clear mr
              go_upto_region 19 with fail
              refine wp_region_order [0,2,0,0,5,0,2,2,2,2,3] [0,2,3,4,5] [(1, 2, _), (6, 2, _), (7, 2, _), (8, 2, _), (9, 2, _)] (fun i => if i = 6 then [1] else if i = 7 then [6] else if i = 8 then [7] else []) [10] [_, _, _, _, _] [_] [0,0,0,5,0] [3] 5 rfl rfl rfl (by kernel_rfl) (by kernel_rfl) (by kernel_rfl) rfl rfl rfl (fun C0 hC0 hCb hCe K' hK' => ?_)
              have Q2 : ∀ w1, C0 w1 → w1.cell? ⟨w.heap.size, 32, none⟩ = some (.slice a n c) := fun w1 hw => by rw [(PC.out.drew.belowAll (hCb w1 hw)).cell]; exact TW.out
              repeat
                first
                  | ((with_reducible refine h_pure (v := ?_) (a' := ?_) ?_ (fun _ => ?_) ?_ ?_); rotate_left; rotate_left; (focus (exact rfl)); (focus (go_simp; (try go_bits); exact rfl)); (focus (simp only [Act.put, List.setIfInBounds_toArray, List.set_cons_succ, List.set_cons_zero, Act.eval, Array.getD_eq_getD_getElem?, List.getElem?_toArray, List.getElem?_cons_succ, List.getElem?_cons_zero, Option.getD_some]; exact rfl)))
                  | ((with_reducible refine h_obl (v := ?_) (a' := ?_) ?_ (fun _ hcw => ?_) ?_ ?_); rotate_left; rotate_left; (focus (exact rfl)); (focus (have fQ2 := Q2 _ hcw; go_simp; (try go_bits); exact rfl)); (focus (simp only [Act.put, List.setIfInBounds_toArray, List.set_cons_succ, List.set_cons_zero, Act.eval, Array.getD_eq_getD_getElem?, List.getElem?_toArray, List.getElem?_cons_succ, List.getElem?_cons_zero, Option.getD_some]; exact rfl)))
                  | ((with_reducible refine h_read (v := ?_) (a' := ?_) ?_ (fun _ hbw => ?_) ?_ ?_); rotate_left; rotate_left; (focus (exact rfl)); (focus (skip; go_simp; (try go_bits); exact rfl)); (focus (simp only [Act.put, List.setIfInBounds_toArray, List.set_cons_succ, List.set_cons_zero, Act.eval, Array.getD_eq_getD_getElem?, List.getElem?_toArray, List.getElem?_cons_succ, List.getElem?_cons_zero, Option.getD_some]; exact rfl)))
              refine h_nil ?_
              clear Q2
              generalize hAct : Act.mk _ _ = act
              obtain ⟨u, rfl⟩ : ∃ u : Nat → Value, act = { tmps := (fun u : Nat → Value => (u 0 :: Value.pointer (some ⟨w.heap.size, 0, none⟩) :: u 2 :: Value.pointer (some ⟨q, 0, none⟩) :: u 4 :: u 5 :: u 6 :: u 7 :: u 8 :: u 9 :: u 10 :: Value.pointer (some ⟨g9, 0, none⟩) :: u 12 :: u 13 :: Value.slice aC E cC :: Value.int IntKind.i64 0 :: u 16 :: u 17 :: u 18 :: u 19 :: u 20 :: u 21 :: u 22 :: u 23 :: u 24 :: u 25 :: u 26 :: u 27 :: u 28 :: u 29 :: u 30 :: u 31 :: u 32 :: u 33 :: u 34 :: u 35 :: u 36 :: u 37 :: u 38 :: u 39 :: u 40 :: u 41 :: u 42 :: u 43 :: u 44 :: u 45 :: u 46 :: u 47 :: u 48 :: u 49 :: u 50 :: u 51 :: u 52 :: u 53 :: u 54 :: u 55 :: u 56 :: u 57 :: u 58 :: u 59 :: u 60 :: u 61 :: u 62 :: u 63 :: u 64 :: u 65 :: u 66 :: u 67 :: u 68 :: u 69 :: u 70 :: u 71 :: u 72 :: u 73 :: u 74 :: u 75 :: u 76 :: u 77 :: u 78 :: u 79 :: u 80 :: u 81 :: u 82 :: u 83 :: u 84 :: u 85 :: u 86 :: u 87 :: Value.slice (some ⟨g9, 0, none⟩) 16 16 :: u 89 :: Value.pointer (some ⟨ks, 0, none⟩) :: u 91 :: Value.slice a n c :: Value.slice aC E cC :: u 94 :: u 95 :: u 96 :: u 97 :: u 98 :: u 99 :: u 100 :: u 101 :: u 102 :: u 103 :: u 104 :: u 105 :: u 106 :: u 107 :: u 108 :: u 109 :: u 110 :: u 111 :: u 112 :: u 113 :: u 114 :: u 115 :: u 116 :: u 117 :: u 118 :: u 119 :: u 120 :: u 121 :: []).toArray) u, defers := [] } := by
                subst hAct; exact ex_frame _ rfl
              clear hAct
              obtain ⟨St, hSt⟩ : ∃ St : Nat → Bool → Act → World → Prop, ∀ kk fr a' w', St kk fr a' w' ↔ (∃ x89 x94 x95 x96 x16 : Value, a' = { tmps := (u 0 :: Value.pointer (some ⟨w.heap.size, 0, none⟩) :: u 2 :: Value.pointer (some ⟨q, 0, none⟩) :: u 4 :: u 5 :: u 6 :: u 7 :: u 8 :: u 9 :: u 10 :: Value.pointer (some ⟨g9, 0, none⟩) :: u 12 :: u 13 :: Value.slice aC E cC :: Value.int IntKind.i64 0 :: x16 :: u 17 :: u 18 :: u 19 :: u 20 :: u 21 :: u 22 :: u 23 :: u 24 :: u 25 :: u 26 :: u 27 :: u 28 :: u 29 :: u 30 :: u 31 :: u 32 :: u 33 :: u 34 :: u 35 :: u 36 :: u 37 :: u 38 :: u 39 :: u 40 :: u 41 :: u 42 :: u 43 :: u 44 :: u 45 :: u 46 :: u 47 :: u 48 :: u 49 :: u 50 :: u 51 :: u 52 :: u 53 :: u 54 :: u 55 :: u 56 :: u 57 :: u 58 :: u 59 :: u 60 :: u 61 :: u 62 :: u 63 :: u 64 :: u 65 :: u 66 :: u 67 :: u 68 :: u 69 :: u 70 :: u 71 :: u 72 :: u 73 :: u 74 :: u 75 :: u 76 :: u 77 :: u 78 :: u 79 :: u 80 :: u 81 :: u 82 :: u 83 :: u 84 :: u 85 :: u 86 :: u 87 :: Value.slice (some ⟨g9, 0, none⟩) 16 16 :: x89 :: Value.pointer (some ⟨ks, 0, none⟩) :: u 91 :: Value.slice a n c :: Value.slice aC E cC :: x94 :: x95 :: x96 :: u 97 :: u 98 :: u 99 :: u 100 :: u 101 :: u 102 :: u 103 :: u 104 :: u 105 :: u 106 :: u 107 :: u 108 :: u 109 :: u 110 :: u 111 :: u 112 :: u 113 :: u 114 :: u 115 :: u 116 :: u 117 :: u 118 :: u 119 :: u 120 :: u 121 :: []).toArray, defers := [] } ∧ Below wC.drew.heap.size wC.drew w' ∧ (1 ≤ kk → x89 = .agg (A64 (wl MW))) ∧ (2 ≤ kk → x94 = .agg (A64 (wl SO))) ∧ (3 ≤ kk → x95 = .agg (A64 (wl DF))) ∧ (4 ≤ kk → x96 = .agg (A8 LA)) ∧ (fr = true → ∃ g, x16 = .pointer (some ⟨g, 0, none⟩) ∧ wC.heap.size ≤ g ∧ Blk w' g 40 (A8 (zeros 8 16)))) := ⟨_, fun _ _ _ _ => Iff.rfl⟩
              refine permHO_chain (St := St) [_, _, _, _] _ 0 ⟨?cs1, ?cs2, ?cs3, ?cs4, trivial⟩ ?cf ?cch ?cnd ?cR _ _ ?c0
              case c0 => exact (hSt _ _ _ _).2 ⟨_, _, _, _, _, rfl, Below.refl _ _, fun h => by omega, fun h => by omega, fun h => by omega, fun h => by omega, fun h => by cases h⟩
              case cch => exact ⟨by decide, by decide, by decide, trivial⟩
              case cnd => decide
              case cs1 =>
                intro fr a3 w3 hs
                obtain ⟨x89, x94, x95, x96, x16, rfl, D3, h1, h2, h3, h4, hf⟩ := (hSt _ _ _ _).1 hs
                clear hs
                refine opH_of_wpH ?_
                (with_reducible refine h_call ?_ ?_)
                · exact rfl
                go_simp
                refine entersW_of ?_
                refine (load_any MD (some ⟨g9, 0, none⟩) 16 16 w3 (MR.out.below D3)).mono ?_
                rintro e w4 ⟨rfl, d4⟩
                refine ⟨_, rfl, d4, ?_⟩
                try simp only [Act.put, List.setIfInBounds_toArray, List.set_cons_succ, List.set_cons_zero]
                rw [show (long MD 0, long MD 8) = MW from HMW.out.symm]
                refine h_nil ((hSt _ _ _ _).2 ⟨_, _, _, _, _, rfl, D3.trans (d4.mono D3.size), fun _ => rfl, fun h => by omega, fun h => by omega, fun h => by omega, fun e => ?_⟩)
                obtain ⟨g, e1, e2, e3⟩ := hf e
                exact ⟨g, e1, e2, e3.belowAll d4⟩
              case cs2 =>
                intro fr a3 w3 hs
                obtain ⟨x89, x94, x95, x96, x16, rfl, D3, h1, h2, h3, h4, hf⟩ := (hSt _ _ _ _).1 hs
                clear hs
                obtain rfl := h1 (by omega)
                refine opH_of_wpH ?_
                (with_reducible refine h_call ?_ ?_)
                · exact rfl
                go_simp
                refine entersW_of ?_
                refine (asum_any ks (hashA k) t OUT a n c aC E cC w3 ((show AdK wC.drew ks (hashA k) from SC.out).below D3) (XC.out.drew.below D3) (OC.out.drew.below D3) (by omega)).mono ?_
                rintro e w4 ⟨rfl, d4⟩
                refine ⟨_, rfl, d4, ?_⟩
                try simp only [Act.put, List.setIfInBounds_toArray, List.set_cons_succ, List.set_cons_zero]
                rw [← HSO.out]
                refine h_nil ((hSt _ _ _ _).2 ⟨_, _, _, _, _, rfl, D3.trans (d4.mono D3.size), fun _ => rfl, fun _ => rfl, fun h => by omega, fun h => by omega, fun e => ?_⟩)
                obtain ⟨g, e1, e2, e3⟩ := hf e
                exact ⟨g, e1, e2, e3.belowAll d4⟩
              case cs3 =>
                intro fr a3 w3 hs
                obtain ⟨x89, x94, x95, x96, x16, rfl, D3, h1, h2, h3, h4, hf⟩ := (hSt _ _ _ _).1 hs
                clear hs
                obtain rfl := h1 (by omega)
                obtain rfl := h2 (by omega)
                refine opH_of_wpH ?_
                (with_reducible refine h_call ?_ ?_)
                · exact rfl
                go_simp
                refine entersW_of ?_
                refine (wsub64_any MW SO w3).mono ?_
                rintro e w4 ⟨rfl, d4⟩
                refine ⟨_, rfl, d4, ?_⟩
                try simp only [Act.put, List.setIfInBounds_toArray, List.set_cons_succ, List.set_cons_zero]
                rw [← HDF.out]
                refine h_nil ((hSt _ _ _ _).2 ⟨_, _, _, _, _, rfl, D3.trans (d4.mono D3.size), fun _ => rfl, fun _ => rfl, fun _ => rfl, fun h => by omega, fun e => ?_⟩)
                obtain ⟨g, e1, e2, e3⟩ := hf e
                exact ⟨g, e1, e2, e3.belowAll d4⟩
              case cs4 =>
                intro fr a3 w3 hs
                obtain ⟨x89, x94, x95, x96, x16, rfl, D3, h1, h2, h3, h4, hf⟩ := (hSt _ _ _ _).1 hs
                clear hs
                obtain rfl := h1 (by omega)
                obtain rfl := h2 (by omega)
                obtain rfl := h3 (by omega)
                refine opH_of_wpH ?_
                (with_reducible refine h_call ?_ ?_)
                · exact rfl
                go_simp
                refine entersW_of ?_
                refine (wbytes_any DF w3).mono ?_
                rintro e w4 ⟨rfl, d4⟩
                refine ⟨_, rfl, d4, ?_⟩
                try simp only [Act.put, List.setIfInBounds_toArray, List.set_cons_succ, List.set_cons_zero]
                rw [show le64 DF.1 ++ le64 DF.2 = LA from HLA.out.symm]
                refine h_nil ((hSt _ _ _ _).2 ⟨_, _, _, _, _, rfl, D3.trans (d4.mono D3.size), fun _ => rfl, fun _ => rfl, fun _ => rfl, fun _ => rfl, fun e => ?_⟩)
                obtain ⟨g, e1, e2, e3⟩ := hf e
                exact ⟨g, e1, e2, e3.belowAll d4⟩
              case cf =>
                intro j hj a3 w3 hs
                obtain ⟨x89, x94, x95, x96, x16, rfl, D3, h1, h2, h3, h4, hf⟩ := (hSt _ _ _ _).1 hs
                clear hs
                refine opH_of_wpH ?_
                obtain ⟨u3, eu3⟩ : ∃ u, w3.alloc (.cells (A8 (zeros 8 16)) 40) = u := ⟨_, rfl⟩
                obtain ⟨bf, du, zu⟩ := new1 _ _ _ _ eu3
                obtain ⟨pf, hpf⟩ : ∃ g, g = w3.heap.size := ⟨_, rfl⟩
                refine h_made (v := .pointer (some ⟨pf, 0, none⟩)) (w' := u3) rfl (by rw [hpf]; go_simp; exact eu3) du ?_
                simp only [Act.put, List.setIfInBounds_toArray, List.set_cons_succ, List.set_cons_zero]
                rw [← hpf] at bf
                exact h_nil ((hSt _ _ _ _).2 ⟨_, _, _, _, _, rfl, D3.trans (du.mono D3.size), h1, h2, h3, h4, fun _ => ⟨pf, rfl, by rw [hpf]; exact D3.size, bf⟩⟩)
              case cR =>
                intro a3 w3 hs
                obtain ⟨x89, x94, x95, x96, x16, rfl, D3, h1, h2, h3, h4, hf⟩ := (hSt _ _ _ _).1 hs
                clear hs hSt
                obtain rfl := h1 (by decide)
                obtain rfl := h2 (by decide)
                obtain rfl := h3 (by decide)
                obtain rfl := h4 (by decide)
                obtain ⟨gL, rfl, hg, bg⟩ := hf rfl
                refine c_act ?_
                refine z_storeRow bg rfl rfl (by rw [A8_size, A8_size, LAl, zeros_length]) (A8_ones _) (by rw [A8_size, LAl]; exact Tryd.sizeOf40 _) (fun w20 kk4 g4 s4 => ?_)
                have BD := D3.trans (grown_below g4 hg D3.size)
                refine z_nil ⟨hCe _ BD, ?_⟩
                refine c_nil (hK' _ _ ?_)
                have E4 : Below wC.heap.size wC w20 := ((Below.refl wC.heap.size wC).drew).trans BD
                have K20 := Lib.hid (KC.out.below E4)
                have P20 := Lib.hid (PC.out.belowAll E4)
                have B20 := Lib.hid (BC.out.trans (E4.mono BC.out.size))
                have T20 := Lib.hid (TC.out.below E4)
                have X20 := Lib.hid (XC.out.below E4)
                have Z20 := Lib.hid (ZC.out.below E4)
                have O20 := Lib.hid (OC.out.below E4)
                have F20 := Lib.hid kk4
                clear hK' hC0 hCb hCe BD D3  hf bg g4 s4 E4 kk4 MR OC h1 h2 h3 h4 KC PC BC TC XC ZC NC SC JC
                have c1 := P20.out.cell 32
                rw [TW.out] at c1
                have c2 := P20.out.cell 33
                rw [MS.out] at c2
                go_wp2_with fail
                refine (aenc_any q p k t x a (some ⟨bk, bo, none⟩) n c m d w20 K20.out hkl X20.out Z20.out (by omega) (by omega)).mono ?_
                rintro e w21 ⟨v21, rfl, o21, d21⟩
                rw [HDO.out] at o21
                obtain ⟨a21, c21, rfl, r21, _⟩ := o21.rd
                rw [hYl] at r21 ⊢
                have Y21 := Lib.hid r21
                have B21 := Lib.hid (B20.out.trans (d21.mono B20.out.size))
                have T21 := Lib.hid (T20.out.below d21)
                have O21 := Lib.hid (O20.out.below d21)
                have F21 := Lib.hid (F20.out.belowAll d21)
                clear c1 c2 d21 o21 r21 K20 P20 B20 T20 X20 Z20 O20 F20
                go_upto_region 21 with fail
                refine wp_region_order [0,0,0,0,5,2,0,3,0,3,3,0,0,0,3,0,0] [0,1,2,3,4,6,8] [(5, 2, _)] (fun _ => []) [7,9,10,11,12,13,14,15,16] [_, _, _, _, _, _, _] [_, _, _, _, _, _, _, _, _] [0,0,0,0,5,0,0] [3,3,3,0,0,0,3,0,0] 1 rfl rfl rfl (by kernel_rfl) (by kernel_rfl) (by kernel_rfl) rfl rfl rfl (fun C0 hC0 hCb hCe K' hK' => ?_)
                have Q1 : ∀ w1, C0 w1 → (convert 23 9 (.slice a21 m c21)).run Tryd.prog w1 = .ok (.string (str Y)) w1 := fun w1 hw => run_str (P := Tryd.prog) w1 23 9 5 a21 m c21 Y Tryd.underlying23 Tryd.underlying9 Tryd.underlying5 (Y21.out.drew.below (hCb w1 hw))
                repeat
                  first
                    | ((with_reducible refine h_pure (v := ?_) (a' := ?_) ?_ (fun _ => ?_) ?_ ?_); rotate_left; rotate_left; (focus (exact rfl)); (focus (go_simp; (try go_bits); exact rfl)); (focus (simp only [Act.put, List.setIfInBounds_toArray, List.set_cons_succ, List.set_cons_zero, Act.eval, Array.getD_eq_getD_getElem?, List.getElem?_toArray, List.getElem?_cons_succ, List.getElem?_cons_zero, Option.getD_some]; exact rfl)))
                    | ((with_reducible refine h_obl (v := ?_) (a' := ?_) ?_ (fun _ hcw => ?_) ?_ ?_); rotate_left; rotate_left; (focus (exact rfl)); (focus (have f1 := Q1 _ hcw; go_simp; (try go_bits); exact rfl)); (focus (simp only [Act.put, List.setIfInBounds_toArray, List.set_cons_succ, List.set_cons_zero, Act.eval, Array.getD_eq_getD_getElem?, List.getElem?_toArray, List.getElem?_cons_succ, List.getElem?_cons_zero, Option.getD_some]; exact rfl)))
                    | ((with_reducible refine h_read (v := ?_) (a' := ?_) ?_ (fun _ hbw => ?_) ?_ ?_); rotate_left; rotate_left; (focus (exact rfl)); (focus (skip; go_simp; (try go_bits); exact rfl)); (focus (simp only [Act.put, List.setIfInBounds_toArray, List.set_cons_succ, List.set_cons_zero, Act.eval, Array.getD_eq_getD_getElem?, List.getElem?_toArray, List.getElem?_cons_succ, List.getElem?_cons_zero, Option.getD_some]; exact rfl)))
                refine h_nil (permHO_one (opH_of_wpH ?_))
                clear Q1
                refine h_build0 (B := w21.heap.size) (Nat.le_refl _) Tryd.underlying23 info8 rfl (fun w22 v22 o22 d22 => ?_)
                simp only [Act.put, List.setIfInBounds_toArray, List.set_cons_succ, List.set_cons_zero]
                refine h_nil ?_
                refine c_append8 o22 (O21.out.drew.below d22) rfl rfl rfl Tryd.underlying23 info8 (by simp; omega) d22.size (fun w23 v23 o23 g23 b23 => ?_)
                simp only [Act.put, List.setIfInBounds_toArray, List.set_cons_succ, List.set_cons_zero]
                have BD23 := d22.trans b23
                have hC23 := hCe _ BD23
                refine ⟨hC23, ?_⟩
                rw [List.nil_append] at o23
                have rF : Rd8 w23 (some ⟨gL, 0, none⟩) 16 16 LA := by
                  have := ((F21.out.drew.belowAll BD23).rd8 16 (by omega) (by rw [LAl]; unfold maxLen; omega))
                  rwa [LAl, List.take_of_length_le (by omega)] at this
                refine c_append8 o23 rF rfl rfl rfl Tryd.underlying23 info8 (by rw [OUTl]; omega) BD23.size (fun w24 v24 o24 g24 b24 => ?_)
                simp only [Act.put, List.setIfInBounds_toArray, List.set_cons_succ, List.set_cons_zero]
                have BD24 := BD23.trans b24
                have hC24 := hCe _ BD24
                refine ⟨hC24, ?_⟩
                rw [← HYY.out] at o24
                obtain ⟨a24, c24, rfl, hr24, _⟩ := o24.rd
                rw [hYl] at hr24 ⊢
                have s2 := run_str (P := Tryd.prog) w24 23 9 5 a24 m c24 Y Tryd.underlying23 Tryd.underlying9 Tryd.underlying5 hr24
                refine c_run (v := .string (str Y)) (w' := w24) rfl (by go_simp) hC24 ?_
                simp only [Act.put, List.setIfInBounds_toArray, List.set_cons_succ, List.set_cons_zero]
                clear s2
                (refine c_pure (v := ?_) (a' := ?_) ?_ ?_ ?_ ?_ ?_)
                rotate_left
                rotate_left
                · assumption
                · exact rfl
                · (intro wq; go_simp; (try go_bits); exact rfl)
                · (simp only [Act.put, List.setIfInBounds_toArray, List.set_cons_succ, List.set_cons_zero, Act.eval, Array.getD_eq_getD_getElem?, List.getElem?_toArray, List.getElem?_cons_succ, List.getElem?_cons_zero, Option.getD_some]; exact rfl)
                (refine c_pure (v := ?_) (a' := ?_) ?_ ?_ ?_ ?_ ?_)
                rotate_left
                rotate_left
                · assumption
                · exact rfl
                · (intro wq; go_simp; (try go_bits); exact rfl)
                · (simp only [Act.put, List.setIfInBounds_toArray, List.set_cons_succ, List.set_cons_zero, Act.eval, Array.getD_eq_getD_getElem?, List.getElem?_toArray, List.getElem?_cons_succ, List.getElem?_cons_zero, Option.getD_some]; exact rfl)
                (refine c_pure (v := ?_) (a' := ?_) ?_ ?_ ?_ ?_ ?_)
                rotate_left
                rotate_left
                · assumption
                · exact rfl
                · (intro wq; go_simp; (try go_bits); exact rfl)
                · (simp only [Act.put, List.setIfInBounds_toArray, List.set_cons_succ, List.set_cons_zero, Act.eval, Array.getD_eq_getD_getElem?, List.getElem?_toArray, List.getElem?_cons_succ, List.getElem?_cons_zero, Option.getD_some]; exact rfl)
                (refine c_call ?_ ?_)
                · exact rfl
                go_simp
                refine entersW_of ?_
                refine (awake17_any w24 (T21.out.below (((Below.refl w21.heap.size w21).drew).trans BD24))).mono ?_
                rintro e w25 ⟨rfl, d25⟩
                refine ⟨_, rfl, hCe _ (BD24.trans (d25.mono BD24.size)), ?_⟩
                try simp only [Act.put, List.setIfInBounds_toArray, List.set_cons_succ, List.set_cons_zero]
                have BD25 := BD24.trans (d25.mono BD24.size)
                have hC25 := hCe _ BD25
                (refine c_pure (v := ?_) (a' := ?_) ?_ ?_ ?_ ?_ ?_)
                rotate_left
                rotate_left
                · assumption
                · exact rfl
                · (intro wq; go_simp; (try go_bits); exact rfl)
                · (simp only [Act.put, List.setIfInBounds_toArray, List.set_cons_succ, List.set_cons_zero, Act.eval, Array.getD_eq_getD_getElem?, List.getElem?_toArray, List.getElem?_cons_succ, List.getElem?_cons_zero, Option.getD_some]; exact rfl)
                (refine c_pure (v := ?_) (a' := ?_) ?_ ?_ ?_ ?_ ?_)
                rotate_left
                rotate_left
                · assumption
                · exact rfl
                · (intro wq; go_simp; (try go_bits); exact rfl)
                · (simp only [Act.put, List.setIfInBounds_toArray, List.set_cons_succ, List.set_cons_zero, Act.eval, Array.getD_eq_getD_getElem?, List.getElem?_toArray, List.getElem?_cons_succ, List.getElem?_cons_zero, Option.getD_some]; exact rfl)
                refine c_nil (hK' _ _ ?_)
                have B25 := Lib.hid (B21.out.drew.trans (BD25.mono B21.out.size))
                clear hK' hC0 hCb hCe o22 d22 rF o23 g23 b23 BD23 hC23 o24 g24 b24 BD24 hC24 hr24 d25 BD25 hC25
                go_wp2
                go_ret
                exact ⟨rfl, B25.out⟩
  · rw [decide_eq_false hs] at sh
    have SH := Lib.hid sh
    clear sh hs
    go_enter Tryd.func9, Tryd.ntmps9
    go_wp2_with fail
    refine SH.out.mono ?_
    rintro e w1 ⟨rfl, d1⟩
    go_wp2
    go_ret
    exact ⟨rfl, B0.out.trans (d1.mono B0.out.size)⟩
end Go.Proofs.YtfdkmjegcghieaaDoor
