/- adiantum: Encipher -/
import Derived.Test.YtfdkmjegcghieaaDoorHj
import Derived.Test.YtfdkmjegcghieaaDoorHk
import Derived.Test.YtfdkmjegcghieaaDoorGh
namespace Go.Proofs.YtfdkmjegcghieaaDoor
open Go.RowKit
set_option linter.unusedSimpArgs false in
set_option maxRecDepth 100000 in
set_option maxHeartbeats 1600000 in
theorem aenc_any (q p : Nat) (key T M : List (BitVec 8)) (a b : Option Addr) (n c len d : Nat) (w : World) (hA : AcAt w q p key) (hkl : key.length = 32) (ht : Rd8 w a n c T) (hM : Rd8 w b len d M) (h16 : 16 ≤ len) (hlen : len ≤ 520) :
    Calls Tryd.prog 31 #[.pointer (some ⟨q, 0, none⟩), .slice a n c, .slice b len d] w fun e w' => ∃ v, e = .returned (.tuple #[v, .int .i64 0]) ∧ Own8 w' w.heap.size 5 v (encA key T M) ∧ Below w.heap.size w w' := by
  have hMl := hM.1
  obtain ⟨kk, ks, hq, hK, hS⟩ := hA
  rw [show sch 8 ((ownA key).take 32) 52 = aesA key from rfl] at hK
  rw [show (ownA key).drop 32 = hashA key from rfl] at hS
  obtain ⟨E, hE⟩ : ∃ E, E = len - 16 := ⟨_, rfl⟩
  obtain ⟨B, hB⟩ : ∃ B, B = bulkA M := ⟨_, rfl⟩
  obtain ⟨R, hR⟩ : ∃ R, R = rightA M := ⟨_, rfl⟩
  have hBl : B.length = E := by rw [hB, bulkA, List.length_take]; omega
  have eB : M.take E = B := by rw [hB, bulkA, hMl, hE]
  have eR : wideN (M.drop E) = R := by rw [hR, rightA, hMl, hE]
  have HP := Lib.hid hq
  have HK := Lib.hid hK
  have HS := Lib.hid hS
  have HT := Lib.hid ht
  have HM := Lib.hid hM
  have HB := Lib.hid hB
  have HR := Lib.hid hR
  have hp := aparts_any M b len d
  rw [← hE, eB, eR] at hp
  have OP := Lib.hid hp
  clear hq hK hS ht hM hB hR hp eB eR hMl
  have hE520 : E ≤ 520 := by omega
  clear hE
  go_enter Tryd.func31, Tryd.ntmps31
  go_wp2_with fail
  refine (awrong_ok q b len d w h16).mono ?_
  rintro e w0 ⟨rfl, rfl⟩
  go_wp2_with fail
  refine (OP.out _ HM.out h16 hlen).mono ?_
  rintro e w1 ⟨a1, c1, rfl, r1, d1⟩
  have N1 := Lib.hid (Blk.new w1 63 (A64 (wl R)))
  have XW : Below w1.heap.size w1 (w1.alloc (.cells (A64 (wl R)) 63)) := (Below.refl w1.heap.size w1).alloc (Nat.le_refl _) _
  have D1' := d1.trans (XW.mono d1.size)
  have A1 := Lib.hid (r1.below XW)
  have P1 := Lib.hid (HP.out.belowAll D1')
  have K1 := Lib.hid (HK.out.below D1')
  have S1 := Lib.hid (HS.out.below D1')
  have T1 := Lib.hid (HT.out.below D1')
  have D1 := Lib.hid D1'
  clear r1 d1 XW D1' OP HM
  go_upto_region 5 with fail
  generalize w1.alloc (.cells (A64 (wl R)) 63) = V at *
  generalize w1.heap.size = g0 at *
  refine wp_region_order [0,0,0,5,0,5,0,0,0,5,0,0,2,2,2,2,3] [0,1,2,3,4,5,6,7,8,9,10,11] [(12, 2, _), (13, 2, _), (14, 2, _), (15, 2, _)] (fun i => if i = 13 then [12] else if i = 14 then [13] else []) [16] [_, _, _, _, _, _, _, _, _, _, _, _] [_] [0,0,0,5,0,5,0,0,0,5,0,0] [3] 4 rfl rfl rfl (by kernel_rfl) (by kernel_rfl) (by kernel_rfl) rfl rfl rfl (fun C0 hC0 hCb hCe K' hK' => ?_)
  have Q1 : ∀ w1, C0 w1 → w1.cell? ⟨q, 32, none⟩ = some (.pointer (some ⟨kk, 0, none⟩)) := fun w1 hw => by rw [(P1.out.drew.belowAll (hCb w1 hw)).cell, ACc_block hkl]
  have Q2 : ∀ w1, C0 w1 → w1.cell? ⟨q, 33, none⟩ = some (.pointer (some ⟨ks, 0, none⟩)) := fun w1 hw => by rw [(P1.out.drew.belowAll (hCb w1 hw)).cell, ACc_sums hkl]
  have Q3 : ∀ w1, C0 w1 → rowAt w1 g0 = A64 (wl R) := fun w1 hw => (N1.out.drew.belowAll (hCb w1 hw)).row
  repeat
    first
      | ((with_reducible refine h_pure (v := ?_) (a' := ?_) ?_ (fun _ => ?_) ?_ ?_); rotate_left; rotate_left; (focus (exact rfl)); (focus (go_simp; (try go_bits); exact rfl)); (focus (simp only [Act.put, List.setIfInBounds_toArray, List.set_cons_succ, List.set_cons_zero, Act.eval, Array.getD_eq_getD_getElem?, List.getElem?_toArray, List.getElem?_cons_succ, List.getElem?_cons_zero, Option.getD_some]; exact rfl)))
      | ((with_reducible refine h_obl (v := ?_) (a' := ?_) ?_ (fun _ hcw => ?_) ?_ ?_); rotate_left; rotate_left; (focus (exact rfl)); (focus (have f1 := Q1 _ hcw; have f2 := Q2 _ hcw; have f3 := Q3 _ hcw; go_simp; (try go_bits); exact rfl)); (focus (simp only [Act.put, List.setIfInBounds_toArray, List.set_cons_succ, List.set_cons_zero, Act.eval, Array.getD_eq_getD_getElem?, List.getElem?_toArray, List.getElem?_cons_succ, List.getElem?_cons_zero, Option.getD_some]; exact rfl)))
      | ((with_reducible refine h_read (v := ?_) (a' := ?_) ?_ (fun _ hbw => ?_) ?_ ?_); rotate_left; rotate_left; (focus (exact rfl)); (focus (skip; go_simp; (try go_bits); exact rfl)); (focus (simp only [Act.put, List.setIfInBounds_toArray, List.set_cons_succ, List.set_cons_zero, Act.eval, Array.getD_eq_getD_getElem?, List.getElem?_toArray, List.getElem?_cons_succ, List.getElem?_cons_zero, Option.getD_some]; exact rfl)))
  refine h_nil ?_
  clear Q1 Q2 Q3
  generalize hAct : Act.mk _ _ = act
  obtain ⟨u, rfl⟩ : ∃ u : Nat → Value, act = { tmps := (fun u : Nat → Value => (Value.pointer (some ⟨q, 0, none⟩) :: Value.slice a n c :: Value.slice b len d :: u 3 :: u 4 :: u 5 :: u 6 :: u 7 :: u 8 :: Value.slice a1 E c1 :: u 10 :: u 11 :: u 12 :: u 13 :: u 14 :: u 15 :: u 16 :: u 17 :: u 18 :: u 19 :: u 20 :: u 21 :: u 22 :: u 23 :: u 24 :: u 25 :: u 26 :: Value.func (Fn.func 20) #[Value.pointer (some ⟨kk, 0, none⟩)] #[] :: Value.agg (A64 (wl R)) :: u 29 :: u 30 :: u 31 :: Value.pointer (some ⟨ks, 0, none⟩) :: Value.slice a n c :: Value.slice a1 E c1 :: u 35 :: u 36 :: u 37 :: u 38 :: u 39 :: u 40 :: u 41 :: u 42 :: u 43 :: u 44 :: u 45 :: u 46 :: u 47 :: u 48 :: u 49 :: u 50 :: u 51 :: u 52 :: []).toArray) u, defers := [] } := by
    subst hAct; exact ex_frame _ rfl
  clear hAct
  have hBle : B.length ≤ 70368744177664 := by omega
  obtain ⟨SB, hSB⟩ : ∃ z, z = sumN (hashA key) T B := ⟨_, rfl⟩
  obtain ⟨PL, hPL⟩ : ∃ z, z = addW2 R SB := ⟨_, rfl⟩
  obtain ⟨MID, hMID⟩ : ∃ z, z = wideN (encS (aesA key) 15 (bytesW PL)) := ⟨_, rfl⟩
  have HSB := Lib.hid hSB
  have HPL := Lib.hid hPL
  have HMID := Lib.hid hMID
  clear hSB hPL hMID
  obtain ⟨St, hSt⟩ : ∃ St : Nat → Bool → Act → World → Prop, ∀ k fr a' w', St k fr a' w' ↔ (∃ x35 x36 x37 x11 : Value, a' = { tmps := (Value.pointer (some ⟨q, 0, none⟩) :: Value.slice a n c :: Value.slice b len d :: u 3 :: u 4 :: u 5 :: u 6 :: u 7 :: u 8 :: Value.slice a1 E c1 :: u 10 :: x11 :: u 12 :: u 13 :: u 14 :: u 15 :: u 16 :: u 17 :: u 18 :: u 19 :: u 20 :: u 21 :: u 22 :: u 23 :: u 24 :: u 25 :: u 26 :: Value.func (Fn.func 20) #[Value.pointer (some ⟨kk, 0, none⟩)] #[] :: Value.agg (A64 (wl R)) :: u 29 :: u 30 :: u 31 :: Value.pointer (some ⟨ks, 0, none⟩) :: Value.slice a n c :: Value.slice a1 E c1 :: x35 :: x36 :: x37 :: u 38 :: u 39 :: u 40 :: u 41 :: u 42 :: u 43 :: u 44 :: u 45 :: u 46 :: u 47 :: u 48 :: u 49 :: u 50 :: u 51 :: u 52 :: []).toArray, defers := [] } ∧ Below V.drew.heap.size V.drew w' ∧ (1 ≤ k → x35 = .agg (A64 (wl SB))) ∧ (2 ≤ k → x36 = .agg (A64 (wl PL))) ∧ (3 ≤ k → x37 = .agg (A64 (wl MID))) ∧ (fr = true → ∃ g, x11 = .pointer (some ⟨g, 0, none⟩) ∧ V.heap.size ≤ g ∧ Blk w' g 63 (A64 (zeros 64 2)))) := ⟨_, fun _ _ _ _ => Iff.rfl⟩
  refine permHO_chain (St := St) [_, _, _] _ 0 ⟨?s1, ?s2, ?s3, trivial⟩ ?hf ?hch ?hnd ?hR _ _ ?h0
  case h0 => exact (hSt _ _ _ _).2 ⟨_, _, _, _, rfl, Below.refl _ _, fun h => by omega, fun h => by omega, fun h => by omega, fun h => by cases h⟩
  case hch => exact ⟨by decide, by decide, trivial⟩
  case hnd => decide
  case s1 =>
    intro fr a3 w3 hs
    obtain ⟨x35, x36, x37, x11, rfl, D3, h1, h2, h3, hf⟩ := (hSt _ _ _ _).1 hs
    clear hs
    refine opH_of_wpH ?_
    (with_reducible refine h_call ?_ ?_)
    · exact rfl
    go_simp
    refine entersW_of ?_
    refine (asum_any ks (hashA key) T B a n c a1 E c1 w3 ((show AdK V.drew ks (hashA key) from S1.out).below D3) (T1.out.drew.below D3) (A1.out.drew.below D3) (by omega)).mono ?_
    rintro e w4 ⟨rfl, d4⟩
    refine ⟨_, rfl, d4, ?_⟩
    try simp only [Act.put, List.setIfInBounds_toArray, List.set_cons_succ, List.set_cons_zero]
    rw [← HSB.out]
    refine h_nil ((hSt _ _ _ _).2 ⟨_, _, _, _, rfl, D3.trans (d4.mono D3.size), fun _ => rfl, fun h => by omega, fun h => by omega, fun e => ?_⟩)
    obtain ⟨g, e1, e2, e3⟩ := hf e
    exact ⟨g, e1, e2, e3.belowAll d4⟩
  case s2 =>
    intro fr a3 w3 hs
    obtain ⟨x35, x36, x37, x11, rfl, D3, h1, h2, h3, hf⟩ := (hSt _ _ _ _).1 hs
    clear hs
    obtain rfl := h1 (by omega)
    refine opH_of_wpH ?_
    (with_reducible refine h_call ?_ ?_)
    · exact rfl
    go_simp
    refine entersW_of ?_
    refine (wadd64_any R SB w3).mono ?_
    rintro e w4 ⟨rfl, d4⟩
    refine ⟨_, rfl, d4, ?_⟩
    try simp only [Act.put, List.setIfInBounds_toArray, List.set_cons_succ, List.set_cons_zero]
    rw [← HPL.out]
    refine h_nil ((hSt _ _ _ _).2 ⟨_, _, _, _, rfl, D3.trans (d4.mono D3.size), fun _ => rfl, fun _ => rfl, fun h => by omega, fun e => ?_⟩)
    obtain ⟨g, e1, e2, e3⟩ := hf e
    exact ⟨g, e1, e2, e3.belowAll d4⟩
  case s3 =>
    intro fr a3 w3 hs
    obtain ⟨x35, x36, x37, x11, rfl, D3, h1, h2, h3, hf⟩ := (hSt _ _ _ _).1 hs
    clear hs
    obtain rfl := h1 (by omega)
    obtain rfl := h2 (by omega)
    refine opH_of_wpH ?_
    (with_reducible refine h_call ?_ ?_)
    · exact rfl
    go_simp
    refine entersW_of ?_
    refine (enum_any kk p 15 (aesA key) PL w3 (K1.out.drew.below D3) (by omega) (by omega)).mono ?_
    rintro e w4 ⟨rfl, d4⟩
    refine ⟨_, rfl, d4, ?_⟩
    try simp only [Act.put, List.setIfInBounds_toArray, List.set_cons_succ, List.set_cons_zero]
    rw [← HMID.out]
    refine h_nil ((hSt _ _ _ _).2 ⟨_, _, _, _, rfl, D3.trans (d4.mono D3.size), fun _ => rfl, fun _ => rfl, fun _ => rfl, fun e => ?_⟩)
    obtain ⟨g, e1, e2, e3⟩ := hf e
    exact ⟨g, e1, e2, e3.belowAll d4⟩
  case hf =>
    intro j hj a3 w3 hs
    obtain ⟨x35, x36, x37, x11, rfl, D3, h1, h2, h3, hf⟩ := (hSt _ _ _ _).1 hs
    clear hs
    refine opH_of_wpH ?_
    obtain ⟨u3, eu3⟩ : ∃ u, w3.alloc (.cells (A64 (zeros 64 2)) 63) = u := ⟨_, rfl⟩
    obtain ⟨bf, du, zu⟩ := new1 _ _ _ _ eu3
    obtain ⟨pf, hpf⟩ : ∃ g, g = w3.heap.size := ⟨_, rfl⟩
    refine h_made (v := .pointer (some ⟨pf, 0, none⟩)) (w' := u3) rfl (by rw [hpf]; go_simp; exact eu3) du ?_
    simp only [Act.put, List.setIfInBounds_toArray, List.set_cons_succ, List.set_cons_zero]
    rw [← hpf] at bf
    exact h_nil ((hSt _ _ _ _).2 ⟨_, _, _, _, rfl, D3.trans (du.mono D3.size), h1, h2, h3, fun _ => ⟨pf, rfl, by rw [hpf]; exact D3.size, bf⟩⟩)
  case hR =>
    intro a3 w3 hs
    obtain ⟨x35, x36, x37, x11, rfl, D3, h1, h2, h3, hf⟩ := (hSt _ _ _ _).1 hs
    clear hs
    obtain rfl := h3 (by decide)
    obtain ⟨g, rfl, hg, bg⟩ := hf rfl
    refine c_act ?_
    refine z_storeRow bg rfl rfl rfl (A64_ones _) (Tryd.sizeOf63 _) (fun w4 k4 g4 s4 => ?_)
    have BD := D3.trans (grown_below g4 hg D3.size)
    refine z_nil ⟨hCe _ BD, ?_⟩
    refine c_nil (hK' _ _ ?_)
    have E4 : Below V.heap.size V w4 := ((Below.refl V.heap.size V).drew).trans BD
    have K4 := Lib.hid k4
    have P4 := Lib.hid (P1.out.belowAll E4)
    have S4 := Lib.hid (S1.out.below E4)
    have T4 := Lib.hid (T1.out.below E4)
    have A4 := Lib.hid (A1.out.below E4)
    have D4 := Lib.hid (D1.out.trans (E4.mono D1.out.size))
    have hr4 := k4.row
    clear hK' hC0 hCb hCe BD D3 h1 h2 h3 hf bg g4 s4 k4 E4 hSt N1 P1 K1 S1 T1 A1 D1 HK
    obtain ⟨OUT, hOUT⟩ : ∃ z, z = cryptOf key (nonceW MID) 12 B := ⟨_, rfl⟩
    have hOl : OUT.length = E := by rw [hOUT]; simp [cryptOf, streamOf, hBl]
    have HOUT := Lib.hid hOUT
    clear hOUT
    go_wp2_with fail
    refine (astream_any q key _ _ MID B a1 E c1 w4 hkl P4.out A4.out (by omega)).mono ?_
    rintro e w5 ⟨v5, rfl, o5, d5⟩
    rw [← HOUT.out] at o5
    obtain ⟨a5, c5, rfl, r5, _⟩ := o5.rd
    rw [hOl] at r5 ⊢
    have K5 := Lib.hid (K4.out.belowAll d5)
    have P5 := Lib.hid (P4.out.belowAll d5)
    have S5 := Lib.hid (S4.out.below d5)
    have T5 := Lib.hid (T4.out.below d5)
    have D5 := Lib.hid (D4.out.trans (d5.mono D4.out.size))
    have R5 := Lib.hid r5
    clear o5 r5 d5 hr4 K4 P4 S4 T4 A4 D4
    go_upto_region 7 with fail
    obtain ⟨SO, hSO⟩ : ∃ z, z = sumN (hashA key) T OUT := ⟨_, rfl⟩
    obtain ⟨DF, hDF⟩ : ∃ z, z = subW2 MID SO := ⟨_, rfl⟩
    have HSO := Lib.hid hSO
    have HDF := Lib.hid hDF
    clear hSO hDF
    refine wp_region_tail [0,5,0,0,0,5,0,0,2,2,2,0,0] (by kernel_rfl) (by kernel_rfl) (fun C0 hC0 hCb K' hK' => ?_)
    have Q2 : ∀ w1, C0 w1 → w1.cell? ⟨q, 33, none⟩ = some (.pointer (some ⟨ks, 0, none⟩)) := fun w1 hw => by rw [(P5.out.drew.belowAll (hCb w1 hw)).cell, ACc_sums hkl]
    have Q3 : ∀ w1, C0 w1 → rowAt w1 g = A64 (wl MID) := fun w1 hw => (K5.out.drew.belowAll (hCb w1 hw)).row
    repeat
      first
        | ((with_reducible refine h_pure (v := ?_) (a' := ?_) ?_ (fun _ => ?_) ?_ ?_); rotate_left; rotate_left; (focus (exact rfl)); (focus (go_simp; (try go_bits); exact rfl)); (focus (simp only [Act.put, List.setIfInBounds_toArray, List.set_cons_succ, List.set_cons_zero, Act.eval, Array.getD_eq_getD_getElem?, List.getElem?_toArray, List.getElem?_cons_succ, List.getElem?_cons_zero, Option.getD_some]; exact rfl)))
        | ((with_reducible refine h_obl (v := ?_) (a' := ?_) ?_ (fun _ hcw => ?_) ?_ ?_); rotate_left; rotate_left; (focus (exact rfl)); (focus (have f2 := Q2 _ hcw; have f3 := Q3 _ hcw; go_simp; (try go_bits); exact rfl)); (focus (simp only [Act.put, List.setIfInBounds_toArray, List.set_cons_succ, List.set_cons_zero, Act.eval, Array.getD_eq_getD_getElem?, List.getElem?_toArray, List.getElem?_cons_succ, List.getElem?_cons_zero, Option.getD_some]; exact rfl)))
        | ((with_reducible refine h_read (v := ?_) (a' := ?_) ?_ (fun _ hbw => ?_) ?_ ?_); rotate_left; rotate_left; (focus (exact rfl)); (focus (skip; go_simp; (try go_bits); exact rfl)); (focus (simp only [Act.put, List.setIfInBounds_toArray, List.set_cons_succ, List.set_cons_zero, Act.eval, Array.getD_eq_getD_getElem?, List.getElem?_toArray, List.getElem?_cons_succ, List.getElem?_cons_zero, Option.getD_some]; exact rfl)))
    (with_reducible refine h_call ?_ ?_)
    · exact rfl
    go_simp
    refine entersW_of ?_
    refine (asum_any ks (hashA key) T OUT a n c a5 E c5 w5.drew (show AdK w5.drew ks (hashA key) from S5.out) T5.out.drew R5.out.drew (by omega)).mono ?_
    rintro e w6 ⟨rfl, d6⟩
    refine ⟨_, rfl, d6, ?_⟩
    try simp only [Act.put, List.setIfInBounds_toArray, List.set_cons_succ, List.set_cons_zero]
    rw [← HSO.out]
    (with_reducible refine h_call ?_ ?_)
    · exact rfl
    go_simp
    refine entersW_of ?_
    refine (wsub64_any MID SO w6).mono ?_
    rintro e w7 ⟨rfl, d7⟩
    refine ⟨_, rfl, d7, ?_⟩
    try simp only [Act.put, List.setIfInBounds_toArray, List.set_cons_succ, List.set_cons_zero]
    rw [← HDF.out]
    have d67 := d6.trans (d7.mono d6.size)
    (with_reducible refine h_call ?_ ?_)
    · exact rfl
    go_simp
    refine entersW_of ?_
    refine (ajoined_any OUT a5 E c5 DF w7 (R5.out.drew.below d67) (by omega)).mono ?_
    rintro e w8 ⟨v8_, rfl, o8, d8⟩
    refine ⟨_, rfl, d8, ?_⟩
    try simp only [Act.put, List.setIfInBounds_toArray, List.set_cons_succ, List.set_cons_zero]
    have d68 := d67.trans (d8.mono d67.size)
    have B8 := D5.out.drew.trans (d68.mono D5.out.drew.size)
    have o9 := Own8.base o8 (Nat.le_trans D5.out.drew.size d67.size)
    have hres : OUT ++ bytesW DF = encA key T M := by
      rw [encA, joinA, ← HB.out, show midE key T M = MID by rw [midE, HMID.out, HPL.out, HSB.out, HR.out, HB.out], ← HOUT.out, HDF.out, HSO.out]
    rw [hres] at o9
    have O9 := Lib.hid o9
    have B9 := Lib.hid B8
    clear o8 o9 d8 d68 d67 d7 d6 B8 hres
    repeat
      first
        | ((with_reducible refine h_pure (v := ?_) (a' := ?_) ?_ (fun _ => ?_) ?_ ?_); rotate_left; rotate_left; (focus (exact rfl)); (focus (go_simp; (try go_bits); exact rfl)); (focus (simp only [Act.put, List.setIfInBounds_toArray, List.set_cons_succ, List.set_cons_zero, Act.eval, Array.getD_eq_getD_getElem?, List.getElem?_toArray, List.getElem?_cons_succ, List.getElem?_cons_zero, Option.getD_some]; exact rfl)))
        | ((with_reducible refine h_obl (v := ?_) (a' := ?_) ?_ (fun _ hcw => ?_) ?_ ?_); rotate_left; rotate_left; (focus (exact rfl)); (focus (have f2 := Q2 _ hcw; have f3 := Q3 _ hcw; go_simp; (try go_bits); exact rfl)); (focus (simp only [Act.put, List.setIfInBounds_toArray, List.set_cons_succ, List.set_cons_zero, Act.eval, Array.getD_eq_getD_getElem?, List.getElem?_toArray, List.getElem?_cons_succ, List.getElem?_cons_zero, Option.getD_some]; exact rfl)))
        | ((with_reducible refine h_read (v := ?_) (a' := ?_) ?_ (fun _ hbw => ?_) ?_ ?_); rotate_left; rotate_left; (focus (exact rfl)); (focus (skip; go_simp; (try go_bits); exact rfl)); (focus (simp only [Act.put, List.setIfInBounds_toArray, List.set_cons_succ, List.set_cons_zero, Act.eval, Array.getD_eq_getD_getElem?, List.getElem?_toArray, List.getElem?_cons_succ, List.getElem?_cons_zero, Option.getD_some]; exact rfl)))
    refine h_nil (hK' _ _ ?_)
    clear Q2 Q3 hK' hCb hC0
    go_wp2
    go_ret2
    exact ⟨v8_, rfl, O9.out, B9.out⟩
end Go.Proofs.YtfdkmjegcghieaaDoor
/- adiantum: Decipher -/
namespace Go.Proofs.YtfdkmjegcghieaaDoor
open Go.RowKit
set_option linter.unusedSimpArgs false in
set_option maxRecDepth 100000 in
set_option maxHeartbeats 1600000 in
theorem adec_any (q p : Nat) (key T M : List (BitVec 8)) (a b : Option Addr) (n c len d : Nat) (w : World) (hA : AcAt w q p key) (hkl : key.length = 32) (ht : Rd8 w a n c T) (hM : Rd8 w b len d M) (h16 : 16 ≤ len) (hlen : len ≤ 520) :
    Calls Tryd.prog 42 #[.pointer (some ⟨q, 0, none⟩), .slice a n c, .slice b len d] w fun e w' => ∃ v, e = .returned (.tuple #[v, .int .i64 0]) ∧ Own8 w' w.heap.size 5 v (decA key T M) ∧ Below w.heap.size w w' := by
  have hMl := hM.1
  obtain ⟨kk, ks, hq, hK, hS⟩ := hA
  rw [show sch 8 ((ownA key).take 32) 52 = aesA key from rfl] at hK
  rw [show (ownA key).drop 32 = hashA key from rfl] at hS
  obtain ⟨E, hE⟩ : ∃ E, E = len - 16 := ⟨_, rfl⟩
  obtain ⟨B, hB⟩ : ∃ B, B = bulkA M := ⟨_, rfl⟩
  obtain ⟨R, hR⟩ : ∃ R, R = rightA M := ⟨_, rfl⟩
  have hBl : B.length = E := by rw [hB, bulkA, List.length_take]; omega
  have eB : M.take E = B := by rw [hB, bulkA, hMl, hE]
  have eR : wideN (M.drop E) = R := by rw [hR, rightA, hMl, hE]
  have HP := Lib.hid hq
  have HK := Lib.hid hK
  have HS := Lib.hid hS
  have HT := Lib.hid ht
  have HM := Lib.hid hM
  have HB := Lib.hid hB
  have HR := Lib.hid hR
  have hp := aparts_any M b len d
  rw [← hE, eB, eR] at hp
  have OP := Lib.hid hp
  clear hq hK hS ht hM hB hR hp eB eR hMl
  have hE520 : E ≤ 520 := by omega
  clear hE
  go_enter Tryd.func42, Tryd.ntmps42
  go_wp2_with fail
  refine (awrong_ok q b len d w h16).mono ?_
  rintro e w0 ⟨rfl, rfl⟩
  go_wp2_with fail
  refine (OP.out _ HM.out h16 hlen).mono ?_
  rintro e w1 ⟨a1, c1, rfl, r1, d1⟩
  have N1 := Lib.hid (Blk.new w1 63 (A64 (wl R)))
  have XW : Below w1.heap.size w1 (w1.alloc (.cells (A64 (wl R)) 63)) := (Below.refl w1.heap.size w1).alloc (Nat.le_refl _) _
  have D1' := d1.trans (XW.mono d1.size)
  have A1 := Lib.hid (r1.below XW)
  have P1 := Lib.hid (HP.out.belowAll D1')
  have K1 := Lib.hid (HK.out.below D1')
  have S1 := Lib.hid (HS.out.below D1')
  have T1 := Lib.hid (HT.out.below D1')
  have D1 := Lib.hid D1'
  clear r1 d1 XW D1' OP HM
  go_upto_region 5 with fail
  generalize w1.alloc (.cells (A64 (wl R)) 63) = V at *
  generalize w1.heap.size = g0 at *
  refine wp_region_order [5,0,0,0,5,0,0,2,2,2,3] [0,1,2,3,4,5,6] [(7, 2, _), (8, 2, _), (9, 2, _)] (fun i => if i = 8 then [7] else []) [10] [_, _, _, _, _, _, _] [_] [5,0,0,0,5,0,0] [3] 3 rfl rfl rfl (by kernel_rfl) (by kernel_rfl) (by kernel_rfl) rfl rfl rfl (fun C0 hC0 hCb hCe K' hK' => ?_)
  have Q2 : ∀ w1, C0 w1 → w1.cell? ⟨q, 33, none⟩ = some (.pointer (some ⟨ks, 0, none⟩)) := fun w1 hw => by rw [(P1.out.drew.belowAll (hCb w1 hw)).cell, ACc_sums hkl]
  have Q3 : ∀ w1, C0 w1 → rowAt w1 g0 = A64 (wl R) := fun w1 hw => (N1.out.drew.belowAll (hCb w1 hw)).row
  repeat
    first
      | ((with_reducible refine h_pure (v := ?_) (a' := ?_) ?_ (fun _ => ?_) ?_ ?_); rotate_left; rotate_left; (focus (exact rfl)); (focus (go_simp; (try go_bits); exact rfl)); (focus (simp only [Act.put, List.setIfInBounds_toArray, List.set_cons_succ, List.set_cons_zero, Act.eval, Array.getD_eq_getD_getElem?, List.getElem?_toArray, List.getElem?_cons_succ, List.getElem?_cons_zero, Option.getD_some]; exact rfl)))
      | ((with_reducible refine h_obl (v := ?_) (a' := ?_) ?_ (fun _ hcw => ?_) ?_ ?_); rotate_left; rotate_left; (focus (exact rfl)); (focus (have f2 := Q2 _ hcw; have f3 := Q3 _ hcw; go_simp; (try go_bits); exact rfl)); (focus (simp only [Act.put, List.setIfInBounds_toArray, List.set_cons_succ, List.set_cons_zero, Act.eval, Array.getD_eq_getD_getElem?, List.getElem?_toArray, List.getElem?_cons_succ, List.getElem?_cons_zero, Option.getD_some]; exact rfl)))
      | ((with_reducible refine h_read (v := ?_) (a' := ?_) ?_ (fun _ hbw => ?_) ?_ ?_); rotate_left; rotate_left; (focus (exact rfl)); (focus (skip; go_simp; (try go_bits); exact rfl)); (focus (simp only [Act.put, List.setIfInBounds_toArray, List.set_cons_succ, List.set_cons_zero, Act.eval, Array.getD_eq_getD_getElem?, List.getElem?_toArray, List.getElem?_cons_succ, List.getElem?_cons_zero, Option.getD_some]; exact rfl)))
  refine h_nil ?_
  clear Q2 Q3
  generalize hAct : Act.mk _ _ = act
  obtain ⟨u, rfl⟩ : ∃ u : Nat → Value, act = { tmps := (fun u : Nat → Value => (Value.pointer (some ⟨q, 0, none⟩) :: Value.slice a n c :: Value.slice b len d :: u 3 :: u 4 :: u 5 :: u 6 :: u 7 :: u 8 :: Value.slice a1 E c1 :: u 10 :: u 11 :: u 12 :: u 13 :: u 14 :: u 15 :: u 16 :: u 17 :: u 18 :: u 19 :: u 20 :: u 21 :: u 22 :: Value.agg (A64 (wl R)) :: u 24 :: u 25 :: u 26 :: Value.pointer (some ⟨ks, 0, none⟩) :: Value.slice a n c :: Value.slice a1 E c1 :: u 30 :: u 31 :: u 32 :: u 33 :: u 34 :: u 35 :: u 36 :: u 37 :: u 38 :: u 39 :: u 40 :: u 41 :: u 42 :: u 43 :: u 44 :: u 45 :: u 46 :: u 47 :: u 48 :: u 49 :: u 50 :: u 51 :: u 52 :: []).toArray) u, defers := [] } := by
    subst hAct; exact ex_frame _ rfl
  clear hAct
  have hBle : B.length ≤ 70368744177664 := by omega
  obtain ⟨SB, hSB⟩ : ∃ z, z = sumN (hashA key) T B := ⟨_, rfl⟩
  obtain ⟨MID, hMID⟩ : ∃ z, z = addW2 R SB := ⟨_, rfl⟩
  have HSB := Lib.hid hSB
  have HMID := Lib.hid hMID
  clear hSB hMID
  obtain ⟨St, hSt⟩ : ∃ St : Nat → Bool → Act → World → Prop, ∀ k fr a' w', St k fr a' w' ↔ (∃ x30 x31 x11 : Value, a' = { tmps := (Value.pointer (some ⟨q, 0, none⟩) :: Value.slice a n c :: Value.slice b len d :: u 3 :: u 4 :: u 5 :: u 6 :: u 7 :: u 8 :: Value.slice a1 E c1 :: u 10 :: x11 :: u 12 :: u 13 :: u 14 :: u 15 :: u 16 :: u 17 :: u 18 :: u 19 :: u 20 :: u 21 :: u 22 :: Value.agg (A64 (wl R)) :: u 24 :: u 25 :: u 26 :: Value.pointer (some ⟨ks, 0, none⟩) :: Value.slice a n c :: Value.slice a1 E c1 :: x30 :: x31 :: u 32 :: u 33 :: u 34 :: u 35 :: u 36 :: u 37 :: u 38 :: u 39 :: u 40 :: u 41 :: u 42 :: u 43 :: u 44 :: u 45 :: u 46 :: u 47 :: u 48 :: u 49 :: u 50 :: u 51 :: u 52 :: []).toArray, defers := [] } ∧ Below V.drew.heap.size V.drew w' ∧ (1 ≤ k → x30 = .agg (A64 (wl SB))) ∧ (2 ≤ k → x31 = .agg (A64 (wl MID))) ∧ (fr = true → ∃ g, x11 = .pointer (some ⟨g, 0, none⟩) ∧ V.heap.size ≤ g ∧ Blk w' g 63 (A64 (zeros 64 2)))) := ⟨_, fun _ _ _ _ => Iff.rfl⟩
  refine permHO_chain (St := St) [_, _] _ 0 ⟨?s1, ?s2, trivial⟩ ?hf ?hch ?hnd ?hR _ _ ?h0
  case h0 => exact (hSt _ _ _ _).2 ⟨_, _, _, rfl, Below.refl _ _, fun h => by omega, fun h => by omega, fun h => by cases h⟩
  case hch => exact ⟨by decide, trivial⟩
  case hnd => decide
  case s1 =>
    intro fr a3 w3 hs
    obtain ⟨x30, x31, x11, rfl, D3, h1, h2, hf⟩ := (hSt _ _ _ _).1 hs
    clear hs
    refine opH_of_wpH ?_
    (with_reducible refine h_call ?_ ?_)
    · exact rfl
    go_simp
    refine entersW_of ?_
    refine (asum_any ks (hashA key) T B a n c a1 E c1 w3 ((show AdK V.drew ks (hashA key) from S1.out).below D3) (T1.out.drew.below D3) (A1.out.drew.below D3) (by omega)).mono ?_
    rintro e w4 ⟨rfl, d4⟩
    refine ⟨_, rfl, d4, ?_⟩
    try simp only [Act.put, List.setIfInBounds_toArray, List.set_cons_succ, List.set_cons_zero]
    rw [← HSB.out]
    refine h_nil ((hSt _ _ _ _).2 ⟨_, _, _, rfl, D3.trans (d4.mono D3.size), fun _ => rfl, fun h => by omega, fun e => ?_⟩)
    obtain ⟨g, e1, e2, e3⟩ := hf e
    exact ⟨g, e1, e2, e3.belowAll d4⟩
  case s2 =>
    intro fr a3 w3 hs
    obtain ⟨x30, x31, x11, rfl, D3, h1, h2, hf⟩ := (hSt _ _ _ _).1 hs
    clear hs
    obtain rfl := h1 (by omega)
    refine opH_of_wpH ?_
    (with_reducible refine h_call ?_ ?_)
    · exact rfl
    go_simp
    refine entersW_of ?_
    refine (wadd64_any R SB w3).mono ?_
    rintro e w4 ⟨rfl, d4⟩
    refine ⟨_, rfl, d4, ?_⟩
    try simp only [Act.put, List.setIfInBounds_toArray, List.set_cons_succ, List.set_cons_zero]
    rw [← HMID.out]
    refine h_nil ((hSt _ _ _ _).2 ⟨_, _, _, rfl, D3.trans (d4.mono D3.size), fun _ => rfl, fun _ => rfl, fun e => ?_⟩)
    obtain ⟨g, e1, e2, e3⟩ := hf e
    exact ⟨g, e1, e2, e3.belowAll d4⟩
  case hf =>
    intro j hj a3 w3 hs
    obtain ⟨x30, x31, x11, rfl, D3, h1, h2, hf⟩ := (hSt _ _ _ _).1 hs
    clear hs
    refine opH_of_wpH ?_
    obtain ⟨u3, eu3⟩ : ∃ u, w3.alloc (.cells (A64 (zeros 64 2)) 63) = u := ⟨_, rfl⟩
    obtain ⟨bf, du, zu⟩ := new1 _ _ _ _ eu3
    obtain ⟨pf, hpf⟩ : ∃ g, g = w3.heap.size := ⟨_, rfl⟩
    refine h_made (v := .pointer (some ⟨pf, 0, none⟩)) (w' := u3) rfl (by rw [hpf]; go_simp; exact eu3) du ?_
    simp only [Act.put, List.setIfInBounds_toArray, List.set_cons_succ, List.set_cons_zero]
    rw [← hpf] at bf
    exact h_nil ((hSt _ _ _ _).2 ⟨_, _, _, rfl, D3.trans (du.mono D3.size), h1, h2, fun _ => ⟨pf, rfl, by rw [hpf]; exact D3.size, bf⟩⟩)
  case hR =>
    intro a3 w3 hs
    obtain ⟨x30, x31, x11, rfl, D3, h1, h2, hf⟩ := (hSt _ _ _ _).1 hs
    clear hs
    obtain rfl := h2 (by decide)
    obtain ⟨g, rfl, hg, bg⟩ := hf rfl
    refine c_act ?_
    refine z_storeRow bg rfl rfl rfl (A64_ones _) (Tryd.sizeOf63 _) (fun w4 k4 g4 s4 => ?_)
    have BD := D3.trans (grown_below g4 hg D3.size)
    refine z_nil ⟨hCe _ BD, ?_⟩
    refine c_nil (hK' _ _ ?_)
    have E4 : Below V.heap.size V w4 := ((Below.refl V.heap.size V).drew).trans BD
    have K4 := Lib.hid k4
    have P4 := Lib.hid (P1.out.belowAll E4)
    have S4 := Lib.hid (S1.out.below E4)
    have T4 := Lib.hid (T1.out.below E4)
    have A4 := Lib.hid (A1.out.below E4)
    have D4 := Lib.hid (D1.out.trans (E4.mono D1.out.size))
    have hr4 := k4.row
    have KK4 := Lib.hid (K1.out.below E4)
    clear hK' hC0 hCb hCe BD D3 h1 h2 hf bg g4 s4 k4 E4 hSt N1 P1 K1 S1 T1 A1 D1 HK
    obtain ⟨OUT, hOUT⟩ : ∃ z, z = cryptOf key (nonceW MID) 12 B := ⟨_, rfl⟩
    have hOl : OUT.length = E := by rw [hOUT]; simp [cryptOf, streamOf, hBl]
    have HOUT := Lib.hid hOUT
    clear hOUT
    go_wp2_with fail
    refine (astream_any q key _ _ MID B a1 E c1 w4 hkl P4.out A4.out (by omega)).mono ?_
    rintro e w5 ⟨v5, rfl, o5, d5⟩
    rw [← HOUT.out] at o5
    obtain ⟨a5, c5, rfl, r5, _⟩ := o5.rd
    rw [hOl] at r5 ⊢
    have K5 := Lib.hid (K4.out.belowAll d5)
    have KK5 := Lib.hid (KK4.out.below d5)
    have P5 := Lib.hid (P4.out.belowAll d5)
    have S5 := Lib.hid (S4.out.below d5)
    have T5 := Lib.hid (T4.out.below d5)
    have D5 := Lib.hid (D4.out.trans (d5.mono D4.out.size))
    have R5 := Lib.hid r5
    clear o5 r5 d5 hr4 K4 KK4 P4 S4 T4 A4 D4
    go_upto_region 7 with fail
    obtain ⟨SO, hSO⟩ : ∃ z, z = sumN (hashA key) T OUT := ⟨_, rfl⟩
    obtain ⟨PL, hPL⟩ : ∃ z, z = wideN (decS (aesA key) 15 (bytesW MID)) := ⟨_, rfl⟩
    obtain ⟨DF, hDF⟩ : ∃ z, z = subW2 PL SO := ⟨_, rfl⟩
    have HSO := Lib.hid hSO
    have HPL := Lib.hid hPL
    have HDF := Lib.hid hDF
    clear hSO hPL hDF
    refine wp_region_tail [0,0,0,0,5,0,5,2,0,0,0,5,0,0,2,2,2,0,0] (by kernel_rfl) (by kernel_rfl) (fun C0 hC0 hCb K' hK' => ?_)
    have Q1 : ∀ w1, C0 w1 → w1.cell? ⟨q, 32, none⟩ = some (.pointer (some ⟨kk, 0, none⟩)) := fun w1 hw => by rw [(P5.out.drew.belowAll (hCb w1 hw)).cell, ACc_block hkl]
    have Q2 : ∀ w1, C0 w1 → w1.cell? ⟨q, 33, none⟩ = some (.pointer (some ⟨ks, 0, none⟩)) := fun w1 hw => by rw [(P5.out.drew.belowAll (hCb w1 hw)).cell, ACc_sums hkl]
    have Q3 : ∀ w1, C0 w1 → rowAt w1 g = A64 (wl MID) := fun w1 hw => (K5.out.drew.belowAll (hCb w1 hw)).row
    repeat
      first
        | ((with_reducible refine h_pure (v := ?_) (a' := ?_) ?_ (fun _ => ?_) ?_ ?_); rotate_left; rotate_left; (focus (exact rfl)); (focus (go_simp; (try go_bits); exact rfl)); (focus (simp only [Act.put, List.setIfInBounds_toArray, List.set_cons_succ, List.set_cons_zero, Act.eval, Array.getD_eq_getD_getElem?, List.getElem?_toArray, List.getElem?_cons_succ, List.getElem?_cons_zero, Option.getD_some]; exact rfl)))
        | ((with_reducible refine h_obl (v := ?_) (a' := ?_) ?_ (fun _ hcw => ?_) ?_ ?_); rotate_left; rotate_left; (focus (exact rfl)); (focus (have f1 := Q1 _ hcw; have f2 := Q2 _ hcw; have f3 := Q3 _ hcw; go_simp; (try go_bits); exact rfl)); (focus (simp only [Act.put, List.setIfInBounds_toArray, List.set_cons_succ, List.set_cons_zero, Act.eval, Array.getD_eq_getD_getElem?, List.getElem?_toArray, List.getElem?_cons_succ, List.getElem?_cons_zero, Option.getD_some]; exact rfl)))
        | ((with_reducible refine h_read (v := ?_) (a' := ?_) ?_ (fun _ hbw => ?_) ?_ ?_); rotate_left; rotate_left; (focus (exact rfl)); (focus (skip; go_simp; (try go_bits); exact rfl)); (focus (simp only [Act.put, List.setIfInBounds_toArray, List.set_cons_succ, List.set_cons_zero, Act.eval, Array.getD_eq_getD_getElem?, List.getElem?_toArray, List.getElem?_cons_succ, List.getElem?_cons_zero, Option.getD_some]; exact rfl)))
    (with_reducible refine h_call ?_ ?_)
    · exact rfl
    go_simp
    refine entersW_of ?_
    refine (dnum_any kk p 15 (aesA key) MID w5.drew KK5.out.drew (by omega) (by omega)).mono ?_
    rintro e w55 ⟨rfl, d55⟩
    refine ⟨_, rfl, d55, ?_⟩
    try simp only [Act.put, List.setIfInBounds_toArray, List.set_cons_succ, List.set_cons_zero]
    rw [← HPL.out]
    repeat
      first
        | ((with_reducible refine h_pure (v := ?_) (a' := ?_) ?_ (fun _ => ?_) ?_ ?_); rotate_left; rotate_left; (focus (exact rfl)); (focus (go_simp; (try go_bits); exact rfl)); (focus (simp only [Act.put, List.setIfInBounds_toArray, List.set_cons_succ, List.set_cons_zero, Act.eval, Array.getD_eq_getD_getElem?, List.getElem?_toArray, List.getElem?_cons_succ, List.getElem?_cons_zero, Option.getD_some]; exact rfl)))
        | ((with_reducible refine h_obl (v := ?_) (a' := ?_) ?_ (fun _ hcw => ?_) ?_ ?_); rotate_left; rotate_left; (focus (exact rfl)); (focus (have f1 := Q1 _ hcw; have f2 := Q2 _ hcw; have f3 := Q3 _ hcw; go_simp; (try go_bits); exact rfl)); (focus (simp only [Act.put, List.setIfInBounds_toArray, List.set_cons_succ, List.set_cons_zero, Act.eval, Array.getD_eq_getD_getElem?, List.getElem?_toArray, List.getElem?_cons_succ, List.getElem?_cons_zero, Option.getD_some]; exact rfl)))
        | ((with_reducible refine h_read (v := ?_) (a' := ?_) ?_ (fun _ hbw => ?_) ?_ ?_); rotate_left; rotate_left; (focus (exact rfl)); (focus (skip; go_simp; (try go_bits); exact rfl)); (focus (simp only [Act.put, List.setIfInBounds_toArray, List.set_cons_succ, List.set_cons_zero, Act.eval, Array.getD_eq_getD_getElem?, List.getElem?_toArray, List.getElem?_cons_succ, List.getElem?_cons_zero, Option.getD_some]; exact rfl)))
    (with_reducible refine h_call ?_ ?_)
    · exact rfl
    go_simp
    refine entersW_of ?_
    refine (asum_any ks (hashA key) T OUT a n c a5 E c5 w55 ((show AdK w5.drew ks (hashA key) from S5.out).below d55) (T5.out.drew.below d55) (R5.out.drew.below d55) (by omega)).mono ?_
    rintro e w6 ⟨rfl, d6⟩
    refine ⟨_, rfl, d6, ?_⟩
    try simp only [Act.put, List.setIfInBounds_toArray, List.set_cons_succ, List.set_cons_zero]
    rw [← HSO.out]
    (with_reducible refine h_call ?_ ?_)
    · exact rfl
    go_simp
    refine entersW_of ?_
    refine (wsub64_any PL SO w6).mono ?_
    rintro e w7 ⟨rfl, d7⟩
    refine ⟨_, rfl, d7, ?_⟩
    try simp only [Act.put, List.setIfInBounds_toArray, List.set_cons_succ, List.set_cons_zero]
    rw [← HDF.out]
    have d67 := d55.trans ((d6.trans (d7.mono d6.size)).mono d55.size)
    (with_reducible refine h_call ?_ ?_)
    · exact rfl
    go_simp
    refine entersW_of ?_
    refine (ajoined_any OUT a5 E c5 DF w7 (R5.out.drew.below d67) (by omega)).mono ?_
    rintro e w8 ⟨v8_, rfl, o8, d8⟩
    refine ⟨_, rfl, d8, ?_⟩
    try simp only [Act.put, List.setIfInBounds_toArray, List.set_cons_succ, List.set_cons_zero]
    have d68 := d67.trans (d8.mono d67.size)
    have B8 := D5.out.drew.trans (d68.mono D5.out.drew.size)
    have o9 := Own8.base o8 (Nat.le_trans D5.out.drew.size d67.size)
    have hres : OUT ++ bytesW DF = decA key T M := by
      rw [decA, joinA, ← HB.out, show midD key T M = MID by rw [midD, HMID.out, HSB.out, HR.out, HB.out], ← HOUT.out, HDF.out, HSO.out, HPL.out]
    rw [hres] at o9
    have O9 := Lib.hid o9
    have B9 := Lib.hid B8
    clear o8 o9 d8 d68 d67 d7 d6 B8 hres
    repeat
      first
        | ((with_reducible refine h_pure (v := ?_) (a' := ?_) ?_ (fun _ => ?_) ?_ ?_); rotate_left; rotate_left; (focus (exact rfl)); (focus (go_simp; (try go_bits); exact rfl)); (focus (simp only [Act.put, List.setIfInBounds_toArray, List.set_cons_succ, List.set_cons_zero, Act.eval, Array.getD_eq_getD_getElem?, List.getElem?_toArray, List.getElem?_cons_succ, List.getElem?_cons_zero, Option.getD_some]; exact rfl)))
        | ((with_reducible refine h_obl (v := ?_) (a' := ?_) ?_ (fun _ hcw => ?_) ?_ ?_); rotate_left; rotate_left; (focus (exact rfl)); (focus (have f2 := Q2 _ hcw; have f3 := Q3 _ hcw; go_simp; (try go_bits); exact rfl)); (focus (simp only [Act.put, List.setIfInBounds_toArray, List.set_cons_succ, List.set_cons_zero, Act.eval, Array.getD_eq_getD_getElem?, List.getElem?_toArray, List.getElem?_cons_succ, List.getElem?_cons_zero, Option.getD_some]; exact rfl)))
        | ((with_reducible refine h_read (v := ?_) (a' := ?_) ?_ (fun _ hbw => ?_) ?_ ?_); rotate_left; rotate_left; (focus (exact rfl)); (focus (skip; go_simp; (try go_bits); exact rfl)); (focus (simp only [Act.put, List.setIfInBounds_toArray, List.set_cons_succ, List.set_cons_zero, Act.eval, Array.getD_eq_getD_getElem?, List.getElem?_toArray, List.getElem?_cons_succ, List.getElem?_cons_zero, Option.getD_some]; exact rfl)))
    refine h_nil (hK' _ _ ?_)
    clear Q1
    clear Q2 Q3 hK' hCb hC0
    go_wp2
    go_ret2
    exact ⟨v8_, rfl, O9.out, B9.out⟩
end Go.Proofs.YtfdkmjegcghieaaDoor
/- adiantum: what is refused -/
namespace Go.Proofs.YtfdkmjegcghieaaDoor
open Go.RowKit
set_option maxRecDepth 100000 in
theorem aenc_short (q : Nat) (a : Option Addr) (n c : Nat) (b : Option Addr) (len d : Nat) (w : World) (h : len < 16) :
    Calls Tryd.prog 31 #[.pointer (some ⟨q, 0, none⟩), .slice a n c, .slice b len d] w fun e w' => e = .returned (.tuple #[.slice none 0 0, .int .i64 7]) ∧ Below w.heap.size w w' := by
  go_enter Tryd.func31, Tryd.ntmps31
  go_wp2_with fail
  refine (awrong_short q b len d w h).mono ?_
  rintro e w1 ⟨rfl, rfl⟩
  go_wp2
  go_ret2
  exact ⟨rfl, Below.refl _ _⟩
set_option maxRecDepth 100000 in
theorem aenc_nil (a : Option Addr) (n c : Nat) (b : Option Addr) (len d : Nat) (w : World) :
    Calls Tryd.prog 31 #[.pointer none, .slice a n c, .slice b len d] w fun e w' => e = .returned (.tuple #[.slice none 0 0, .int .i64 2]) ∧ Below w.heap.size w w' := by
  go_enter Tryd.func31, Tryd.ntmps31
  go_wp2_with fail
  refine (awrong_nil b len d w).mono ?_
  rintro e w1 ⟨rfl, rfl⟩
  go_wp2
  go_ret2
  exact ⟨rfl, Below.refl _ _⟩
set_option maxRecDepth 100000 in
theorem adec_short (q : Nat) (a : Option Addr) (n c : Nat) (b : Option Addr) (len d : Nat) (w : World) (h : len < 16) :
    Calls Tryd.prog 42 #[.pointer (some ⟨q, 0, none⟩), .slice a n c, .slice b len d] w fun e w' => e = .returned (.tuple #[.slice none 0 0, .int .i64 7]) ∧ Below w.heap.size w w' := by
  go_enter Tryd.func42, Tryd.ntmps42
  go_wp2_with fail
  refine (awrong_short q b len d w h).mono ?_
  rintro e w1 ⟨rfl, rfl⟩
  go_wp2
  go_ret2
  exact ⟨rfl, Below.refl _ _⟩
set_option maxRecDepth 100000 in
theorem adec_nil (a : Option Addr) (n c : Nat) (b : Option Addr) (len d : Nat) (w : World) :
    Calls Tryd.prog 42 #[.pointer none, .slice a n c, .slice b len d] w fun e w' => e = .returned (.tuple #[.slice none 0 0, .int .i64 2]) ∧ Below w.heap.size w w' := by
  go_enter Tryd.func42, Tryd.ntmps42
  go_wp2_with fail
  refine (awrong_nil b len d w).mono ?_
  rintro e w1 ⟨rfl, rfl⟩
  go_wp2
  go_ret2
  exact ⟨rfl, Below.refl _ _⟩
set_option maxRecDepth 100000 in
theorem anew_notab (a : Option Addr) (n c : Nat) (w : World) :
    Calls Tryd.prog 40 #[.pointer none, .slice a n c] w fun e w' => e = .returned (.tuple #[.pointer none, .int .i64 1]) ∧ Below w.heap.size w w' := by
  go_enter Tryd.func40, Tryd.ntmps40
  go_wp2
  go_ret2
  exact ⟨rfl, Below.refl _ _⟩
set_option maxRecDepth 100000 in
theorem anew_nokey (p : Nat) (a : Option Addr) (n c : Nat) (w : World) (h : n ≠ 32) :
    Calls Tryd.prog 40 #[.pointer (some ⟨p, 0, none⟩), .slice a n c] w fun e w' => e = .returned (.tuple #[.pointer none, .int .i64 2]) ∧ Below w.heap.size w w' := by
  have f1 : ((n : Int) == 32) = false := by simp; omega
  have f2 : ((n : Int) != 32) = true := by simp; omega
  go_enter Tryd.func40, Tryd.ntmps40
  go_wp2
  go_ret2
  exact ⟨rfl, Below.refl _ _⟩
end Go.Proofs.YtfdkmjegcghieaaDoor
