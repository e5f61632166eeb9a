/- poly by definition: Value, Hash -/
import Derived.Test.YtfdkmjegcghieaaGreatDoorMJc
import Derived.Test.YtfdkmjegcghieaaGreatDoorMJa
import Derived.Test.YtfdkmjegcghieaaGreatDoorMJd
import Derived.Test.YtfdkmjegcghieaaGreatDoorMGe
import Derived.Test.YtfdkmjegcghieaaGreatDoorMRefPut
import Derived.Test.YtfdkmjegcghieaaGreatDoorMIj
import Derived.Test.YtfdkmjegcghieaaGreatDoorMRef6
import Derived.Test.YtfdkmjegcghieaaGreatDoorMHs
import Derived.Test.YtfdkmjegcghieaaGreatDoorMJk
namespace Go.Proofs.YtfdkmjegcghieaaGreatDoor
open Lib (hid)
set_option linter.unusedSimpArgs false
set_option maxRecDepth 100000
set_option maxHeartbeats 1600000
open Go.RowKit
theorem take_nth (l : List (BitVec 8)) (t : Nat) (h : t < l.length) : l.take t ++ [nth l t] = l.take (t + 1) := by
 rw [List.take_add_one, nth_eq h]; rfl
theorem prm_lt17 : prm < 256 ^ 17 := by decide
theorem mod_lt17 (x : Nat) : x % prm < 256 ^ 17 := Nat.lt_trans (Nat.mod_lt x (by decide)) prm_lt17
theorem refPolyV_any (l D : List (BitVec 8)) (a : Option Addr) (n c : Nat) (w : World) (hl : l.length = 16) (hr : Rd8 w a n c D) (hn : n ≤ 100000) :
  Calls Tryz.prog 166 #[.agg (A8 l), .slice a n c] w fun e w' => e = .returned (.agg (A8 (byN 17 (rv (ryN l) D ((n + 15) / 16))))) ∧ Below w.heap.size w w' := by
 have hDl := hr.1
 obtain ⟨LF, hLF⟩ : ∃ L, L = byN 17 (rv (ryN l) D ((n + 15) / 16)) := ⟨_, rfl⟩
 have lf : LF.length = 17 := by rw [hLF, byN_length]
 rw [← hLF]
 obtain ⟨Y, hY⟩ : ∃ Y, Y = ryN l := ⟨_, rfl⟩
 have hYlt : Y < prm := by rw [hY]; exact Nat.mod_lt _ (by decide)
 rw [← hY] at hLF
 obtain ⟨CL, hCL⟩ : ∃ z, z = clR l := ⟨_, rfl⟩
 have hCLl : CL.length = 16 := by rw [hCL, clR_length]
 have hYC : numL CL % prm = Y := by rw [hCL, hY]; rfl
 have HCL := hid hCL
 have HYC := hid hYC
 have HLF := hid hLF
 have HYL := hid hYlt
 obtain ⟨W, hW⟩ : ∃ W, (w.alloc (.cells (A8 l) 37)).alloc (.cells (A8 (zeros 8 17)) 214) = W := ⟨_, rfl⟩
 obtain ⟨b0, b1, hb, hz⟩ := new2 _ _ _ _ _ _ hW
 have r0 := b0.row
 have Z0 := hid b1
 have B0 := hid hb
 have D0 := hid (hr.below hb)
 have HZ := hid hz
 have hr0 := hid hr
 clear b0 b1 hb hz hr hY hCL hLF hYC hYlt
 go_enter Tryz.func166, Tryz.ntmps166
 go_wp2_with fail
 refine (refClamp_any l W hl).mono ?_
 rintro e w1 ⟨rfl, d1⟩
 rw [show clR l = CL from HCL.out.symm]
 clear hW r0
 go_wp2_with fail
 have hof := refOf_any CL w1 hCLl
 rw [HYC.out] at hof
 refine hof.mono ?_
 clear hof
 rintro e w2 ⟨rfl, d2⟩
 obtain ⟨YB, hYB⟩ : ∃ z, z = byN 17 Y := ⟨_, rfl⟩
 have hYBl : YB.length = 17 := by rw [hYB, byN_length]
 rw [← hYB]
 have HYB := hid hYB
 have d3 := d1.trans (d2.mono d1.size)
 have Z2 := hid (Z0.out.belowAll d3)
 have B2 := hid (B0.out.trans (d3.mono B0.out.size))
 have D2 := hid (D0.out.below d3)
 clear hYB d1 d2 d3 Z0 B0 D0
 obtain ⟨W2, hW2⟩ : ∃ W2, (w2.alloc (.cells (A8 YB) 214)).alloc (.cells (A8 (zeros 8 17)) 214) = W2 := ⟨_, rfl⟩
 have r1 := (Blk.new w2 214 (A8 (zeros 8 17))).row
 have r3 := (Blk.new w2 214 (A8 (zeros 8 17))).whole
 go_wp2_with fail
 clear r1 r3
 obtain ⟨n0, n1, nb, nz⟩ := new2 _ _ _ _ _ _ hW2
 obtain ⟨g, hg⟩ : ∃ g, w2.heap.size = g := ⟨_, rfl⟩
 rw [hg] at n0 n1
 have hgt : w.heap.size + 1 < g := by have := Z2.out.lt; omega
 have Z3 := hid (Z2.out.belowAll nb)
 have Y3 := hid n0
 have X3 := hid n1
 have D3 := hid (D2.out.below nb)
 have B3 := hid (B2.out.trans (nb.mono B2.out.size))
 rw [hg]
 clear hW2 n0 n1 nb nz hg Z2 B2 D2
 go_loopw [7] (fun i wr => ∃ j : Nat, 16 * j < n + 16 ∧ i = .int .i64 (16 * j : Nat) ∧ Blk wr (w.heap.size + 1) 214 (A8 (zeros 8 17)) ∧ Blk wr g 214 (A8 YB) ∧ Blk wr (g + 1) 214 (A8 (byN 17 (rv Y D j))) ∧ Rd8 wr a n c D ∧ Below w.heap.size w wr) (fun i _ => n + 16 - (intOf i).toNat)
 case atStart => exact ⟨0, by omega, rfl, Z3.out, Y3.out, by rw [show rv Y D 0 = 0 from rfl, byN_zero]; exact X3.out, D3.out, B3.out⟩
 case round =>
  revert wr
  intro wo hrel
  obtain ⟨j, hj, rfl, hZ, hYY, hX, hD, hB⟩ := hrel
  obtain ⟨K, hK⟩ : ∃ K, K = 16 * j := ⟨_, rfl⟩
  rw [← hK] at hj ⊢
  have HK := hid hK
  have k0 : (0 : Int) ≤ (K : Int) := by omega
  obtain ⟨V, hV⟩ : ∃ V, V = rv Y D j := ⟨_, rfl⟩
  have hVlt : V < prm := by rw [hV]; exact rv_lt _ _ _
  rw [← hV] at hX
  have HV := hid hV
  have HVL := hid hVlt
  have Z4 := hid hZ
  have Y4 := hid hYY
  have X4 := hid hX
  have D4 := hid hD
  have B4 := hid hB
  clear hZ hYY hX hD hB hV hVlt hK Z3 Y3 X3 D3 B3
  by_cases hKn : K < n
  ·have k1 : (K : Int) < (n : Int) := by omega
   obtain ⟨K16, hK16⟩ : ∃ z, z = K + 16 := ⟨_, rfl⟩
   have k2 : (K : Int) + 16 = (K16 : Int) := by omega
   have k3 : IntKind.i64.wrap (K16 : Int) = (K16 : Int) := by rw [IntKind.wrap_i64]; omega
   have HK16 := hid hK16
   clear hK16
   go_wp2_with fail
   obtain ⟨s, hs⟩ : ∃ s, s = wo.heap.size := ⟨_, rfl⟩
   have hsg : g + 1 < s := by rw [hs]; exact X4.out.lt
   have hB4 := Below.refl wo.heap.size wo
   rw [← hs] at hB4
   have hss : s ≤ wo.heap.size := by omega
   go_loopw [8, 9] (fun v k wr => ∃ t : Nat, t ≤ 16 ∧ K + t ≤ n ∧ k = .int .i64 (K + t : Nat) ∧ Own8 wr s 5 v ((D.drop K).take t) ∧ Below s wo wr) (fun _ k _ => n - (intOf k).toNat)
   case atStart => exact ⟨0, by omega, by omega, rfl, Own8.nil_ _ _ _, hB4⟩
   case round =>
    obtain ⟨t, ht, hKt, rfl, hO, hB⟩ := hrel
    obtain ⟨Q, hQ⟩ : ∃ Q, Q = K + t := ⟨_, rfl⟩
    rw [← hQ] at hKt ⊢
    have q0 : (0 : Int) ≤ (Q : Int) := by omega
    have HQ := hid hQ
    have O1 := hid hO
    have E1 := hid hB
    have HS := hid hs
    have E2 := hid (show Below wo.heap.size wo wr from by rw [← hs]; exact hB)
    clear hQ hO hB hB4 hs
    by_cases hgo : t < 16 ∧ Q < n
    ·have q1 : (Q : Int) < (n : Int) := by omega
     have q2 : (Q : Int) < (K16 : Int) := by have := HQ.out; have := HK16.out; omega
     obtain ⟨b, o, rfl, hbl, hc⟩ := (D4.out.below E2.out).2.2.2 (by omega)
     have c1 := hc Q hgo.2
     have hst := take_nth (D.drop K) t (by rw [List.length_drop, hDl]; have := HQ.out; omega)
     rw [nth_drop, show K + t = Q from HQ.out.symm] at hst
     have HST := hid hst
     clear hst hc
     go_upto_region 10 with fail
     refine wp_region_plain [0,0,0,0,1,2,2,0] rfl (fun ops' K2 hK2 => ?_)
     repeat
      (first
       | (with_reducible refine z_move (a' := ?_) ?_ ?_); rotate_left
       | (with_reducible refine z_assign (a' := ?_) ?_ ?_); rotate_left
       | (with_reducible refine z_obl (v := ?_) (a' := ?_) rfl (fun _ => ?_) ?_ ?_); rotate_left 2; (focus (go_simp; (try go_bits); exact rfl))
       | (with_reducible refine z_read (v := ?_) (a' := ?_) rfl ?_ ?_ ?_); rotate_left 2; (focus (go_simp; (try go_bits); exact rfl)))
      focus (simp only [Act.put, zz1, zz2, zz3, Act.eval, zz4, zz5, zz6, zz7, zz8]; exact rfl)
     refine z_build1 (x := nth D Q) rfl Tryz.underlying23 info8 (fun w5 b5 hr5 hb5 => ?_)
     simp only [Act.put, zz1, zz2, zz3]
     refine z_append8 (O1.out.below hb5) hr5 rfl rfl Tryz.underlying23 info8 (by rw [List.length_take]; omega) (Nat.le_trans (Nat.le_trans hss E1.out.size) hb5.size) (fun w6 v6 o6 g6 b6 => ?_)
     simp only [Act.put, zz1, zz2, zz3]
     repeat
      (first
       | (with_reducible refine z_move (a' := ?_) ?_ ?_); rotate_left
       | (with_reducible refine z_assign (a' := ?_) ?_ ?_); rotate_left
       | (with_reducible refine z_obl (v := ?_) (a' := ?_) rfl (fun _ => ?_) ?_ ?_); rotate_left 2; (focus (go_simp; (try go_bits); exact rfl))
       | (with_reducible refine z_read (v := ?_) (a' := ?_) rfl ?_ ?_ ?_); rotate_left 2; (focus (go_simp; (try go_bits); exact rfl)))
      focus (simp only [Act.put, zz1, zz2, zz3, Act.eval, zz4, zz5, zz6, zz7, zz8]; exact rfl)
     refine z_nil (hK2 _ _ ?_)
     rw [HST.out] at o6
     have O6 := hid o6
     have E6 := hid ((E1.out.trans (hb5.mono (Nat.le_trans hss E1.out.size))).trans b6)
     clear o6 g6 b6 hb5 hr5 hK2 c1
     go_wp2
     exact ⟨⟨t + 1, by omega, by have := HQ.out; omega, by rw [show K + (t + 1) = Q + 1 by rw [HQ.out]; omega]; go_num, O6.out, E6.out⟩, by simp [intOf]; omega⟩
    ·have htk : (D.drop K).take t = (D.drop K).take 16 := by
      by_cases h16 : t = 16
      ·rw [h16]
      ·rw [List.take_of_length_le (by rw [List.length_drop, hDl]; have := HQ.out; omega), List.take_of_length_le (by rw [List.length_drop, hDl]; have := HQ.out; omega)]
     have oo := O1.out
     rw [htk] at oo
     have O2 := hid oo
     obtain ⟨PP, hPP⟩ : ∃ z, z = (D.drop K).take 16 ++ [1#8] := ⟨_, rfl⟩
     have HPP := hid hPP
     clear oo O1 htk
     have q1 : ¬ ((Q : Int) < (n : Int) ∧ (Q : Int) < (K16 : Int)) := by have := HQ.out; have := HK16.out; omega
     have hrest : ∀ (P1 : Prop), P1 → P1 := fun _ h => h
     by_cases hqn : (Q : Int) < (n : Int)
     ·have q2 : ¬ (Q : Int) < (K16 : Int) := fun h => q1 ⟨hqn, h⟩
      clear q1 hrest
      go_upto_region 11 with fail
      refine wp_region_plain [0,2,2,0] rfl (fun ops' K2 hK2 => ?_)
      repeat
       (first
        | (with_reducible refine z_move (a' := ?_) ?_ ?_); rotate_left
        | (with_reducible refine z_assign (a' := ?_) ?_ ?_); rotate_left
        | (with_reducible refine z_obl (v := ?_) (a' := ?_) rfl (fun _ => ?_) ?_ ?_); rotate_left 2; (focus (go_simp; (try go_bits); exact rfl))
        | (with_reducible refine z_read (v := ?_) (a' := ?_) rfl ?_ ?_ ?_); rotate_left 2; (focus (go_simp; (try go_bits); exact rfl)))
       focus (simp only [Act.put, zz1, zz2, zz3, Act.eval, zz4, zz5, zz6, zz7, zz8]; exact rfl)
      refine z_build1 (x := 1#8) rfl Tryz.underlying23 info8 (fun w5 b5 hr5 hb5 => ?_)
      simp only [Act.put, zz1, zz2, zz3]
      refine z_append8 (O2.out.below hb5) hr5 rfl rfl Tryz.underlying23 info8 (by rw [List.length_take]; omega) (Nat.le_trans (Nat.le_trans hss E1.out.size) hb5.size) (fun w6 v6 o6 g6 b6 => ?_)
      simp only [Act.put, zz1, zz2, zz3]
      repeat
       (first
        | (with_reducible refine z_move (a' := ?_) ?_ ?_); rotate_left
        | (with_reducible refine z_assign (a' := ?_) ?_ ?_); rotate_left
        | (with_reducible refine z_obl (v := ?_) (a' := ?_) rfl (fun _ => ?_) ?_ ?_); rotate_left 2; (focus (go_simp; (try go_bits); exact rfl))
        | (with_reducible refine z_read (v := ?_) (a' := ?_) rfl ?_ ?_ ?_); rotate_left 2; (focus (go_simp; (try go_bits); exact rfl)))
       focus (simp only [Act.put, zz1, zz2, zz3, Act.eval, zz4, zz5, zz6, zz7, zz8]; exact rfl)
      refine z_nil (hK2 _ _ ?_)
      rw [← hPP] at o6
      obtain ⟨a6, c6, rfl, hr6, _⟩ := o6.rd
      have e6 := (E1.out.trans (hb5.mono (Nat.le_trans hss E1.out.size))).trans b6
      rw [show s = wo.heap.size from HS.out] at e6
      have R6 := hid hr6
      have Z6 := hid (Z4.out.belowAll e6)
      have Y6 := hid (Y4.out.belowAll e6)
      have X6 := hid (X4.out.belowAll e6)
      have D6 := hid (D4.out.below e6)
      have B6 := hid (B4.out.trans (e6.mono B4.out.size))
      clear o6 g6 b6 hb5 hr5 hr6 e6 hK2 Z4 Y4 X4 D4 B4 O2 E1 E2 hPP HS
      generalize PP.length = M at R6 ⊢
      go_upto_region 12 with fail
      refine wp_region_tail [5,0,2,2,5,2,3] (by kernel_rfl) (by kernel_rfl) (fun C0 hC0 hCb K' hK' => ?_)
      have Q1 : ∀ w1, C0 w1 → rowAt w1 (g + 1) = A8 (byN 17 V) := fun w1 h => (X6.out.drew.belowAll (hCb w1 h)).row
      have Q2 : ∀ w1, C0 w1 → rowAt w1 g = A8 YB := fun w1 h => (Y6.out.drew.belowAll (hCb w1 h)).row
      repeat
       (first
        | (with_reducible refine h_pure (v := ?_) (a' := ?_) ?_ (fun _ => ?_) ?_ ?_); rotate_left 2; (focus (exact rfl)); (focus (go_simp; (try go_bits); exact rfl))
        | (with_reducible refine h_obl (v := ?_) (a' := ?_) ?_ (fun _ hcw => ?_) ?_ ?_); rotate_left 2; (focus (exact rfl)); (focus (have f1 := Q1 _ hcw; have f2 := Q2 _ hcw; go_simp; (try go_bits); exact rfl))
        | (with_reducible refine h_read (v := ?_) (a' := ?_) ?_ (fun _ hbw => ?_) ?_ ?_); rotate_left 2; (focus (exact rfl)); (focus (go_simp; (try go_bits); exact rfl)))
       focus (simp only [Act.put, zz1, zz2, zz3, Act.eval, zz4, zz5, zz6, zz7, zz8]; exact rfl)
      obtain ⟨S1, hS1⟩ : ∃ z, z = numL PP % prm := ⟨_, rfl⟩
      have l1 : S1 < 256 ^ 17 := by rw [hS1]; exact mod_lt17 _
      obtain ⟨S2, hS2⟩ : ∃ z, z = (V + S1) % prm := ⟨_, rfl⟩
      have l2 : S2 < 256 ^ 17 := by rw [hS2]; exact mod_lt17 _
      obtain ⟨S3, hS3⟩ : ∃ z, z = S2 * Y % prm := ⟨_, rfl⟩
      have lv : V < 256 ^ 17 := Nat.lt_trans HVL.out prm_lt17
      have ly : Y < 256 ^ 17 := Nat.lt_trans HYL.out prm_lt17
      have cd := fun wz => refDivide_any PP a6 M c6 wz
      rw [← hS1] at cd
      have cp := fun wz => refPlus17_any V S1 wz lv l1
      rw [← hS2] at cp
      have ct := fun wz => refTimes17_any S2 Y wz l2 ly
      rw [← hS3, ← HYB.out] at ct
      have hnx : S3 = rv Y D (j + 1) := by rw [rv, hS3, hS2, hS1, ← HV.out, HPP.out, HK.out]
      have CD := hid cd
      have CP := hid cp
      have CT := hid ct
      have HNX := hid hnx
      clear hS1 hS2 hS3 l1 l2 lv ly cd cp ct hnx
      obtain ⟨LV, hLV⟩ : ∃ z, z = byN 17 V := ⟨_, rfl⟩
      obtain ⟨L1, hL1⟩ : ∃ z, z = byN 17 S1 := ⟨_, rfl⟩
      obtain ⟨L2, hL2⟩ : ∃ z, z = byN 17 S2 := ⟨_, rfl⟩
      obtain ⟨L3, hL3⟩ : ∃ z, z = byN 17 S3 := ⟨_, rfl⟩
      have l3 : L3.length = 17 := by rw [hL3, byN_length]
      rw [← hL1] at CD
      rw [← hLV, ← hL1, ← hL2] at CP
      rw [← hL2, ← hL3] at CT
      rw [← hLV]
      rw [← hLV] at X6
      have lLV : LV.length = 17 := by rw [hLV, byN_length]
      have HL3 := hid hL3
      clear hLV hL1 hL2 hL3
      (with_reducible refine h_call ?_ ?_)
      ·exact rfl
      go_simp
      refine entersW_of ?_
      refine (CD.out w6.drew R6.out.drew).mono ?_
      rintro e w7 ⟨rfl, b7⟩
      refine ⟨_, rfl, b7, ?_⟩
      try simp only [Act.put, zz1, zz2, zz3]
      repeat
       (first
        | (with_reducible refine h_pure (v := ?_) (a' := ?_) ?_ (fun _ => ?_) ?_ ?_); rotate_left 2; (focus (exact rfl)); (focus (go_simp; (try go_bits); exact rfl))
        | (with_reducible refine h_obl (v := ?_) (a' := ?_) ?_ (fun _ hcw => ?_) ?_ ?_); rotate_left 2; (focus (exact rfl)); (focus (go_simp; (try go_bits); exact rfl))
        | (with_reducible refine h_read (v := ?_) (a' := ?_) ?_ (fun _ hbw => ?_) ?_ ?_); rotate_left 2; (focus (exact rfl)); (focus (go_simp; (try go_bits); exact rfl)))
       focus (simp only [Act.put, zz1, zz2, zz3, Act.eval, zz4, zz5, zz6, zz7, zz8]; exact rfl)
      (with_reducible refine h_call ?_ ?_)
      ·exact rfl
      go_simp
      refine entersW_of ?_
      refine (CP.out w7).mono ?_
      rintro e w8 ⟨rfl, b8⟩
      refine ⟨_, rfl, b8, ?_⟩
      try simp only [Act.put, zz1, zz2, zz3]
      repeat
       (first
        | (with_reducible refine h_pure (v := ?_) (a' := ?_) ?_ (fun _ => ?_) ?_ ?_); rotate_left 2; (focus (exact rfl)); (focus (go_simp; (try go_bits); exact rfl))
        | (with_reducible refine h_obl (v := ?_) (a' := ?_) ?_ (fun _ hcw => ?_) ?_ ?_); rotate_left 2; (focus (exact rfl)); (focus (have f1 := Q1 _ hcw; have f2 := Q2 _ hcw; go_simp; (try go_bits); exact rfl))
        | (with_reducible refine h_read (v := ?_) (a' := ?_) ?_ (fun _ hbw => ?_) ?_ ?_); rotate_left 2; (focus (exact rfl)); (focus (go_simp; (try go_bits); exact rfl)))
       focus (simp only [Act.put, zz1, zz2, zz3, Act.eval, zz4, zz5, zz6, zz7, zz8]; exact rfl)
      (with_reducible refine h_call ?_ ?_)
      ·exact rfl
      go_simp
      refine entersW_of ?_
      refine (CT.out w8).mono ?_
      rintro e w9 ⟨rfl, b9⟩
      refine ⟨_, rfl, b9, ?_⟩
      try simp only [Act.put, zz1, zz2, zz3]
      have d9 := (b7.trans (b8.mono b7.size)).trans (b9.mono (b7.trans (b8.mono b7.size)).size)
      refine h_tail [2] rfl (by simp) ?_
      refine z_storeRow (X6.out.drew.belowAll d9) rfl rfl (by rw [A8_size, A8_size, lLV, l3]) (A8_ones _) (by rw [A8_size, l3]; exact Tryz.sizeOf214 _) (fun w10 k10 g10 s10 => ?_)
      refine z_nil (hK' _ _ ?_)
      rw [HL3.out, HNX.out] at k10
      have X10 := hid k10
      have Y10 := hid ((Y6.out.drew.belowAll d9).grown g10 (by simp))
      have Z10 := hid ((Z6.out.drew.belowAll d9).grown g10 (by simp; omega))
      have B9 := B6.out.drew.trans (d9.mono B6.out.drew.size)
      have B10 := hid (B9.trans (grown_below g10 (by omega) B9.size))
      have D10 := hid ((D6.out.drew.below d9).away0 g10 (fun h0 ad had => by
       intro e
       obtain ⟨b, o, rfl, hbl, _⟩ := hr0.out.2.2.2 h0
       cases had
       have := hbl
       simp at e
       omega))
      clear Q1 Q2 hC0 hCb hK' b7 b8 b9 d9 k10 g10 s10 B9 X6 Y6 Z6 B6 D6 R6
      go_wp2
      exact ⟨⟨j + 1, by have := HK.out; omega, by rw [show 16 * (j + 1) = K + 16 by rw [HK.out]; omega]; go_num, Z10.out, Y10.out, X10.out, D10.out, B10.out⟩, by simp [intOf]; omega⟩
     ·clear q1 hrest
      go_upto_region 11 with fail
      refine wp_region_plain [0,2,2,0] rfl (fun ops' K2 hK2 => ?_)
      repeat
       (first
        | (with_reducible refine z_move (a' := ?_) ?_ ?_); rotate_left
        | (with_reducible refine z_assign (a' := ?_) ?_ ?_); rotate_left
        | (with_reducible refine z_obl (v := ?_) (a' := ?_) rfl (fun _ => ?_) ?_ ?_); rotate_left 2; (focus (go_simp; (try go_bits); exact rfl))
        | (with_reducible refine z_read (v := ?_) (a' := ?_) rfl ?_ ?_ ?_); rotate_left 2; (focus (go_simp; (try go_bits); exact rfl)))
       focus (simp only [Act.put, zz1, zz2, zz3, Act.eval, zz4, zz5, zz6, zz7, zz8]; exact rfl)
      refine z_build1 (x := 1#8) rfl Tryz.underlying23 info8 (fun w5 b5 hr5 hb5 => ?_)
      simp only [Act.put, zz1, zz2, zz3]
      refine z_append8 (O2.out.below hb5) hr5 rfl rfl Tryz.underlying23 info8 (by rw [List.length_take]; omega) (Nat.le_trans (Nat.le_trans hss E1.out.size) hb5.size) (fun w6 v6 o6 g6 b6 => ?_)
      simp only [Act.put, zz1, zz2, zz3]
      repeat
       (first
        | (with_reducible refine z_move (a' := ?_) ?_ ?_); rotate_left
        | (with_reducible refine z_assign (a' := ?_) ?_ ?_); rotate_left
        | (with_reducible refine z_obl (v := ?_) (a' := ?_) rfl (fun _ => ?_) ?_ ?_); rotate_left 2; (focus (go_simp; (try go_bits); exact rfl))
        | (with_reducible refine z_read (v := ?_) (a' := ?_) rfl ?_ ?_ ?_); rotate_left 2; (focus (go_simp; (try go_bits); exact rfl)))
       focus (simp only [Act.put, zz1, zz2, zz3, Act.eval, zz4, zz5, zz6, zz7, zz8]; exact rfl)
      refine z_nil (hK2 _ _ ?_)
      rw [← hPP] at o6
      obtain ⟨a6, c6, rfl, hr6, _⟩ := o6.rd
      have e6 := (E1.out.trans (hb5.mono (Nat.le_trans hss E1.out.size))).trans b6
      rw [show s = wo.heap.size from HS.out] at e6
      have R6 := hid hr6
      have Z6 := hid (Z4.out.belowAll e6)
      have Y6 := hid (Y4.out.belowAll e6)
      have X6 := hid (X4.out.belowAll e6)
      have D6 := hid (D4.out.below e6)
      have B6 := hid (B4.out.trans (e6.mono B4.out.size))
      clear o6 g6 b6 hb5 hr5 hr6 e6 hK2 Z4 Y4 X4 D4 B4 O2 E1 E2 hPP HS
      generalize PP.length = M at R6 ⊢
      go_upto_region 12 with fail
      refine wp_region_tail [5,0,2,2,5,2,3] (by kernel_rfl) (by kernel_rfl) (fun C0 hC0 hCb K' hK' => ?_)
      have Q1 : ∀ w1, C0 w1 → rowAt w1 (g + 1) = A8 (byN 17 V) := fun w1 h => (X6.out.drew.belowAll (hCb w1 h)).row
      have Q2 : ∀ w1, C0 w1 → rowAt w1 g = A8 YB := fun w1 h => (Y6.out.drew.belowAll (hCb w1 h)).row
      repeat
       (first
        | (with_reducible refine h_pure (v := ?_) (a' := ?_) ?_ (fun _ => ?_) ?_ ?_); rotate_left 2; (focus (exact rfl)); (focus (go_simp; (try go_bits); exact rfl))
        | (with_reducible refine h_obl (v := ?_) (a' := ?_) ?_ (fun _ hcw => ?_) ?_ ?_); rotate_left 2; (focus (exact rfl)); (focus (have f1 := Q1 _ hcw; have f2 := Q2 _ hcw; go_simp; (try go_bits); exact rfl))
        | (with_reducible refine h_read (v := ?_) (a' := ?_) ?_ (fun _ hbw => ?_) ?_ ?_); rotate_left 2; (focus (exact rfl)); (focus (go_simp; (try go_bits); exact rfl)))
       focus (simp only [Act.put, zz1, zz2, zz3, Act.eval, zz4, zz5, zz6, zz7, zz8]; exact rfl)
      obtain ⟨S1, hS1⟩ : ∃ z, z = numL PP % prm := ⟨_, rfl⟩
      have l1 : S1 < 256 ^ 17 := by rw [hS1]; exact mod_lt17 _
      obtain ⟨S2, hS2⟩ : ∃ z, z = (V + S1) % prm := ⟨_, rfl⟩
      have l2 : S2 < 256 ^ 17 := by rw [hS2]; exact mod_lt17 _
      obtain ⟨S3, hS3⟩ : ∃ z, z = S2 * Y % prm := ⟨_, rfl⟩
      have lv : V < 256 ^ 17 := Nat.lt_trans HVL.out prm_lt17
      have ly : Y < 256 ^ 17 := Nat.lt_trans HYL.out prm_lt17
      have cd := fun wz => refDivide_any PP a6 M c6 wz
      rw [← hS1] at cd
      have cp := fun wz => refPlus17_any V S1 wz lv l1
      rw [← hS2] at cp
      have ct := fun wz => refTimes17_any S2 Y wz l2 ly
      rw [← hS3, ← HYB.out] at ct
      have hnx : S3 = rv Y D (j + 1) := by rw [rv, hS3, hS2, hS1, ← HV.out, HPP.out, HK.out]
      have CD := hid cd
      have CP := hid cp
      have CT := hid ct
      have HNX := hid hnx
      clear hS1 hS2 hS3 l1 l2 lv ly cd cp ct hnx
      obtain ⟨LV, hLV⟩ : ∃ z, z = byN 17 V := ⟨_, rfl⟩
      obtain ⟨L1, hL1⟩ : ∃ z, z = byN 17 S1 := ⟨_, rfl⟩
      obtain ⟨L2, hL2⟩ : ∃ z, z = byN 17 S2 := ⟨_, rfl⟩
      obtain ⟨L3, hL3⟩ : ∃ z, z = byN 17 S3 := ⟨_, rfl⟩
      have l3 : L3.length = 17 := by rw [hL3, byN_length]
      rw [← hL1] at CD
      rw [← hLV, ← hL1, ← hL2] at CP
      rw [← hL2, ← hL3] at CT
      rw [← hLV]
      rw [← hLV] at X6
      have lLV : LV.length = 17 := by rw [hLV, byN_length]
      have HL3 := hid hL3
      clear hLV hL1 hL2 hL3
      (with_reducible refine h_call ?_ ?_)
      ·exact rfl
      go_simp
      refine entersW_of ?_
      refine (CD.out w6.drew R6.out.drew).mono ?_
      rintro e w7 ⟨rfl, b7⟩
      refine ⟨_, rfl, b7, ?_⟩
      try simp only [Act.put, zz1, zz2, zz3]
      repeat
       (first
        | (with_reducible refine h_pure (v := ?_) (a' := ?_) ?_ (fun _ => ?_) ?_ ?_); rotate_left 2; (focus (exact rfl)); (focus (go_simp; (try go_bits); exact rfl))
        | (with_reducible refine h_obl (v := ?_) (a' := ?_) ?_ (fun _ hcw => ?_) ?_ ?_); rotate_left 2; (focus (exact rfl)); (focus (go_simp; (try go_bits); exact rfl))
        | (with_reducible refine h_read (v := ?_) (a' := ?_) ?_ (fun _ hbw => ?_) ?_ ?_); rotate_left 2; (focus (exact rfl)); (focus (go_simp; (try go_bits); exact rfl)))
       focus (simp only [Act.put, zz1, zz2, zz3, Act.eval, zz4, zz5, zz6, zz7, zz8]; exact rfl)
      (with_reducible refine h_call ?_ ?_)
      ·exact rfl
      go_simp
      refine entersW_of ?_
      refine (CP.out w7).mono ?_
      rintro e w8 ⟨rfl, b8⟩
      refine ⟨_, rfl, b8, ?_⟩
      try simp only [Act.put, zz1, zz2, zz3]
      repeat
       (first
        | (with_reducible refine h_pure (v := ?_) (a' := ?_) ?_ (fun _ => ?_) ?_ ?_); rotate_left 2; (focus (exact rfl)); (focus (go_simp; (try go_bits); exact rfl))
        | (with_reducible refine h_obl (v := ?_) (a' := ?_) ?_ (fun _ hcw => ?_) ?_ ?_); rotate_left 2; (focus (exact rfl)); (focus (have f1 := Q1 _ hcw; have f2 := Q2 _ hcw; go_simp; (try go_bits); exact rfl))
        | (with_reducible refine h_read (v := ?_) (a' := ?_) ?_ (fun _ hbw => ?_) ?_ ?_); rotate_left 2; (focus (exact rfl)); (focus (go_simp; (try go_bits); exact rfl)))
       focus (simp only [Act.put, zz1, zz2, zz3, Act.eval, zz4, zz5, zz6, zz7, zz8]; exact rfl)
      (with_reducible refine h_call ?_ ?_)
      ·exact rfl
      go_simp
      refine entersW_of ?_
      refine (CT.out w8).mono ?_
      rintro e w9 ⟨rfl, b9⟩
      refine ⟨_, rfl, b9, ?_⟩
      try simp only [Act.put, zz1, zz2, zz3]
      have d9 := (b7.trans (b8.mono b7.size)).trans (b9.mono (b7.trans (b8.mono b7.size)).size)
      refine h_tail [2] rfl (by simp) ?_
      refine z_storeRow (X6.out.drew.belowAll d9) rfl rfl (by rw [A8_size, A8_size, lLV, l3]) (A8_ones _) (by rw [A8_size, l3]; exact Tryz.sizeOf214 _) (fun w10 k10 g10 s10 => ?_)
      refine z_nil (hK' _ _ ?_)
      rw [HL3.out, HNX.out] at k10
      have X10 := hid k10
      have Y10 := hid ((Y6.out.drew.belowAll d9).grown g10 (by simp))
      have Z10 := hid ((Z6.out.drew.belowAll d9).grown g10 (by simp; omega))
      have B9 := B6.out.drew.trans (d9.mono B6.out.drew.size)
      have B10 := hid (B9.trans (grown_below g10 (by omega) B9.size))
      have D10 := hid ((D6.out.drew.below d9).away0 g10 (fun h0 ad had => by
       intro e
       obtain ⟨b, o, rfl, hbl, _⟩ := hr0.out.2.2.2 h0
       cases had
       have := hbl
       simp at e
       omega))
      clear Q1 Q2 hC0 hCb hK' b7 b8 b9 d9 k10 g10 s10 B9 X6 Y6 Z6 B6 D6 R6
      go_wp2
      exact ⟨⟨j + 1, by have := HK.out; omega, by rw [show 16 * (j + 1) = K + 16 by rw [HK.out]; omega]; go_num, Z10.out, Y10.out, X10.out, D10.out, B10.out⟩, by simp [intOf]; omega⟩
  ·have hjn : j = (n + 15) / 16 := by have := HK.out; omega
   have xx := X4.out
   rw [HV.out, hjn, show byN 17 (rv Y D ((n + 15) / 16)) = LF from HLF.out.symm] at xx
   have r1 := xx.row
   have r2 := Z4.out.row
   have r3 := Z4.out.whole
   have k1 : ¬ (K : Int) < (n : Int) := by omega
   clear xx
   go_wp2
   refine bodyPost_row (A8 LF) rfl rfl rfl (Tryz.isAgg214 _) (Tryz.sizeOf214 _) (by rw [A8_size]; exact lf) (rowAt_setRow _ r3) ⟨rfl, below_setRow B4.out (by omega) _⟩
open Go.RowKit
theorem putR_le64h (x : BitVec 64) : putR x 8 = le64 x := by
 show [_, _, _, _, _, _, _, _] = [_, _, _, _, _, _, _, _]
 simp
theorem refPolyH_any (l D : List (BitVec 8)) (a : Option Addr) (n c : Nat) (w : World) (hl : l.length = 16) (hr : Rd8 w a n c D) (hn : n ≤ 100000) :
  Calls Tryz.prog 136 #[.agg (A8 l), .slice a n c] w fun e w' => e = .returned (.agg (A8 (rhN l D))) ∧ Below w.heap.size w w' := by
 have hDl := hr.1
 obtain ⟨V, hV⟩ : ∃ z, z = rv (ryN l) D ((n + 15) / 16) := ⟨_, rfl⟩
 have hpv := fun wz hz => refPolyV_any l D a n c wz hl hz hn
 rw [← hV] at hpv
 obtain ⟨LF, hLF⟩ : ∃ z, z = byN 16 V := ⟨_, rfl⟩
 have lf : LF.length = 16 := by rw [hLF, byN_length]
 have hlow := fun wz => refLow_any17 V wz
 rw [← hLF] at hlow
 rw [show rhN l D = LF by rw [rhN, hDl, ← hV, hLF]]
 obtain ⟨LV, hLV⟩ : ∃ z, z = byN 17 V := ⟨_, rfl⟩
 rw [← hLV] at hpv hlow
 have HPV := hid hpv
 have HLOW := hid hlow
 clear hV hLF hLV hpv hlow
 obtain ⟨W, hW⟩ : ∃ W, (w.alloc (.cells (A8 l) 37)).alloc (.cells (A8 (zeros 8 16)) 37) = W := ⟨_, rfl⟩
 obtain ⟨b0, b1, hb, hz⟩ := new2 _ _ _ _ _ _ hW
 have r0 := b0.row
 have Z0 := hid b1
 have B0 := hid hb
 have D0 := hid (hr.below hb)
 clear b0 b1 hb hz hr
 go_enter Tryz.func136, Tryz.ntmps136
 go_wp2_with fail
 refine (HPV.out W D0.out).mono ?_
 rintro e w1 ⟨rfl, d1⟩
 clear hW r0
 go_wp2_with fail
 refine (HLOW.out w1).mono ?_
 rintro e w2 ⟨rfl, d2⟩
 have d3 := d1.trans (d2.mono d1.size)
 have z3 := Z0.out.belowAll d3
 have r2 := z3.row
 have r3 := z3.whole
 have B3 := hid (B0.out.trans (d3.mono B0.out.size))
 clear z3 d1 d2 d3
 go_wp2
 refine bodyPost_row (A8 LF) rfl rfl rfl (Tryz.isAgg37 _) (Tryz.sizeOf37 _) (by rw [A8_size]; exact lf) (rowAt_setRow _ r3) ⟨rfl, below_setRow B3.out (by omega) _⟩
theorem refHead_any (key tw : List (BitVec 8)) (a b : Option Addr) (n c m d k : Nat) (w : World) (hr : Rd8 w a n c key) (hn : 16 ≤ n) (ht : Rd8 w b m d tw) (hm : m ≤ 1000) (hk : k ≤ 1000000) :
  Calls Tryz.prog 88 #[.slice a n c, .slice b m d, .int .i64 k] w fun e w' => e = .returned (.agg (A8 (rheadN key tw k))) ∧ Below w.heap.size w w' := by
 have hkl := hr.1
 have htl := ht.1
 have hbl := blk_length key
 obtain ⟨LF, hLF⟩ : ∃ z, z = rheadN key tw k := ⟨_, rfl⟩
 have lf : LF.length = 16 := by rw [hLF, rheadN, rhN_length]
 obtain ⟨BK, hBK⟩ : ∃ z, z = blk key := ⟨_, rfl⟩
 obtain ⟨HW, hHW⟩ : ∃ z, z = headW k := ⟨_, rfl⟩
 have hph := fun wz sp c1 hz => refPolyH_any (blk key) (headB k ++ tw) sp (16 + m) c1 wz hbl hz (by omega)
 rw [show rhN (blk key) (headB k ++ tw) = LF from hLF.symm, show headB k = le64 HW.1 ++ le64 HW.2 by rw [hHW]; rfl] at hph
 rw [← hLF]
 rw [← hBK] at hph hbl
 have e1 : (BitVec.ofNat 64 k) <<< 3 = HW.1 := by rw [hHW]; rfl
 have e2 : (BitVec.ofNat 64 k) >>> 61 = HW.2 := by rw [hHW]; rfl
 have hbk := fun wz hz => refBlock16_any (key.take 16) a 16 c wz hz (by omega)
 rw [show blk (key.take 16) = BK by rw [hBK, blk, blk, List.take_take, Nat.min_self]] at hbk
 have E1 := hid e1
 have E2 := hid e2
 have PH := hid hph
 have BB := hid hbk
 clear hLF hBK hHW hph hbk e1 e2
 obtain ⟨W, hW⟩ : ∃ W, w.alloc (.cells (A8 (zeros 8 16)) 37) = W := ⟨_, rfl⟩
 obtain ⟨b0, hb, hz⟩ := new1 _ _ _ _ hW
 have Z0 := hid b0
 have B0 := hid hb
 have R0 := hid (hr.below hb)
 have T0 := hid (ht.below hb)
 have k0 : (0 : Int) ≤ (k : Int) := by omega
 have i1 : (16 : Int) ≤ (n : Int) := by omega
 have i2 : (16 : Int) ≤ (c : Int) := by have := hr.2.1; omega
 have HZ := hid (show w.heap.size < W.heap.size by omega)
 clear b0 hb hz hr ht
 go_enter Tryz.func88, Tryz.ntmps88
 go_wp2_with fail
 rw [E1.out]
 refine (refPut_any HW.1 8 W (by omega)).mono ?_
 rintro e w1 ⟨v1, rfl, o1, d1⟩
 rw [putR_le64h] at o1
 clear hW
 go_upto_region 2 with fail
 refine wp_region_plain [0,0,0,0,2,2,0] rfl (fun ops' K4 hK4 => ?_)
 repeat
  (first
   | (with_reducible refine z_move (a' := ?_) ?_ ?_); rotate_left
   | (with_reducible refine z_assign (a' := ?_) ?_ ?_); rotate_left
   | (with_reducible refine z_obl (v := ?_) (a' := ?_) rfl (fun _ => ?_) ?_ ?_); rotate_left 2; (focus (go_simp; (try go_bits); exact rfl))
   | (with_reducible refine z_read (v := ?_) (a' := ?_) rfl ?_ ?_ ?_); rotate_left 2; (focus (go_simp; (try go_bits); exact rfl)))
  focus (simp only [Act.put, zz1, zz2, zz3, Act.eval, zz4, zz5, zz6, zz7, zz8]; exact rfl)
 rw [E2.out]
 (with_reducible refine z_callw rfl ?_)
 go_simp
 refine entersW_of ?_
 refine (refPut_any HW.2 8 w1 (by omega)).mono ?_
 rintro e w2 ⟨v2, rfl, o2, d2⟩
 refine ⟨_, rfl, ?_⟩
 try simp only [Act.put, zz1, zz2, zz3]
 rw [putR_le64h] at o2
 obtain ⟨a2, c2, rfl, r2, _⟩ := o2.rd
 rw [le64_length] at r2 ⊢
 refine z_append8 (o1.below d2) r2 rfl rfl Tryz.underlying23 info8 (by rw [le64_length]; omega) (Nat.le_trans d1.size d2.size) (fun w3 v3 o3 g3 b3 => ?_)
 simp only [Act.put, zz1, zz2, zz3]
 repeat
  (first
   | (with_reducible refine z_move (a' := ?_) ?_ ?_); rotate_left
   | (with_reducible refine z_assign (a' := ?_) ?_ ?_); rotate_left
   | (with_reducible refine z_obl (v := ?_) (a' := ?_) rfl (fun _ => ?_) ?_ ?_); rotate_left 2; (focus (go_simp; (try go_bits); exact rfl))
   | (with_reducible refine z_read (v := ?_) (a' := ?_) rfl ?_ ?_ ?_); rotate_left 2; (focus (go_simp; (try go_bits); exact rfl)))
  focus (simp only [Act.put, zz1, zz2, zz3, Act.eval, zz4, zz5, zz6, zz7, zz8]; exact rfl)
 refine z_nil (hK4 _ _ ?_)
 have d3 := (d1.trans (d2.mono d1.size)).trans b3
 have O3 := hid o3
 have Z3 := hid (Z0.out.belowAll d3)
 have R3 := hid (R0.out.below d3)
 have T3 := hid (T0.out.below d3)
 have S3 := hid d3.size
 have B3 := hid (B0.out.trans (d3.mono B0.out.size))
 clear hK4 o1 d1 o2 d2 r2 o3 g3 b3 d3 Z0 R0 T0
 go_upto_region 3 with fail
 refine wp_region_plain [0,0,2,0,0,2,2,2] rfl (fun ops' K4 hK4 => ?_)
 repeat
  (first
   | (with_reducible refine z_move (a' := ?_) ?_ ?_); rotate_left
   | (with_reducible refine z_assign (a' := ?_) ?_ ?_); rotate_left
   | (with_reducible refine z_obl (v := ?_) (a' := ?_) rfl (fun _ => ?_) ?_ ?_); rotate_left 2; (focus (go_simp; (try go_bits); exact rfl))
   | (with_reducible refine z_read (v := ?_) (a' := ?_) rfl ?_ ?_ ?_); rotate_left 2; (focus (go_simp; (try go_bits); exact rfl)))
  focus (simp only [Act.put, zz1, zz2, zz3, Act.eval, zz4, zz5, zz6, zz7, zz8]; exact rfl)
 have rp := R3.out.pre (j := 16) hn
 (with_reducible refine z_callw rfl ?_)
 go_simp
 refine entersW_of ?_
 refine (BB.out w3 rp).mono ?_
 rintro e w4 ⟨rfl, d4⟩
 refine ⟨_, rfl, ?_⟩
 try simp only [Act.put, zz1, zz2, zz3]
 repeat
  (first
   | (with_reducible refine z_move (a' := ?_) ?_ ?_); rotate_left
   | (with_reducible refine z_assign (a' := ?_) ?_ ?_); rotate_left
   | (with_reducible refine z_obl (v := ?_) (a' := ?_) rfl (fun _ => ?_) ?_ ?_); rotate_left 2; (focus (go_simp; (try go_bits); exact rfl))
   | (with_reducible refine z_read (v := ?_) (a' := ?_) rfl ?_ ?_ ?_); rotate_left 2; (focus (go_simp; (try go_bits); exact rfl)))
  focus (simp only [Act.put, zz1, zz2, zz3, Act.eval, zz4, zz5, zz6, zz7, zz8]; exact rfl)
 refine z_append8 (O3.out.below d4) (T3.out.below d4) rfl rfl Tryz.underlying23 info8 (by rw [List.length_append, le64_length, le64_length]; omega) (Nat.le_trans S3.out d4.size) (fun w5 v5 o5 g5 b5 => ?_)
 simp only [Act.put, zz1, zz2, zz3]
 obtain ⟨a5, c5, rfl, r5, _⟩ := o5.rd
 rw [show (le64 HW.1 ++ le64 HW.2 ++ tw).length = 16 + m by rw [List.length_append, List.length_append, le64_length, le64_length, htl]] at r5 ⊢
 repeat
  (first
   | (with_reducible refine z_move (a' := ?_) ?_ ?_); rotate_left
   | (with_reducible refine z_assign (a' := ?_) ?_ ?_); rotate_left
   | (with_reducible refine z_obl (v := ?_) (a' := ?_) rfl (fun _ => ?_) ?_ ?_); rotate_left 2; (focus (go_simp; (try go_bits); exact rfl))
   | (with_reducible refine z_read (v := ?_) (a' := ?_) rfl ?_ ?_ ?_); rotate_left 2; (focus (go_simp; (try go_bits); exact rfl)))
  focus (simp only [Act.put, zz1, zz2, zz3, Act.eval, zz4, zz5, zz6, zz7, zz8]; exact rfl)
 (with_reducible refine z_callw rfl ?_)
 go_simp
 refine entersW_of ?_
 refine (PH.out w5 a5 c5 r5).mono ?_
 rintro e w6 ⟨rfl, d6⟩
 refine ⟨_, rfl, ?_⟩
 try simp only [Act.put, zz1, zz2, zz3]
 have dz := (d4.mono (show W.heap.size ≤ w3.heap.size from S3.out)).trans b5
 have dy := dz.trans (d6.mono (Nat.le_trans (Nat.le_trans S3.out d4.size) b5.size))
 have z6 := Z3.out.below dy HZ.out
 repeat
  (first
   | (with_reducible refine z_move (a' := ?_) ?_ ?_); rotate_left
   | (with_reducible refine z_assign (a' := ?_) ?_ ?_); rotate_left
   | (with_reducible refine z_obl (v := ?_) (a' := ?_) rfl (fun _ => ?_) ?_ ?_); rotate_left 2; (focus (go_simp; (try go_bits); exact rfl))
   | (with_reducible refine z_read (v := ?_) (a' := ?_) rfl ?_ ?_ ?_); rotate_left 2; (focus (go_simp; (try go_bits); exact rfl)))
  focus (simp only [Act.put, zz1, zz2, zz3, Act.eval, zz4, zz5, zz6, zz7, zz8]; exact rfl)
 refine z_storeRow z6 rfl rfl (by rw [A8_size, A8_size, lf, zeros_length]) (A8_ones _) (by rw [A8_size, lf]; exact Tryz.sizeOf37 _) (fun w7 k7 g7 s7 => ?_)
 refine z_nil (hK4 _ _ ?_)
 have r2 := k7.row
 have B6 := B3.out.trans (dy.mono B0.out.size)
 have B7 := hid (B6.trans (grown_below g7 (Nat.le_refl _) B6.size))
 clear hK4 rp d4 o5 g5 b5 r5 d6 dz dy z6 k7 g7 s7 B6
 go_wp2
 refine bodyPost_row (A8 LF) rfl rfl rfl (Tryz.isAgg37 _) (Tryz.sizeOf37 _) (by rw [A8_size]; exact lf) r2 ⟨rfl, B7.out⟩
open Go.RowKit
theorem info32 : (Tryz.prog.info? 132).map (fun i => (i.zero, i.size, i.bytes)) = some (some (.int .u32 0), 1, 4) := by kernel_rfl
theorem numTo_lt (l : List (BitVec 8)) (p : Nat) : (numTo l p 4).toNat < 2 ^ 32 := by
 have h0 := (nth l (p + 0)).isLt
 have h1 := (nth l (p + 1)).isLt
 have h2 := (nth l (p + 2)).isLt
 have h3 := (nth l (p + 3)).isLt
 show ((((0#64 * 256#64 + (nth l (p + 3)).setWidth 64) * 256#64 + (nth l (p + 2)).setWidth 64) * 256#64 + (nth l (p + 1)).setWidth 64) * 256#64 + (nth l (p + 0)).setWidth 64).toNat < _
 simp only [BitVec.toNat_add, BitVec.toNat_mul, BitVec.toNat_setWidth, show (0#64).toNat = 0 from rfl, show (256#64).toNat = 256 from rfl]
 omega
theorem numTo_wide (l : List (BitVec 8)) (p : Nat) : numTo l p 4 = (word l p).setWidth 64 := by
 have h := numTo_lt l p
 rw [← numTo_word]
 apply BitVec.eq_of_toNat_eq
 simp only [BitVec.toNat_setWidth]
 omega
theorem refWords_any (key : List (BitVec 8)) (a : Option Addr) (c : Nat) (w : World) (hr : Rd8 w a 1072 c key) :
  Calls Tryz.prog 137 #[.slice a 1072 c] w fun e w' => ∃ v, e = .returned (.tuple #[v, .int .i64 0]) ∧ Own32 w' w.heap.size 132 v (wdsN key 268) ∧ Below w.heap.size w w' := by
 have R0 := hid hr
 clear hr
 go_enter Tryz.func137, Tryz.ntmps137
 go_wp2_with fail
 go_loopw [4, 5] (fun v i wr => ∃ j : Nat, j ≤ 268 ∧ i = .int .i64 j ∧ Own32 wr w.heap.size 132 v (wdsN key j) ∧ Below w.heap.size w wr) (fun _ i _ => 268 - (intOf i).toNat)
 case atStart => exact ⟨0, by omega, rfl, Own32.nil_ _ _ _, Below.refl _ _⟩
 case round =>
  obtain ⟨j, hj, rfl, hO, hB⟩ := hrel
  have O1 := hid hO
  have B1 := hid hB
  clear hO hB
  by_cases hj2 : j < 268
  ·have j1 : (j : Int) < 268 := by omega
   obtain ⟨J4, hJ4⟩ : ∃ z, z = 4 * j := ⟨_, rfl⟩
   have e1 : 4 * (j : Int) = (J4 : Int) := by omega
   have e2 : IntKind.i64.wrap (J4 : Int) = (J4 : Int) := by rw [IntKind.wrap_i64]; omega
   have hnum := refNumber4_any key a 1072 c J4 wr (R0.out.below B1.out) (by omega)
   have hnw : (numTo key J4 4).setWidth 32 = word key (4 * j) := by rw [numTo_word, hJ4]
   obtain ⟨X, hX⟩ : ∃ z, z = numTo key J4 4 := ⟨_, rfl⟩
   rw [← hX] at hnum hnw
   have HN := hid hnum
   have HW := hid hnw
   clear hJ4 hnum hnw hX
   go_upto_region 7 with fail
   refine wp_region_plain [0,0,0,0,2,0,2,2,0] rfl (fun ops' K2 hK2 => ?_)
   repeat
    (first
     | (with_reducible refine z_move (a' := ?_) ?_ ?_); rotate_left
     | (with_reducible refine z_assign (a' := ?_) ?_ ?_); rotate_left
     | (with_reducible refine z_obl (v := ?_) (a' := ?_) rfl (fun _ => ?_) ?_ ?_); rotate_left 2; (focus (go_simp; (try go_bits); exact rfl))
     | (with_reducible refine z_read (v := ?_) (a' := ?_) rfl ?_ ?_ ?_); rotate_left 2; (focus (go_simp; (try go_bits); exact rfl)))
    focus (simp only [Act.put, zz1, zz2, zz3, Act.eval, zz4, zz5, zz6, zz7, zz8]; exact rfl)
   (with_reducible refine z_callw rfl ?_)
   go_simp
   refine entersW_of ?_
   refine (HN.out).mono ?_
   rintro e w2 ⟨rfl, rfl⟩
   refine ⟨_, rfl, ?_⟩
   try simp only [Act.put, zz1, zz2, zz3]
   repeat
    (first
     | (with_reducible refine z_move (a' := ?_) ?_ ?_); rotate_left
     | (with_reducible refine z_assign (a' := ?_) ?_ ?_); rotate_left
     | (with_reducible refine z_obl (v := ?_) (a' := ?_) rfl (fun _ => ?_) ?_ ?_); rotate_left 2; (focus (go_simp; (try go_bits); exact rfl))
     | (with_reducible refine z_read (v := ?_) (a' := ?_) rfl ?_ ?_ ?_); rotate_left 2; (focus (go_simp; (try go_bits); exact rfl)))
    focus (simp only [Act.put, zz1, zz2, zz3, Act.eval, zz4, zz5, zz6, zz7, zz8]; exact rfl)
   refine z_build1W (x := X.setWidth 32) rfl Tryz.underlying168 info32 (fun w3 b3 c3 d3 => ?_)
   simp only [Act.put, zz1, zz2, zz3]
   refine z_append32 (O1.out.below d3) c3 rfl rfl Tryz.underlying168 info32 (by simp; omega) (Nat.le_trans B1.out.size d3.size) (fun w4 v4 o4 g4 d4 => ?_)
   simp only [Act.put, zz1, zz2, zz3]
   repeat
    (first
     | (with_reducible refine z_move (a' := ?_) ?_ ?_); rotate_left
     | (with_reducible refine z_assign (a' := ?_) ?_ ?_); rotate_left
     | (with_reducible refine z_obl (v := ?_) (a' := ?_) rfl (fun _ => ?_) ?_ ?_); rotate_left 2; (focus (go_simp; (try go_bits); exact rfl))
     | (with_reducible refine z_read (v := ?_) (a' := ?_) rfl ?_ ?_ ?_); rotate_left 2; (focus (go_simp; (try go_bits); exact rfl)))
    focus (simp only [Act.put, zz1, zz2, zz3, Act.eval, zz4, zz5, zz6, zz7, zz8]; exact rfl)
   refine z_nil (hK2 _ _ ?_)
   rw [HW.out, wdsN_succ] at o4
   have O4 := hid o4
   have B4 := hid ((B1.out.trans (d3.mono B1.out.size)).trans d4)
   clear hK2 c3 d3 o4 g4 d4
   go_wp2
   exact ⟨⟨j + 1, by omega, by go_num, O4.out, B4.out⟩, by simp [intOf]; omega⟩
  ·obtain rfl : j = 268 := by omega
   go_wp2
   go_ret2
   exact ⟨_, rfl, O1.out, B1.out⟩
def psP (ws : List (BitVec 32)) (b : List (BitVec 8)) (p u : Nat) : Nat → BitVec 64
 | 0 => psN ws b p u
 | q + 1 => psP ws b p u q + psX ws b p u q
theorem psP_two (ws : List (BitVec 32)) (b : List (BitVec 8)) (p u : Nat) : psP ws b p u 2 = psN ws b p (u + 1) := rfl
theorem refPass_any (ws : List (BitVec 32)) (b : List (BitVec 8)) (p : Nat) (aw a : Option Addr) (nw cw n c : Nat) (w : World) (hp : p < 4) (hw : Rd32 w aw nw cw ws) (hr : Rd8 w a n c b) (hn : n ≤ 1024) (hnw : n / 4 + 12 ≤ nw) (h16 : n % 16 = 0) :
  Calls Tryz.prog 167 #[.slice aw nw cw, .slice a n c, .int .i64 p] w fun e w' => e = .returned (v64 (psN ws b p (n / 16))) ∧ Below w.heap.size w w' := by
 obtain ⟨bw, ow, rfl, hbw, hcw⟩ := hw.2.2.2 (by omega)
 obtain ⟨U, hU⟩ : ∃ z, z = n / 16 := ⟨_, rfl⟩
 rw [← hU]
 have HCW := hid hcw
 have HBW := hid hbw
 have R0 := hid hr
 have u1 : (n : Int) / 16 = (U : Int) := by omega
 have u2 : IntKind.i64.wrap (U : Int) = (U : Int) := by rw [IntKind.wrap_i64]; omega
 obtain ⟨P4, hP4⟩ : ∃ z, z = 4 * p := ⟨_, rfl⟩
 have p1 : 4 * (p : Int) = (P4 : Int) := by omega
 have p2 : IntKind.i64.wrap (P4 : Int) = (P4 : Int) := by rw [IntKind.wrap_i64]; omega
 have HN := hid (show 16 * U = n ∧ P4 = 4 * p ∧ 4 * U + 12 ≤ nw ∧ n ≤ 1024 ∧ p < 4 by omega)
 clear hcw hbw hr hw hP4 hU hnw h16 hn
 go_enter Tryz.func167, Tryz.ntmps167
 go_wp2_with fail
 go_loopw [7, 8] (fun s u wr => ∃ t : Nat, t ≤ U ∧ u = .int .i64 t ∧ s = v64 (psN ws b p t) ∧ Below w.heap.size w wr) (fun _ u _ => U - (intOf u).toNat)
 case atStart => exact ⟨0, by omega, rfl, rfl, Below.refl _ _⟩
 case round =>
  obtain ⟨t, ht, rfl, rfl, hB⟩ := hrel
  have B1 := hid hB
  clear hB
  by_cases htU : t < U
  ·have t1 : (t : Int) < (U : Int) := by omega
   obtain ⟨T4, hT4⟩ : ∃ z, z = 4 * t := ⟨_, rfl⟩
   obtain ⟨T16, hT16⟩ : ∃ z, z = 16 * t := ⟨_, rfl⟩
   obtain ⟨KK, hKK⟩ : ∃ z, z = T4 + P4 := ⟨_, rfl⟩
   have t2 : 4 * (t : Int) = (T4 : Int) := by omega
   have t3 : IntKind.i64.wrap (T4 : Int) = (T4 : Int) := by have := HN.out; rw [IntKind.wrap_i64]; omega
   have t4 : 16 * (t : Int) = (T16 : Int) := by omega
   have t5 : IntKind.i64.wrap (T16 : Int) = (T16 : Int) := by have := HN.out; rw [IntKind.wrap_i64]; omega
   have t6 : (T4 : Int) + (P4 : Int) = (KK : Int) := by omega
   have t7 : IntKind.i64.wrap (KK : Int) = (KK : Int) := by have := HN.out; rw [IntKind.wrap_i64]; omega
   obtain ⟨TJ, hTJ⟩ : ∃ z, z = t + 1 := ⟨_, rfl⟩
   have t8 : (t : Int) + 1 = (TJ : Int) := by omega
   have t9 : IntKind.i64.wrap (TJ : Int) = (TJ : Int) := by have := HN.out; rw [IntKind.wrap_i64]; omega
   have HTJ := hid hTJ
   clear hTJ
   have HT := hid (show T16 = 16 * t ∧ KK = 4 * t + 4 * p by have := HN.out; omega)
   clear hT4 hT16 hKK
   go_wp2_with fail
   go_loopw [7, 10] (fun s i wr => ∃ q : Nat, q ≤ 2 ∧ i = .int .i64 q ∧ s = v64 (psP ws b p t q) ∧ Below w.heap.size w wr) (fun _ i _ => 2 - (intOf i).toNat)
   case atStart => exact ⟨0, by omega, rfl, rfl, B1.out⟩
   case round =>
    revert wr
    intro wq hrel
    obtain ⟨q, hq, rfl, rfl, hB⟩ := hrel
    have B2 := hid hB
    clear hB B1
    by_cases hq2 : q < 2
    ·have q1 : (q : Int) < 2 := by omega
     obtain ⟨Q4, hQ4⟩ : ∃ z, z = 4 * q := ⟨_, rfl⟩
     obtain ⟨QJ, hQJ⟩ : ∃ z, z = q + 1 := ⟨_, rfl⟩
     have qg : (q : Int) + 1 = (QJ : Int) := by omega
     have qh : IntKind.i64.wrap (QJ : Int) = (QJ : Int) := by rw [IntKind.wrap_i64]; omega
     have HQJ := hid hQJ
     clear hQJ
     obtain ⟨PA, hPA⟩ : ∃ z, z = T16 + Q4 := ⟨_, rfl⟩
     obtain ⟨PB, hPB⟩ : ∃ z, z = PA + 8 := ⟨_, rfl⟩
     obtain ⟨KA, hKA⟩ : ∃ z, z = KK + q := ⟨_, rfl⟩
     obtain ⟨KB, hKB⟩ : ∃ z, z = KA + 2 := ⟨_, rfl⟩
     have q2 : 4 * (q : Int) = (Q4 : Int) := by omega
     have q3 : IntKind.i64.wrap (Q4 : Int) = (Q4 : Int) := by rw [IntKind.wrap_i64]; omega
     have q4 : (T16 : Int) + (Q4 : Int) = (PA : Int) := by omega
     have q5 : IntKind.i64.wrap (PA : Int) = (PA : Int) := by have := HN.out; have := HT.out; rw [IntKind.wrap_i64]; omega
     have q6 : (PA : Int) + 8 = (PB : Int) := by omega
     have q7 : IntKind.i64.wrap (PB : Int) = (PB : Int) := by have := HN.out; have := HT.out; rw [IntKind.wrap_i64]; omega
     have q8 : (KK : Int) + (q : Int) = (KA : Int) := by omega
     have q9 : IntKind.i64.wrap (KA : Int) = (KA : Int) := by have := HN.out; have := HT.out; rw [IntKind.wrap_i64]; omega
     have qa : (KA : Int) + 2 = (KB : Int) := by omega
     have qb : IntKind.i64.wrap (KB : Int) = (KB : Int) := by have := HN.out; have := HT.out; rw [IntKind.wrap_i64]; omega
     have qc : (KA : Int) < (nw : Int) := by have := HN.out; have := HT.out; omega
     have qd : (KB : Int) < (nw : Int) := by have := HN.out; have := HT.out; omega
     have qe : (0 : Int) ≤ (KA : Int) := by omega
     have qf : (0 : Int) ≤ (KB : Int) := by omega
     have ca : wq.cell? ⟨bw, ow + KA, none⟩ = some (v32 (nth ws KA)) := by rw [B2.out.cell HBW.out]; exact HCW.out KA (by omega)
     have cb : wq.cell? ⟨bw, ow + KB, none⟩ = some (v32 (nth ws KB)) := by rw [B2.out.cell HBW.out]; exact HCW.out KB (by omega)
     have hx : psP ws b p t (q + 1) = psP ws b p t q + nhPlus ((word b PA).setWidth 64) (nth ws KA) * nhPlus ((word b PB).setWidth 64) (nth ws KB) := by
      have h1 := HT.out
      rw [psP, psX, show 16 * t + 4 * q = PA by omega, show 4 * t + 4 * p + q = KA by omega, show PA + 8 = PB by omega, show KA + 2 = KB by omega]
     have hPAl : PA ≤ 1000000000 := by have := HN.out; have := HT.out; omega
     have hPBl : PB ≤ 1000000000 := by have := HN.out; have := HT.out; omega
     have CA := hid ca
     have CB := hid cb
     have HX := hid hx
     have HPA := hid hPAl
     have HPB' := hid hPBl
     have R3 := hid (R0.out.below B2.out)
     have HBq := hid (Nat.lt_of_lt_of_le HBW.out B2.out.size)
     obtain ⟨SS, hSS⟩ : ∃ z, z = psP ws b p t q := ⟨_, rfl⟩
     rw [← hSS]
     rw [← hSS] at HX
     clear hQ4 hPA hPB hKA hKB ca cb hx hPAl hPBl hSS
     go_upto_region 9 with fail
     refine wp_region_tail [0,0,0,0,0,0,2,0,0,0,0,0,5,2,0] (by kernel_rfl) (by kernel_rfl) (fun C0 hC0 hCb K' hK' => ?_)
     repeat
      (first
       | (with_reducible refine h_pure (v := ?_) (a' := ?_) ?_ (fun _ => ?_) ?_ ?_); rotate_left 2; (focus (exact rfl)); (focus (go_simp; (try go_bits); exact rfl))
       | (with_reducible refine h_obl (v := ?_) (a' := ?_) ?_ (fun _ hcw => ?_) ?_ ?_); rotate_left 2; (focus (exact rfl)); (focus (go_simp; (try go_bits); exact rfl))
       | (with_reducible refine h_read (v := ?_) (a' := ?_) ?_ (fun _ hbw => ?_) ?_ ?_); rotate_left 2; (focus (exact rfl)); (focus (go_simp; (try go_bits); exact rfl)))
      focus (simp only [Act.put, zz1, zz2, zz3, Act.eval, zz4, zz5, zz6, zz7, zz8]; exact rfl)
     (with_reducible refine h_call ?_ ?_)
     ·exact rfl
     go_simp
     refine entersW_of ?_
     refine (refNumber4_any b a n c PA wq.drew R3.out.drew HPA.out).mono ?_
     rintro e w3 ⟨rfl, rfl⟩
     refine ⟨_, rfl, (Below.refl _ _), ?_⟩
     try simp only [Act.put, zz1, zz2, zz3]
     rw [numTo_wide]
     have Q1 : ∀ w1, C0 w1 → w1.cell? ⟨bw, ow + KA, none⟩ = some (v32 (nth ws KA)) := fun w1 h => by
      rw [(hCb w1 h).cell HBq.out]
      exact CA.out
     repeat
      (first
       | (with_reducible refine h_pure (v := ?_) (a' := ?_) ?_ (fun _ => ?_) ?_ ?_); rotate_left 2; (focus (exact rfl)); (focus (go_simp; (try go_bits); exact rfl))
       | (with_reducible refine h_obl (v := ?_) (a' := ?_) ?_ (fun _ hcw => ?_) ?_ ?_); rotate_left 2; (focus (exact rfl)); (focus (have f1 := Q1 _ hcw; go_simp; (try go_bits); exact rfl))
       | (with_reducible refine h_read (v := ?_) (a' := ?_) ?_ (fun _ hbw => ?_) ?_ ?_); rotate_left 2; (focus (exact rfl)); (focus (go_simp; (try go_bits); exact rfl)))
      focus (simp only [Act.put, zz1, zz2, zz3, Act.eval, zz4, zz5, zz6, zz7, zz8]; exact rfl)
     (with_reducible refine h_call ?_ ?_)
     ·exact rfl
     go_simp
     refine entersW_of ?_
     refine (refNhPlus_any ((word b PA).setWidth 64) (nth ws KA) wq.drew).mono ?_
     rintro e w3 ⟨rfl, rfl⟩
     refine ⟨_, rfl, (Below.refl _ _), ?_⟩
     try simp only [Act.put, zz1, zz2, zz3]
     repeat
      (first
       | (with_reducible refine h_pure (v := ?_) (a' := ?_) ?_ (fun _ => ?_) ?_ ?_); rotate_left 2; (focus (exact rfl)); (focus (go_simp; (try go_bits); exact rfl))
       | (with_reducible refine h_obl (v := ?_) (a' := ?_) ?_ (fun _ hcw => ?_) ?_ ?_); rotate_left 2; (focus (exact rfl)); (focus (go_simp; (try go_bits); exact rfl))
       | (with_reducible refine h_read (v := ?_) (a' := ?_) ?_ (fun _ hbw => ?_) ?_ ?_); rotate_left 2; (focus (exact rfl)); (focus (go_simp; (try go_bits); exact rfl)))
      focus (simp only [Act.put, zz1, zz2, zz3, Act.eval, zz4, zz5, zz6, zz7, zz8]; exact rfl)
     refine h_tail [] rfl (by simp) (z_nil (hK' _ _ ?_))
     have R4 := hid R3.out.drew
     have B4 := hid B2.out.drew
     have CB4 := hid (show wq.drew.cell? ⟨bw, ow + KB, none⟩ = some (v32 (nth ws KB)) from CB.out)
     have HBq4 := hid (show bw < wq.drew.heap.size from HBq.out)
     clear Q1 hC0 hCb hK' R3 B2 CA CB HBq
     generalize wq.drew = wd at *
     obtain ⟨XA, hXA⟩ : ∃ z, z = nhPlus ((word b PA).setWidth 64) (nth ws KA) := ⟨_, rfl⟩
     rw [← hXA] at HX ⊢
     clear hXA
     go_upto_region 10 with fail
     refine wp_region_tail [0,0,0,0,0,0,0,2,0,0,0,0,0,0,5,2,0] (by kernel_rfl) (by kernel_rfl) (fun C0 hC0 hCb K' hK' => ?_)
     repeat
      (first
       | (with_reducible refine h_pure (v := ?_) (a' := ?_) ?_ (fun _ => ?_) ?_ ?_); rotate_left 2; (focus (exact rfl)); (focus (go_simp; (try go_bits); exact rfl))
       | (with_reducible refine h_obl (v := ?_) (a' := ?_) ?_ (fun _ hcw => ?_) ?_ ?_); rotate_left 2; (focus (exact rfl)); (focus (go_simp; (try go_bits); exact rfl))
       | (with_reducible refine h_read (v := ?_) (a' := ?_) ?_ (fun _ hbw => ?_) ?_ ?_); rotate_left 2; (focus (exact rfl)); (focus (go_simp; (try go_bits); exact rfl)))
      focus (simp only [Act.put, zz1, zz2, zz3, Act.eval, zz4, zz5, zz6, zz7, zz8]; exact rfl)
     (with_reducible refine h_call ?_ ?_)
     ·exact rfl
     go_simp
     refine entersW_of ?_
     refine (refNumber4_any b a n c PB wd.drew R4.out.drew HPB'.out).mono ?_
     rintro e w3 ⟨rfl, rfl⟩
     refine ⟨_, rfl, (Below.refl _ _), ?_⟩
     try simp only [Act.put, zz1, zz2, zz3]
     rw [numTo_wide]
     have Q1 : ∀ w1, C0 w1 → w1.cell? ⟨bw, ow + KB, none⟩ = some (v32 (nth ws KB)) := fun w1 h => by
      rw [(hCb w1 h).cell HBq4.out]
      exact CB4.out
     repeat
      (first
       | (with_reducible refine h_pure (v := ?_) (a' := ?_) ?_ (fun _ => ?_) ?_ ?_); rotate_left 2; (focus (exact rfl)); (focus (go_simp; (try go_bits); exact rfl))
       | (with_reducible refine h_obl (v := ?_) (a' := ?_) ?_ (fun _ hcw => ?_) ?_ ?_); rotate_left 2; (focus (exact rfl)); (focus (have f1 := Q1 _ hcw; go_simp; (try go_bits); exact rfl))
       | (with_reducible refine h_read (v := ?_) (a' := ?_) ?_ (fun _ hbw => ?_) ?_ ?_); rotate_left 2; (focus (exact rfl)); (focus (go_simp; (try go_bits); exact rfl)))
      focus (simp only [Act.put, zz1, zz2, zz3, Act.eval, zz4, zz5, zz6, zz7, zz8]; exact rfl)
     (with_reducible refine h_call ?_ ?_)
     ·exact rfl
     go_simp
     refine entersW_of ?_
     refine (refNhPlus_any ((word b PB).setWidth 64) (nth ws KB) wd.drew).mono ?_
     rintro e w3 ⟨rfl, rfl⟩
     refine ⟨_, rfl, (Below.refl _ _), ?_⟩
     try simp only [Act.put, zz1, zz2, zz3]
     repeat
      (first
       | (with_reducible refine h_pure (v := ?_) (a' := ?_) ?_ (fun _ => ?_) ?_ ?_); rotate_left 2; (focus (exact rfl)); (focus (go_simp; (try go_bits); exact rfl))
       | (with_reducible refine h_obl (v := ?_) (a' := ?_) ?_ (fun _ hcw => ?_) ?_ ?_); rotate_left 2; (focus (exact rfl)); (focus (go_simp; (try go_bits); exact rfl))
       | (with_reducible refine h_read (v := ?_) (a' := ?_) ?_ (fun _ hbw => ?_) ?_ ?_); rotate_left 2; (focus (exact rfl)); (focus (go_simp; (try go_bits); exact rfl)))
      focus (simp only [Act.put, zz1, zz2, zz3, Act.eval, zz4, zz5, zz6, zz7, zz8]; exact rfl)
     refine h_tail [] rfl (by simp) (z_nil (hK' _ _ ?_))
     have B5 := hid B4.out.drew
     clear Q1 hC0 hCb hK' R4 B4 CB4 HBq4
     generalize wd.drew = we at *
     obtain ⟨XB, hXB⟩ : ∃ z, z = nhPlus ((word b PB).setWidth 64) (nth ws KB) := ⟨_, rfl⟩
     rw [← hXB] at HX ⊢
     clear hXB
     go_wp2
     exact ⟨⟨q + 1, by omega, by rw [HQJ.out], by rw [HX.out], B5.out⟩, by have := HQJ.out; simp only [intOf, Int.toNat_natCast]; omega⟩
    ·obtain rfl : q = 2 := by omega
     go_wp2
     exact ⟨⟨t + 1, by omega, by rw [HTJ.out], by rw [psP_two], B2.out⟩, by have := HTJ.out; simp only [intOf, Int.toNat_natCast]; omega⟩
  ·obtain rfl : t = U := by omega
   go_wp2
   go_ret
   exact ⟨rfl, B1.out⟩
open Go.RowKit
theorem putR_le64n (x : BitVec 64) : putR x 8 = le64 x := by
 show [_, _, _, _, _, _, _, _] = [_, _, _, _, _, _, _, _]
 simp
theorem splc_next (m l : List (BitVec 8)) (o i : Nat) (h : o + l.length ≤ m.length) (hi : i < l.length) : (splc m o (l.take i)).set (o + i) (nth l i) = splc m o (l.take (i + 1)) := by
 have h1 : (l.take i).length = i := by rw [List.length_take]; omega
 have h2 : (l.take (i + 1)).length = i + 1 := by rw [List.length_take]; omega
 have l1 := splc_length m o (l.take i) (by omega)
 have l2 := splc_length m o (l.take (i + 1)) (by omega)
 apply ext_nth
 ·rw [List.length_set, l1, l2]
 ·intro k hk
  rw [List.length_set, l1] at hk
  rw [nth_set _ _ _ _ (by rw [l1]; omega), nth_splc _ _ _ (by omega), nth_splc _ _ _ (by omega), h1, h2]
  by_cases e : o + i = k
  ·subst e
   rw [if_pos rfl, if_pos (by omega), nth_take _ _ _ (by omega), show o + i - o = i by omega]
  ·rw [if_neg e]
   by_cases hc : o ≤ k ∧ k < o + i
   ·rw [if_pos hc, if_pos (by omega), nth_take _ _ _ (by omega), nth_take _ _ _ (by omega)]
   ·rw [if_neg hc, if_neg (by omega)]
theorem refNhHash_any (ws : List (BitVec 32)) (b : List (BitVec 8)) (aw a : Option Addr) (cw n c : Nat) (w : World) (hw : Rd32 w aw 268 cw ws) (hr : Rd8 w a n c b) (hn : n ≤ 1024) (h16 : n % 16 = 0) :
  Calls Tryz.prog 138 #[.slice aw 268 cw, .slice a n c] w fun e w' => e = .returned (.tuple #[.agg (A8 (hashN ws b)), .int .i64 0]) ∧ Below w.heap.size w w' := by
 have hbl := hr.1
 obtain ⟨W, hW⟩ : ∃ W, (w.alloc (.cells (A8 (zeros 8 32)) 22)).alloc (.cells (A8 (zeros 8 32)) 22) = W := ⟨_, rfl⟩
 obtain ⟨b0, b1, hb, hz⟩ := new2 _ _ _ _ _ _ hW
 obtain ⟨S, hS⟩ : ∃ z, z = nhTo ws b (n / 16) := ⟨_, rfl⟩
 have hSp : ∀ p, p < 4 → psN ws b p (n / 16) = nth S p := fun p hp => by rw [hS, psN_nhTo ws b p hp]
 obtain ⟨out, hout⟩ : ∃ z, z = hashN ws b := ⟨_, rfl⟩
 have hol : out.length = 32 := by rw [hout]; exact hashN_length _ _
 have hlo : layTo S 4 = out := by rw [hout, hashN, hbl, hS]
 rw [← hout]
 have hn1 : ¬ (1024 : Int) < (n : Int) := by omega
 have hn2 : (n : Int) % 16 = 0 := by omega
 obtain ⟨N4, hN4⟩ : ∃ z, z = n / 4 := ⟨_, rfl⟩
 obtain ⟨M4, hM4⟩ : ∃ z, z = N4 + 12 := ⟨_, rfl⟩
 have hn3 : (n : Int) / 4 = (N4 : Int) := by omega
 have hn4 : IntKind.i64.wrap (N4 : Int) = (N4 : Int) := by rw [IntKind.wrap_i64]; omega
 have hn5 : (N4 : Int) + 12 = (M4 : Int) := by omega
 have hn6 : IntKind.i64.wrap (M4 : Int) = (M4 : Int) := by rw [IntKind.wrap_i64]; omega
 have hn7 : ¬ (268 : Int) < (M4 : Int) := by omega
 have hn8 : IntKind.i64.wrap 0 = 0 := by rw [IntKind.wrap_i64]; rfl
 have HN := hid (show n ≤ 1024 ∧ n % 16 = 0 by omega)
 have Z0 := hid b0
 have X0 := hid b1
 have B0 := hid hb
 have R0 := hid (hr.below hb)
 have W0 := hid (hw.below hb)
 have HSP := hid hSp
 have HR0 := hid hr
 have HW0 := hid hw
 have HLO := hid hlo
 clear b0 b1 hb hz hr hw hS hSp hout hlo hN4 hM4 hn h16
 go_enter Tryz.func138, Tryz.ntmps138
 go_wp2_with fail
 clear hW hn1 hn2 hn3 hn4 hn5 hn6 hn7 hn8
 go_loopw [7] (fun p wr => ∃ t : Nat, t ≤ 4 ∧ p = .int .i64 t ∧ Blk wr w.heap.size 22 (A8 (zeros 8 32)) ∧ Blk wr (w.heap.size + 1) 22 (A8 (layTo S t)) ∧ Rd8 wr a n c b ∧ Rd32 wr aw 268 cw ws ∧ Below w.heap.size w wr) (fun p _ => 4 - (intOf p).toNat)
 case atStart => exact ⟨0, by omega, rfl, Z0.out, X0.out, R0.out, W0.out, B0.out⟩
 case round =>
  revert wr
  intro wo hrel
  obtain ⟨t, ht, rfl, hZ, hX, hR, hWd, hB⟩ := hrel
  have Z1 := hid hZ
  have X1 := hid hX
  have R1 := hid hR
  have W1 := hid hWd
  have B1 := hid hB
  clear hZ hX hR hWd hB Z0 X0 R0 W0 B0
  by_cases ht4 : t < 4
  ·have t1 : (t : Int) < 4 := by omega
   obtain ⟨T8, hT8⟩ : ∃ z, z = 8 * t := ⟨_, rfl⟩
   have t2 : 8 * (t : Int) = (T8 : Int) := by omega
   have t3 : IntKind.i64.wrap (T8 : Int) = (T8 : Int) := by rw [IntKind.wrap_i64]; omega
   have HT8 := hid hT8
   clear hT8
   go_wp2_with fail
   have e1 := HN.out.1
   have e2 := HN.out.2
   have e3 : n / 4 + 12 ≤ 268 := by omega
   have hps := refPass_any ws b t aw a 268 cw n c wo ht4 W1.out R1.out e1 e3 e2
   rw [HSP.out t ht4] at hps
   have HPS := hid hps
   clear hps e1 e2 e3
   refine (HPS.out).mono ?_
   rintro e w2 ⟨rfl, d2⟩
   clear HPS
   obtain ⟨x, hx⟩ : ∃ x, x = nth S t := ⟨_, rfl⟩
   rw [← hx]
   have HXX := hid hx
   clear hx
   go_wp2_with fail
   refine (refPut_any x 8 w2 (by omega)).mono ?_
   rintro e w3 ⟨v3, rfl, o3, d3⟩
   rw [putR_le64n] at o3
   obtain ⟨a3, c3, rfl, r3, hfar⟩ := o3.rd
   rw [le64_length] at r3 ⊢
   have d4 := d2.trans (d3.mono d2.size)
   obtain ⟨b5, o5, rfl, hb5, hc5⟩ := r3.2.2.2 (by omega)
   have hgo : w.heap.size + 1 < b5 := by
    have h1 := hfar _ rfl
    have h2 : w.heap.size + 1 < wo.heap.size := X1.out.lt
    have h3 := d2.size
    simp only at h1
    omega
   obtain ⟨l, hl⟩ : ∃ l, l = le64 x := ⟨_, rfl⟩
   have hll : l.length = 8 := by rw [hl]; rfl
   rw [← hl] at r3
   have hlay := layTo_length S t (by omega)
   have hnx : splc (layTo S t) T8 l = layTo S (t + 1) := by rw [layTo, HT8.out, hl, HXX.out]
   have hlay2 := layTo_length S (t + 1) (by omega)
   obtain ⟨F, hF⟩ : ∃ F, F = layTo S t := ⟨_, rfl⟩
   rw [← hF] at hlay hnx
   have x1 := X1.out.belowAll d4
   rw [← hF] at x1
   have Z2 := hid (Z1.out.belowAll d4)
   have X2 := hid x1
   have R2 := hid (R1.out.below d4)
   have W2 := hid (W1.out.below d4)
   have B2 := hid (B1.out.trans (d4.mono B1.out.size))
   have V2 := hid r3
   have HNX := hid hnx
   have HLAY := hid hlay
   clear o3 d2 d3 r3 hfar d4 hb5 hc5 hl hlay hnx hF x1 Z1 X1 R1 W1 B1
   go_wp2_with fail
   go_loopw [9] (fun i wr => ∃ q : Nat, q ≤ 8 ∧ i = .int .i64 q ∧ Blk wr w.heap.size 22 (A8 (zeros 8 32)) ∧ Blk wr (w.heap.size + 1) 22 (A8 (splc F T8 (l.take q))) ∧ Rd8 wr a n c b ∧ Rd32 wr aw 268 cw ws ∧ Rd8 wr (some ⟨b5, o5, none⟩) 8 c3 l ∧ Below w.heap.size w wr) (fun i _ => 8 - (intOf i).toNat)
   case atStart => exact ⟨0, by omega, rfl, Z2.out, by rw [List.take_zero, splc_nil]; exact X2.out, R2.out, W2.out, V2.out, B2.out⟩
   case round =>
    obtain ⟨q, hq, rfl, hZ, hX, hR, hWd, hV, hB⟩ := hrel
    have Z3 := hid hZ
    have X3 := hid hX
    have R3 := hid hR
    have W3 := hid hWd
    have V3 := hid hV
    have B3 := hid hB
    clear hZ hX hR hWd hV hB Z2 X2 R2 W2 V2 B2
    by_cases hq8 : q < 8
    ·have q1 : (q : Int) < 8 := by omega
     have q0 : (0 : Int) ≤ (q : Int) := by omega
     obtain ⟨K, hK⟩ : ∃ K, K = T8 + q := ⟨_, rfl⟩
     have q2 : (T8 : Int) + (q : Int) = (K : Int) := by omega
     have q3 : IntKind.i64.wrap (K : Int) = (K : Int) := by have := HT8.out; rw [IntKind.wrap_i64]; omega
     have q4 : (K : Int) < 32 := by have := HT8.out; omega
     have q5 : (0 : Int) ≤ (K : Int) := by omega
     have hK32 : K < 32 := by omega
     have hsl : (splc F T8 (l.take q)).length = 32 := by rw [splc_length _ _ _ (by have := HT8.out; have := HLAY.out; rw [List.length_take]; omega), HLAY.out]
     have c1 := X3.out.cell8 hsl K hK32
     have fo := X3.out.frozen K
     obtain ⟨b6, o6, e6, hb6, hc6⟩ := V3.out.2.2.2 (by omega)
     cases e6
     have c2 := hc6 q hq8
     have hst := splc_next F l T8 q (by have := HT8.out; have := HLAY.out; omega) (by omega)
     rw [← hK] at hst
     obtain ⟨XX, hXX⟩ : ∃ X, X = nth l q := ⟨_, rfl⟩
     rw [← hXX] at c2 hst
     obtain ⟨w4, hw4⟩ : ∃ z, z = wr.setCell ⟨w.heap.size + 1, K, none⟩ (v8 XX) := ⟨_, rfl⟩
     have y1 := X3.out.set_ K (v8 XX)
     have g1 := grown_setCell wr (w.heap.size + 1) K (v8 XX)
     rw [A8_set, ← hw4, hst] at y1
     rw [← hw4] at g1
     have hne : ∀ ad, a = some ad → ad.block ≠ w.heap.size + 1 ∨ n = 0 := by
      intro ad had
      by_cases h0 : 0 < n
      ·obtain ⟨b7, o7, e7, hb7, _⟩ := HR0.out.2.2.2 h0
       rw [had] at e7
       cases e7
       left
       show b7 ≠ _
       omega
      ·right; omega
     have Z4 := hid (Z3.out.grown g1 (by simp))
     have X4 := hid y1
     have R4 := hid (R3.out.away0 g1 (fun h0 ad had => by
      rcases hne ad had with h | h
      ·exact h
      ·omega))
     have W4 := hid (show Rd32 w4 aw 268 cw ws from by
      obtain ⟨h1, h2, h3, h4⟩ := W3.out
      refine ⟨h1, h2, h3, fun h0 => ?_⟩
      obtain ⟨b7, o7, e7, hb7, hc7⟩ := h4 h0
      obtain ⟨b8, o8, e8, hb8, _⟩ := HW0.out.2.2.2 h0
      rw [e8] at e7
      cases e7
      refine ⟨b7, o7, e8, by rw [hw4]; simpa using hb7, fun i hi => ?_⟩
      rw [← hc7 i hi, hw4]
      exact World.cell?_setCell_other _ _ _ _ (by intro e; have := congrArg Addr.block e; simp at this; omega))
     have V4 := hid (show Rd8 w4 (some ⟨b5, o5, none⟩) 8 c3 l from by rw [hw4]; exact V3.out.far (j := K) (show b5 ≠ w.heap.size + 1 by omega) (v8 XX))
     have B4 := hid (B3.out.trans (grown_below g1 (by omega) B3.out.size))
     have HW4 := hid hw4
     clear y1 g1 hw4 hst Z3 X3 R3 W3 V3 B3 hXX hK hne hc6 hb6
     go_wp2
     rw [show wr.setCell ⟨w.heap.size + 1, K, none⟩ (v8 XX) = w4 from HW4.out.symm]
     exact ⟨⟨q + 1, by omega, by go_num, Z4.out, X4.out, R4.out, W4.out, V4.out, B4.out⟩, by simp [intOf]; omega⟩
    ·obtain rfl : q = 8 := by omega
     have x4 := X3.out
     rw [List.take_of_length_le (by omega), HNX.out] at x4
     have X4 := hid x4
     clear x4
     go_wp2
     exact ⟨⟨t + 1, by omega, by go_num, Z3.out, X4.out, R3.out, W3.out, B3.out⟩, by simp [intOf]; omega⟩
  ·obtain rfl : t = 4 := by omega
   have h1 := X1.out
   rw [HLO.out] at h1
   have r1 := h1.row
   have r0 := Z1.out.row
   have wz := Z1.out.whole
   clear h1
   go_wp2
   (try simp only [Exit.jump])
   (try simp only [Exit.inBlock, Exit.then])
   refine bodyPost_row_tmp (A8 out) rfl rfl rfl (Tryz.isAgg22 _) (Tryz.sizeOf22 _) (by rw [A8_size]; exact hol) (rowAt_setRow _ wz) ⟨rfl, below_setRow B1.out (by omega) _⟩
open Go.RowKit
theorem refPlusW_any (x y : W2) (w : World) :
  Calls Tryz.prog 49 #[.agg (A8 (bytesW x)), .agg (A8 (bytesW y))] w fun e w' => e = .returned (.agg (A8 (bytesW (addW2 x y)))) ∧ Below w.heap.size w w' := by
 rw [bytesW_byN, bytesW_byN, bytesW_byN, wN_add, byN_mod]
 exact refPlus_any (wN x) (wN y) w
theorem refMinusW_any (x y : W2) (w : World) :
  Calls Tryz.prog 52 #[.agg (A8 (bytesW x)), .agg (A8 (bytesW y))] w fun e w' => e = .returned (.agg (A8 (bytesW (subW2 x y)))) ∧ Below w.heap.size w w' := by
 rw [bytesW_byN, bytesW_byN, bytesW_byN, wN_sub, byN_mod]
 exact refMinus_any (wN x) (wN y) w (wN_lt y)
theorem blk_mid (l : List (BitVec 8)) : blk ((l.take 32).drop 16) = blk (l.drop 16) := by
 unfold blk
 rw [List.drop_take, List.take_take]
 rfl
theorem hpN_small (ws : List (BitVec 32)) (B : List (BitVec 8)) (h : B.length ≤ 1024) : hpN ws B = if B.length = 0 then [] else hashN ws B := by
 unfold hpN
 split
 ·rename_i h0
  rw [h0]; rfl
 ·rw [show (B.length + 1023) / 1024 = 1 by omega]
  show [] ++ hashN ws ((B.drop (1024 * 0)).take 1024) = _
  rw [Nat.mul_zero, List.drop_zero, List.take_of_length_le h, List.nil_append]
theorem refBody_any (key b : List (BitVec 8)) (a s : Option Addr) (c m d : Nat) (w : World) (hr : Rd8 w a 1104 c key) (hs : Rd8 w s m d b) (hm : m ≤ 1000) :
  Calls Tryz.prog 89 #[.slice a 1104 c, .slice s m d] w fun e w' => e = .returned (.agg (A8 (rbodyN key b))) ∧ Below w.heap.size w w' := by
 have hkl := hr.1
 have hbl := hs.1
 have hcap := hr.2.1
 obtain ⟨bk, bo, rfl, hbk, _⟩ := hr.2.2.2 (by omega)
 obtain ⟨LF, hLF⟩ : ∃ z, z = rbodyN key b := ⟨_, rfl⟩
 have lf : LF.length = 16 := by rw [hLF, rbodyN, rhN_length]
 rw [← hLF]
 obtain ⟨M, hM⟩ : ∃ z, z = padN b := ⟨_, rfl⟩
 have hMm : M.length % 16 = 0 := by rw [hM]; exact padN_length b
 have hMl : M.length ≤ 1016 := by rw [hM, padN, List.length_append, zeros_length, roomN, hbl]; omega
 obtain ⟨KW, hKW⟩ : ∃ z, z = key.drop 32 := ⟨_, rfl⟩
 obtain ⟨ws, hws⟩ : ∃ z, z = wdsN KW 268 := ⟨_, rfl⟩
 have hwl : ws.length = 268 := by rw [hws, wdsN_length]
 obtain ⟨BK, hBK⟩ : ∃ z, z = blk (key.drop 16) := ⟨_, rfl⟩
 have hBKl : BK.length = 16 := by rw [hBK]; exact blk_length _
 obtain ⟨HH, hHH⟩ : ∃ z, z = hpN ws M := ⟨_, rfl⟩
 have hLH : rhN BK HH = LF := by rw [hLF, rbodyN, hBK, hHH, hws, hKW, hM, words_all]
 have hHs := hpN_small ws M (by omega)
 rw [← hHH] at hHs
 have hc1 : Rd8 w (some ⟨bk, bo + 32, none⟩) 1072 (c - 32) KW := by
  have h := hr.cut (j := 32) (k := 1104) (by omega) (Nat.le_refl _)
  simp only [Option.map_some, Addr.add_lit] at h
  rw [if_neg (by omega), List.take_of_length_le (by omega), ← hKW] at h
  exact h
 have hc2 : Rd8 w (some ⟨bk, bo + 16, none⟩) 16 (c - 16) ((key.take 32).drop 16) := by
  have h := hr.cut (j := 16) (k := 32) (by omega) (by omega)
  simp only [Option.map_some, Addr.add_lit] at h
  rw [if_neg (by omega)] at h
  exact h
 obtain ⟨W, hW⟩ : ∃ W, w.alloc (.cells (A8 (zeros 8 16)) 37) = W := ⟨_, rfl⟩
 obtain ⟨b0, hb, hz⟩ := new1 _ _ _ _ hW
 have Z0 := hid b0
 have B0 := hid hb
 have K0 := hid (hc1.below hb)
 have J0 := hid (hc2.below hb)
 have S0 := hid (hs.below hb)
 have HKW := hid hKW
 have HWS := hid hws
 have HBK := hid hBK
 have HLH := hid hLH
 have HHS := hid hHs
 have HM := hid hM
 have i1 : (32 : Int) ≤ (c : Int) := by omega
 have i2 : (1104 : Int) ≤ (c : Int) := by omega
 have i3 : (16 : Int) ≤ (c : Int) := by omega
 have i4 : IntKind.i64.wrap 0 = 0 := by rw [IntKind.wrap_i64]; rfl
 clear b0 hb hz hr hs hc1 hc2 hLF hKW hws hBK hHH hLH hHs hM
 go_enter Tryz.func89, Tryz.ntmps89
 go_wp2_with fail
 refine (refWords_any KW (some ⟨bk, bo + 32, none⟩) (c - 32) W K0.out).mono ?_
 rintro e w1 ⟨v1, rfl, o1, d1⟩
 rw [← HWS.out] at o1
 obtain ⟨a1, c1, rfl, r1, _⟩ := o1.rd
 rw [hwl] at r1 ⊢
 have W1 := hid r1
 have Z1 := hid (Z0.out.belowAll d1)
 have J1 := hid (J0.out.below d1)
 have S1 := hid (S0.out.below d1)
 have B1 := hid (B0.out.trans (d1.mono B0.out.size))
 clear o1 d1 r1 Z0 J0 S0 B0 K0 hW
 go_wp2_with fail
 refine (refPadded_any b s m d w1 S1.out (by omega)).mono ?_
 rintro e w2 ⟨v2, rfl, o2, d2⟩
 rw [show b ++ zeros 8 (roomN b.length 16) = M from HM.out.symm] at o2
 obtain ⟨a2, c2, rfl, r2, _⟩ := o2.rd
 obtain ⟨ml, hml⟩ : ∃ z, z = M.length := ⟨_, rfl⟩
 rw [← hml] at r2 hMm hMl ⊢
 rw [← hml] at HHS
 have R2 := hid r2
 have W2 := hid (W1.out.below d2)
 have Z2 := hid (Z1.out.belowAll d2)
 have J2 := hid (J1.out.below d2)
 have B2 := hid (B1.out.trans (d2.mono B1.out.size))
 have HML := hid hml
 clear o2 d2 r2 W1 Z1 J1 S1 B1 hml
 go_wp2_with fail
 go_loopw [8, 9] (fun v i wr => ∃ j : Nat, j ≤ 1 ∧ i = .int .i64 (1024 * j : Nat) ∧ (j = 1 → 0 < ml) ∧ (j = 0 → v = .slice none 0 0) ∧ Own8 wr (w.heap.size + 1) 5 v (if j = 0 then [] else hashN ws M) ∧ Rd8 wr a2 ml c2 M ∧ Rd32 wr a1 268 c1 ws ∧ Blk wr w.heap.size 37 (A8 (zeros 8 16)) ∧ Rd8 wr (some ⟨bk, bo + 16, none⟩) 16 (c - 16) ((key.take 32).drop 16) ∧ Below w.heap.size w wr) (fun _ i _ => 2048 - (intOf i).toNat)
 case atStart => exact ⟨0, by omega, rfl, fun h => by omega, fun _ => rfl, Own8.nil_ _ _ _, R2.out, W2.out, Z2.out, J2.out, B2.out⟩
 case round =>
  obtain ⟨j, hj, rfl, hj1, hj0, hO, hR, hWd, hZ, hJ, hB⟩ := hrel
  have O3 := hid hO
  have R3 := hid hR
  have W3 := hid hWd
  have Z3 := hid hZ
  have J3 := hid hJ
  have B3 := hid hB
  have hws3 : w.heap.size < wr.heap.size := hZ.lt
  clear hO hR hWd hZ hJ hB R2 W2 Z2 J2 B2
  by_cases hgo : j = 0 ∧ 0 < ml
  ·obtain ⟨rfl, hml0⟩ := hgo
   have hv := hj0 rfl
   subst hv
   clear hj0
   rw [show ((1024 * 0 : Nat) : Int) = 0 from rfl]
   have m1 : (0 : Int) < (ml : Int) := by omega
   have m2 : ¬ (1024 : Int) < (ml : Int) := by omega
   have m3 : (ml : Int) ≤ (c2 : Int) := by have := R3.out.2.1; omega
   have m4 : (0 : Int) ≤ (ml : Int) := by omega
   have m5 : IntKind.i64.wrap 1024 = 1024 := by rw [IntKind.wrap_i64]; rfl
   go_wp2_with fail
   clear m1 m2 m3 m4
   have hnh := refNhHash_any ws M a1 a2 c1 ml c2 wr W3.out R3.out (by omega) hMm
   obtain ⟨HN, hHN⟩ : ∃ z, z = hashN ws M := ⟨_, rfl⟩
   have hHNl : HN.length = 32 := by rw [hHN]; exact hashN_length _ _
   rw [← hHN] at hnh
   have NH := hid hnh
   have HHN := hid hHN
   clear hnh hHN
   refine NH.out.mono ?_
   rintro e w4 ⟨rfl, d4⟩
   have o3 := O3.out
   rw [if_pos trivial] at o3
   have O4 := hid ((o3.below d4).alloc (.cells (A8 HN) 22))
   have R4 := hid ((R3.out.below d4).alloc (.cells (A8 HN) 22))
   have W4 := hid ((W3.out.below d4).alloc (.cells (A8 HN) 22))
   have Z4 := hid ((Z3.out.belowAll d4).alloc (.cells (A8 HN) 22))
   have J4 := hid ((J3.out.below d4).alloc (.cells (A8 HN) 22))
   have hB4 := B3.out.trans (d4.mono B3.out.size)
   have B4 := hid (hB4.alloc hB4.size (.cells (A8 HN) 22))
   have N4 := hid (Blk.new w4 22 (A8 HN))
   have q1 := (Blk.new w4 22 (A8 (zeros 8 32))).row
   have q3 := (Blk.new w4 22 (A8 (zeros 8 32))).whole
   have hs4 : w.heap.size + 1 ≤ (w4.alloc (.cells (A8 HN) 22)).heap.size := by have := d4.size; rw [World.size_alloc]; omega
   obtain ⟨w5, hw5⟩ : ∃ z, w4.alloc (.cells (A8 HN) 22) = z := ⟨_, rfl⟩
   rw [hw5] at O4 R4 W4 Z4 J4 B4 N4 hs4
   go_upto_region 11 with fail
   clear q1 q3
   obtain ⟨g4, hg4⟩ : ∃ z, w4.heap.size = z := ⟨_, rfl⟩
   rw [hg4] at N4 ⊢
   have n4 := N4.out.rd8 32 (by omega) (by rw [hHNl]; unfold maxLen; omega)
   rw [List.take_of_length_le (by omega), hHNl] at n4
   have S4 := hid hs4
   have NN := hid n4
   clear hw5 hg4 hB4 d4 o3 O3 R3 W3 Z3 J3 B3 n4 N4 hs4 NH
   refine wp_region_plain [0,0,2,0] rfl (fun ops' K4 hK4 => ?_)
   repeat
    (first
     | (with_reducible refine z_move (a' := ?_) ?_ ?_); rotate_left
     | (with_reducible refine z_assign (a' := ?_) ?_ ?_); rotate_left
     | (with_reducible refine z_obl (v := ?_) (a' := ?_) rfl (fun _ => ?_) ?_ ?_); rotate_left 2; (focus (go_simp; (try go_bits); exact rfl))
     | (with_reducible refine z_read (v := ?_) (a' := ?_) rfl ?_ ?_ ?_); rotate_left 2; (focus (go_simp; (try go_bits); exact rfl)))
    focus (simp only [Act.put, zz1, zz2, zz3, Act.eval, zz4, zz5, zz6, zz7, zz8]; exact rfl)
   refine z_append8 O4.out NN.out rfl rfl Tryz.underlying23 info8 (by simp) S4.out (fun w6 v6 o6 g6 b6 => ?_)
   simp only [Act.put, zz1, zz2, zz3]
   repeat
    (first
     | (with_reducible refine z_move (a' := ?_) ?_ ?_); rotate_left
     | (with_reducible refine z_assign (a' := ?_) ?_ ?_); rotate_left
     | (with_reducible refine z_obl (v := ?_) (a' := ?_) rfl (fun _ => ?_) ?_ ?_); rotate_left 2; (focus (go_simp; (try go_bits); exact rfl))
     | (with_reducible refine z_read (v := ?_) (a' := ?_) rfl ?_ ?_ ?_); rotate_left 2; (focus (go_simp; (try go_bits); exact rfl)))
    focus (simp only [Act.put, zz1, zz2, zz3, Act.eval, zz4, zz5, zz6, zz7, zz8]; exact rfl)
   refine z_nil (hK4 _ _ ?_)
   rw [List.nil_append, HHN.out] at o6
   have d6 : Below w5.heap.size w5 w6 := (Below.refl w5.heap.size w5).grown g6 (Nat.le_refl _) (fun k hk => by cases hk)
   have O6 := hid o6
   have R6 := hid (R4.out.below d6)
   have W6 := hid (W4.out.below d6)
   have Z6 := hid (Z4.out.belowAll d6)
   have J6 := hid (J4.out.below d6)
   have B6 := hid (B4.out.trans (d6.mono B4.out.size))
   clear d6 o6 g6 b6 hK4 O4 R4 W4 Z4 J4 B4 NN
   go_wp2
   exact ⟨⟨1, by omega, rfl, fun _ => hml0, fun h => by omega, by rw [if_neg (by omega)]; exact O6.out, R6.out, W6.out, Z6.out, J6.out, B6.out⟩, by simp [intOf]⟩
  ·obtain ⟨J, hJ⟩ : ∃ z, z = 1024 * j := ⟨_, rfl⟩
   rw [← hJ]
   have m1 : ¬ (J : Int) < (ml : Int) := by omega
   have o3 := O3.out
   rw [show (if j = 0 then [] else hashN ws M) = HH from by
    rw [HHS.out]
    by_cases h0 : j = 0
    ·rw [if_pos h0, if_pos (by omega)]
    ·rw [if_neg h0, if_neg (by have := hj1 (by omega); omega)]] at o3
   obtain ⟨a3, c3, rfl, r3, _⟩ := o3.rd
   obtain ⟨hl, hhl⟩ : ∃ z, z = HH.length := ⟨_, rfl⟩
   have hhb : hl ≤ 32 := by
    rw [hhl, HHS.out]
    split
    ·simp
    ·rw [hashN_length]; omega
   rw [← hhl] at r3 ⊢
   have V3 := hid r3
   have HHB := hid hhb
   clear o3 r3 hhl hhb O3 R3 W3 hJ hj0 hgo
   go_wp2_with fail
   have hbk := refBlock16_any ((key.take 32).drop 16) (some ⟨bk, bo + 16, none⟩) 16 (c - 16) wr J3.out (by omega)
   rw [blk_mid, ← HBK.out] at hbk
   refine hbk.mono ?_
   rintro e w4 ⟨rfl, d4⟩
   clear hbk
   go_wp2_with fail
   have hph := refPolyH_any BK HH a3 hl c3 w4 hBKl (V3.out.below d4) (by have := HHB.out; omega)
   rw [HLH.out] at hph
   have PH := hid hph
   clear hph
   refine PH.out.mono ?_
   rintro e w5 ⟨rfl, d5⟩
   have d6 := d4.trans (d5.mono d4.size)
   have z6 := Z3.out.belowAll d6
   have r2 := z6.row
   have r3 := z6.whole
   have B6 := hid (B3.out.trans (d6.mono B3.out.size))
   clear z6 d4 d5 d6
   go_wp2
   refine bodyPost_row (A8 LF) rfl rfl rfl (Tryz.isAgg37 _) (Tryz.sizeOf37 _) (by rw [A8_size]; exact lf) (rowAt_setRow _ r3) ⟨rfl, below_setRow B6.out (by omega) _⟩
theorem refSumW_any (key tw b : List (BitVec 8)) (a t s : Option Addr) (c n cn m d : Nat) (w : World) (hr : Rd8 w a 1104 c key) (ht : Rd8 w t n cn tw) (hn : n ≤ 1000) (hs : Rd8 w s m d b) (hm : m ≤ 1000) :
  Calls Tryz.prog 50 #[.slice a 1104 c, .slice t n cn, .slice s m d] w fun e w' => e = .returned (.agg (A8 (bytesW (sumN key tw b)))) ∧ Below w.heap.size w w' := by
 have hbl := hs.1
 obtain ⟨L1, hL1⟩ : ∃ z, z = bytesW (headN key tw m) := ⟨_, rfl⟩
 obtain ⟨L2, hL2⟩ : ∃ z, z = bytesW (bodyN key b) := ⟨_, rfl⟩
 obtain ⟨LF, hLF⟩ : ∃ z, z = bytesW (sumN key tw b) := ⟨_, rfl⟩
 have lf : LF.length = 16 := by rw [hLF]; rfl
 have hh := fun wz h1 h2 => refHead_any key tw a t 1104 c n cn m wz h1 (by omega) h2 hn (by omega)
 rw [← head_bytes, ← hL1] at hh
 have hbd := fun wz h1 h2 => refBody_any key b a s c m d wz h1 h2 hm
 rw [← body_bytes, ← hL2] at hbd
 have hpl := fun wz => refPlusW_any (headN key tw m) (bodyN key b) wz
 rw [← hL1, ← hL2, show addW2 (headN key tw m) (bodyN key b) = sumN key tw b by rw [sumN, hbl], ← hLF] at hpl
 rw [← hLF]
 have HH := hid hh
 have HB := hid hbd
 have HP := hid hpl
 clear hL1 hL2 hLF hh hbd hpl
 obtain ⟨W, hW⟩ : ∃ W, w.alloc (.cells (A8 (zeros 8 16)) 37) = W := ⟨_, rfl⟩
 obtain ⟨b0, hb, hz⟩ := new1 _ _ _ _ hW
 have Z0 := hid b0
 have B0 := hid hb
 have R0 := hid (hr.below hb)
 have T0 := hid (ht.below hb)
 have S0 := hid (hs.below hb)
 clear b0 hb hz hr ht hs
 go_enter Tryz.func50, Tryz.ntmps50
 go_wp2_with fail
 refine (HH.out W R0.out T0.out).mono ?_
 rintro e w1 ⟨rfl, d1⟩
 clear hW
 go_wp2_with fail
 refine (HB.out w1 (R0.out.below d1) (S0.out.below d1)).mono ?_
 rintro e w2 ⟨rfl, d2⟩
 go_wp2_with fail
 refine (HP.out w2).mono ?_
 rintro e w3 ⟨rfl, d3⟩
 have d4 := (d1.trans (d2.mono d1.size)).trans (d3.mono (d1.trans (d2.mono d1.size)).size)
 have z4 := Z0.out.belowAll d4
 have r2 := z4.row
 have r3 := z4.whole
 have B4 := hid (B0.out.trans (d4.mono B0.out.size))
 clear z4 d1 d2 d3 d4
 go_wp2
 refine bodyPost_row (A8 LF) rfl rfl rfl (Tryz.isAgg37 _) (Tryz.sizeOf37 _) (by rw [A8_size]; exact lf) (rowAt_setRow _ r3) ⟨rfl, below_setRow B4.out (by omega) _⟩
end Go.Proofs.YtfdkmjegcghieaaGreatDoor
