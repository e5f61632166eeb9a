/- aes by definition: Keys -/
import Derived.Test.YtfdkmjegcghieaaGreatDoorMJl
import Derived.Test.YtfdkmjegcghieaaGreatDoorMAes3
import Derived.Test.YtfdkmjegcghieaaGreatDoorMGk
import Derived.Test.YtfdkmjegcghieaaGreatDoorMIj
import Derived.Deep.CutRange
import Derived.Deep.CutBlock
import Derived.Test.YtfdkmjegcghieaaGreatDoorMGb
import Derived.Test.YtfdkmjegcghieaaGreatDoorMGo
namespace Go.Proofs.YtfdkmjegcghieaaGreatDoor
open Lib (hid)
set_option linter.unusedSimpArgs false
set_option maxRecDepth 100000
set_option maxHeartbeats 1600000
open Go.RowKit
theorem rcp_rc : ∀ k, rcp k = rc k
 | 0 => rfl
 | k + 1 => by rw [rcp, rcp_rc k, rc]
theorem xor4_take (a b : List (BitVec 8)) (k : Nat) (hk : k < 4) : (xor4 a b).take k ++ [nth a k ^^^ nth b k] = (xor4 a b).take (k + 1) := by
 have : k = 0 ∨ k = 1 ∨ k = 2 ∨ k = 3 := by omega
 rcases this with rfl | rfl | rfl | rfl <;> rfl
@[go_sem high] theorem buildB4_four (a b c d : BitVec 8) (w : World) : (buildB4 106 (v8 a) (v8 b) (v8 c) (v8 d)).run Tryz.prog w = .ok (.agg (A8 [a, b, c, d])) w := by kernel_rfl
theorem refKeys_any (key : List (BitVec 8)) (a : Option Addr) (m c : Nat) (w : World) (hr : Rd8 w a m c key) (hm : m = 16 ∨ m = 24 ∨ m = 32) :
  Calls Tryz.prog 30 #[.agg (A8 boxesL), .slice a m c] w fun e w' => ∃ v, e = .returned v ∧ OwnS w' w.heap.size 37 16 v (m / 4 + 7) (sch (m / 4) key (3 * (m / 4) + 28)) ∧ Below w.heap.size w w' := by
 obtain ⟨X, hX⟩ : ∃ X, X = boxesL := ⟨_, rfl⟩
 have HX := hid hX
 rw [← hX]
 obtain ⟨W, hW⟩ : ∃ W, w.alloc (.cells (A8 X) 35) = W := ⟨_, rfl⟩
 obtain ⟨b0, hb, hz⟩ := new1 _ _ _ _ hW
 have X0 := hid b0
 have B0 := hid hb
 have R0 := hid (hr.below hb)
 have HZ := hid hz
 have hml := hr.1
 have hXl : X.length = 512 := by rw [hX]; exact boxesL_length
 obtain ⟨n, hn⟩ : ∃ n, n = m / 4 := ⟨_, rfl⟩
 have hn8 : n = 4 ∨ n = 6 ∨ n = 8 := by omega
 have hmn : m = 4 * n := by omega
 have HMN := hid hmn
 have q0 : (m : Int) / 4 = (n : Int) := by omega
 obtain ⟨N7, hN7⟩ : ∃ q, q = n + 7 := ⟨_, rfl⟩
 obtain ⟨C4, hC4⟩ : ∃ q, q = 4 * N7 := ⟨_, rfl⟩
 have f3 : (n : Int) + 7 = (N7 : Int) := by omega
 have f4 : IntKind.i64.wrap (N7 : Int) = (N7 : Int) := by rw [IntKind.wrap_i64]; omega
 have f5 : (4 : Int) * (N7 : Int) = (C4 : Int) := by omega
 have f6 : IntKind.i64.wrap (C4 : Int) = (C4 : Int) := by rw [IntKind.wrap_i64]; omega
 rw [← hn, ← hN7]
 have HN7 := hid hN7
 have HC4 := hid hC4
 have q1 : IntKind.i64.wrap (n : Int) = (n : Int) := by rw [IntKind.wrap_i64]; omega
 have l32 : m ≤ 32 := by omega
 clear hr hb b0 hz hmn hn hN7 hC4 hX hm
 go_enter Tryz.func30, Tryz.ntmps30
 go_upto_region 2 with fail
 clear hW
 refine wp_region_plain [2,0,2,0] rfl (fun ops' K4 hK4 => ?_)
 refine z_build0 (B := W.heap.size) (Nat.le_refl _) Tryz.underlying23 info8 (fun w4 v4 ho4 hb4 => ?_)
 simp only [Act.put, zz1, zz2, zz3]
 repeat
  (first
   | (with_reducible refine z_move (a' := ?_) ?_ ?_); rotate_left
   | (with_reducible refine z_assign (a' := ?_) ?_ ?_); rotate_left
   | (with_reducible refine z_obl (v := ?_) (a' := ?_) rfl (fun _ => ?_) ?_ ?_); rotate_left 2; (focus (go_simp; (try go_bits); exact rfl))
   | (with_reducible refine z_read (v := ?_) (a' := ?_) rfl ?_ ?_ ?_); rotate_left 2; (focus (go_simp; (try go_bits); exact rfl)))
  focus (simp only [Act.put, zz1, zz2, zz3, Act.eval, zz4, zz5, zz6, zz7, zz8]; exact rfl)
 refine z_append8 ho4 (R0.out.below hb4) rfl rfl Tryz.underlying23 info8 (by simp; omega) hb4.size (fun w5 v5 o5 g5 b5 => ?_)
 simp only [Act.put, zz1, zz2, zz3]
 repeat
  (first
   | (with_reducible refine z_move (a' := ?_) ?_ ?_); rotate_left
   | (with_reducible refine z_assign (a' := ?_) ?_ ?_); rotate_left
   | (with_reducible refine z_obl (v := ?_) (a' := ?_) rfl (fun _ => ?_) ?_ ?_); rotate_left 2; (focus (go_simp; (try go_bits); exact rfl))
   | (with_reducible refine z_read (v := ?_) (a' := ?_) rfl ?_ ?_ ?_); rotate_left 2; (focus (go_simp; (try go_bits); exact rfl)))
  focus (simp only [Act.put, zz1, zz2, zz3, Act.eval, zz4, zz5, zz6, zz7, zz8]; exact rfl)
 refine z_nil (hK4 _ _ ?_)
 rw [List.nil_append] at o5
 have O5 := hid o5
 have B5 := hid (hb4.trans b5)
 clear hK4 ho4 hb4 g5 b5 o5
 go_wp2_with fail
 go_loopw [6, 7] (fun v i wr => ∃ j : Nat, n ≤ j ∧ j ≤ C4 ∧ i = .int .i64 j ∧ Own8 wr W.heap.size 5 v (sch n key (j - n)) ∧ Below W.heap.size W wr) (fun _ i _ => C4 - (intOf i).toNat)
 case atStart => exact ⟨n, by omega, by have := HC4.out; have := HN7.out; omega, rfl, by rw [Nat.sub_self]; exact O5.out, B5.out⟩
 case round =>
  obtain ⟨i, hni, hi4, rfl, hO, hB⟩ := hrel
  have O1 := hid hO
  have B1 := hid hB
  clear hO hB O5 B5
  by_cases hlt : i < C4
  ·have z1 : (i : Int) < (C4 : Int) := by omega
   have hc4 := HC4.out
   have hn7 := HN7.out
   have hmn := HMN.out
   obtain ⟨L, hL⟩ : ∃ L, L = sch n key (i - n) := ⟨_, rfl⟩
   have hLl : L.length = 4 * i := by rw [hL, sch_length n key (by omega)]; omega
   have hO := O1.out
   rw [← hL] at hO
   obtain ⟨g, cap, rfl, hg1, hg2⟩ := hO.form (by omega)
   have HL := hid hL
   have HLL := hid hLl
   have O2 := hid hO
   obtain ⟨I4, hI4⟩ : ∃ q, q = 4 * i := ⟨_, rfl⟩
   obtain ⟨J4, hJ4⟩ : ∃ q, q = 4 * i - 4 := ⟨_, rfl⟩
   have e1 : (4 : Int) * (i : Int) = (I4 : Int) := by omega
   have e2 : IntKind.i64.wrap (I4 : Int) = (I4 : Int) := by rw [IntKind.wrap_i64]; omega
   have e3 : (I4 : Int) - 4 = (J4 : Int) := by omega
   have e4 : IntKind.i64.wrap (J4 : Int) = (J4 : Int) := by rw [IntKind.wrap_i64]; omega
   have HI4 := hid hI4
   have HJ4 := hid hJ4
   obtain ⟨V, hV⟩ : ∃ V, V = wordAt L (i - 1) := ⟨_, rfl⟩
   have hVl : V.length = 4 := by rw [hV]; exact wordAt_length L _ (by omega)
   have hVn : ∀ k, k < 4 → nth V k = nth L (J4 + k) := by
    intro k hk
    rw [hV, nth_wordAt _ _ _ hk, hJ4, show 4 * (i - 1) + k = 4 * i - 4 + k by omega]
   have HV := hid hV
   have HVN := hid hVn
   rw [hLl, ← hI4]
   clear hc4 hn7 hmn hL hLl hO hI4 hJ4 hV hVn O1
   go_upto_region 7 with fail
   have K1 := hid (Blk.new wr 106 (A8 (zeros 8 4)))
   have O3 := hid (O2.out.alloc (.cells (A8 (zeros 8 4)) 106))
   have B3 := hid (B1.out.alloc B1.out.size (.cells (A8 (zeros 8 4)) 106))
   have hpx : W.heap.size ≤ wr.heap.size := B1.out.size
   have hgx : g < wr.heap.size := by have := hg2; simpa using this
   clear O2 B1
   generalize wr.alloc (.cells (A8 (zeros 8 4)) 106) = W1 at *
   generalize wr.heap.size = pW at *
   have RR0 : (0 : Int) ≤ (J4 : Int) := by omega
   obtain ⟨R, hR⟩ : ∃ q, q = i % n := ⟨_, rfl⟩
   have g1 : (i : Int) % (n : Int) = (R : Int) := by rw [hR]; omega
   have n0 : ¬ (n : Int) = 0 := by omega
   have HR := hid hR
   clear hR
   go_wp2_with fail
   go_loopw [9] (fun s9 wx => ∃ k : Nat, k ≤ 4 ∧ s9 = .int .i64 k ∧ Blk wx pW 106 (A8 (fillN 4 V k)) ∧ Own8 wx W.heap.size 5 (.slice (some ⟨g, 0, none⟩) L.length cap) L ∧ Below W.heap.size W wx) (fun s9 _ => 4 - (intOf s9).toNat)
   case atStart => exact ⟨0, by omega, rfl, by rw [fillN_zero]; exact K1.out, O3.out, B3.out⟩
   case round =>
    obtain ⟨k, hk, rfl, hK, hO, hB⟩ := hrel
    have K4 := hid hK
    have O4 := hid hO
    have B4 := hid hB
    clear hK hO hB K1 O3 B3
    by_cases hk4 : k < 4
    ·have k1 : (k : Int) < 4 := by omega
     have k0 : (0 : Int) ≤ (k : Int) := by omega
     obtain ⟨S, hS⟩ : ∃ S, S = J4 + k := ⟨_, rfl⟩
     have s1 : (J4 : Int) + (k : Int) = (S : Int) := by omega
     have s2 : IntKind.i64.wrap (S : Int) = (S : Int) := by rw [IntKind.wrap_i64]; have := HJ4.out; omega
     have s3 : (S : Int) < (I4 : Int) := by have := HJ4.out; have := HI4.out; omega
     have s0 : (0 : Int) ≤ (S : Int) := by omega
     have c1 := O4.out.cell S (by have := HLL.out; have := HI4.out; omega)
     have hv := HVN.out k hk4
     rw [← hS] at hv
     rw [← hv] at c1
     have fo := K4.out.frozen k
     have kk := K4.out.set_ k (v8 (nth V k))
     rw [A8_set, fillN_set 4 V k hk4] at kk
     have c2 := K4.out.cell8 (fillN_length 4 V k) k hk4
     have K5 := hid kk
     have O5 := hid (O4.out.kept (grown_setCell wr pW k (v8 (nth V k))) (.inr (by simp [Value.ownBlock]; omega)))
     have B5 := hid (B4.out.setCell (p := ⟨pW, k, none⟩) (by simp; omega) (v8 (nth V k)))
     obtain ⟨y, hy⟩ : ∃ y, y = nth V k := ⟨_, rfl⟩
     rw [← hy] at c1 K5 O5 B5
     clear kk K4 O4 B4 hS hv hy
     go_wp2
     exact ⟨⟨k + 1, by omega, by go_num, K5.out, O5.out, B5.out⟩, by simp [intOf]; omega⟩
    ·obtain rfl : k = 4 := by omega
     have hK := K4.out
     rw [fillN_full 4 V hVl] at hK
     have K5 := hid hK
     clear hK K4
     go_upto_if 44 with fail
     have hXu : ∀ v : BitVec 8, nth X v.toNat = box v := fun v => by rw [HX.out]; exact box_cell v
     have HXU := hid hXu
     clear hXu
     have XW := hid (X0.out.belowAll B4.out)
     obtain ⟨Wi, rfl⟩ : ∃ Wi : World, Wi = wr := ⟨_, rfl⟩
     go_cut [9] from 27 to 99 (fun s9 wx => s9 = .int .i64 (4 : Nat) ∧ Blk wx pW 106 (A8 (stepW n i V)) ∧ Own8 wx W.heap.size 5 (.slice (some ⟨g, 0, none⟩) L.length cap) L ∧ Below W.heap.size W wx)
     case first =>
      by_cases hR0 : R = 0
      ·have z0 : ((R : Int) == 0) = true := by subst hR0; rfl
       obtain ⟨Q, hQ⟩ : ∃ q, q = i / n := ⟨_, rfl⟩
       obtain ⟨Q1, hQ1⟩ : ∃ q, q = i / n - 1 := ⟨_, rfl⟩
       have hQp : 1 ≤ Q := by rw [hQ]; exact (Nat.one_le_div_iff (by omega)).2 hni
       have hQl : Q ≤ i := by rw [hQ]; exact Nat.div_le_self _ _
       have hi60 : i ≤ 60 := by have := HC4.out; have := HN7.out; omega
       have y1 : (i : Int) / (n : Int) = (Q : Int) := by rw [hQ]; omega
       have y2 : IntKind.i64.wrap (Q : Int) = (Q : Int) := by rw [IntKind.wrap_i64]; omega
       have y3 : (Q : Int) - 1 = (Q1 : Int) := by omega
       have y4 : IntKind.i64.wrap (Q1 : Int) = (Q1 : Int) := by rw [IntKind.wrap_i64]; omega
       have hQ1l : Q1 ≤ 1000 := by omega
       have n00 : ¬ n = 0 := by omega
       have hst : stepW n i V = [box (nth V 1) ^^^ rcp Q1, box (nth V 2), box (nth V 3), box (nth V 0)] := by
        unfold stepW
        rw [if_pos (by rw [← HR.out]; exact hR0), rcp_rc, hQ1]
       have HST := hid hst
       clear hQ hQ1 hQp hQl hi60 hst
       go_upto_region 12 with fail
       refine wp_region_tail [0,5,0,0,5,0,0,0,0,2,0,0,5,0,0,5,0,5,0,0,5,0,5,0,0,5,0,3] (by kernel_rfl) (by kernel_rfl) (fun C hC0 hCb K' hK' => ?_)
       have F0 : ∀ w1, C w1 → w1.cell? ⟨pW, 0, none⟩ = some (v8 (nth V 0)) := fun w1 h => (K5.out.drew.belowAll (hCb w1 h)).cell8 hVl 0 (by omega)
       have H0 : ∀ w1, C w1 → w1.cell? ⟨w.heap.size, (nth V 0).toNat, none⟩ = some (v8 (box (nth V 0))) := fun w1 h => by rw [← HXU.out (nth V 0)]; exact (XW.out.drew.belowAll (hCb w1 h)).cell8 hXl _ (by have := (nth V 0).isLt; omega)
       have F1 : ∀ w1, C w1 → w1.cell? ⟨pW, 1, none⟩ = some (v8 (nth V 1)) := fun w1 h => (K5.out.drew.belowAll (hCb w1 h)).cell8 hVl 1 (by omega)
       have H1 : ∀ w1, C w1 → w1.cell? ⟨w.heap.size, (nth V 1).toNat, none⟩ = some (v8 (box (nth V 1))) := fun w1 h => by rw [← HXU.out (nth V 1)]; exact (XW.out.drew.belowAll (hCb w1 h)).cell8 hXl _ (by have := (nth V 1).isLt; omega)
       have F2 : ∀ w1, C w1 → w1.cell? ⟨pW, 2, none⟩ = some (v8 (nth V 2)) := fun w1 h => (K5.out.drew.belowAll (hCb w1 h)).cell8 hVl 2 (by omega)
       have H2 : ∀ w1, C w1 → w1.cell? ⟨w.heap.size, (nth V 2).toNat, none⟩ = some (v8 (box (nth V 2))) := fun w1 h => by rw [← HXU.out (nth V 2)]; exact (XW.out.drew.belowAll (hCb w1 h)).cell8 hXl _ (by have := (nth V 2).isLt; omega)
       have F3 : ∀ w1, C w1 → w1.cell? ⟨pW, 3, none⟩ = some (v8 (nth V 3)) := fun w1 h => (K5.out.drew.belowAll (hCb w1 h)).cell8 hVl 3 (by omega)
       have H3 : ∀ w1, C w1 → w1.cell? ⟨w.heap.size, (nth V 3).toNat, none⟩ = some (v8 (box (nth V 3))) := fun w1 h => by rw [← HXU.out (nth V 3)]; exact (XW.out.drew.belowAll (hCb w1 h)).cell8 hXl _ (by have := (nth V 3).isLt; omega)
       repeat
        (first
         | (with_reducible refine h_pure (v := ?_) (a' := ?_) ?_ (fun _ => ?_) ?_ ?_); rotate_left 2; (focus (exact rfl)); (focus (go_simp; (try go_bits); exact rfl))
         | (with_reducible refine h_obl (v := ?_) (a' := ?_) ?_ (fun _ hcw => ?_) ?_ ?_); rotate_left 2; (focus (exact rfl)); (focus (have f0 := F0 _ hcw; have h0 := H0 _ hcw; have f1 := F1 _ hcw; have h1 := H1 _ hcw; have f2 := F2 _ hcw; have h2 := H2 _ hcw; have f3 := F3 _ hcw; have h3 := H3 _ hcw; go_simp; (try go_bits); exact rfl))
         | (with_reducible refine h_read (v := ?_) (a' := ?_) ?_ (fun _ hbw => ?_) ?_ ?_); rotate_left 2; (focus (exact rfl)); (focus (go_simp; (try go_bits); exact rfl)))
        focus (simp only [Act.put, zz1, zz2, zz3, Act.eval, zz4, zz5, zz6, zz7, zz8]; exact rfl)
       (with_reducible refine h_call ?_ ?_)
       ·exact rfl
       go_simp
       refine entersW_of ?_
       refine (refPower_two Q1 Wi.drew hQ1l).mono ?_
       rintro e w4 ⟨rfl, rfl⟩
       refine ⟨_, rfl, Below.refl _ _, ?_⟩
       try simp only [Act.put, zz1, zz2, zz3]
       repeat
        (first
         | (with_reducible refine h_pure (v := ?_) (a' := ?_) ?_ (fun _ => ?_) ?_ ?_); rotate_left 2; (focus (exact rfl)); (focus (go_simp; (try go_bits); exact rfl))
         | (with_reducible refine h_obl (v := ?_) (a' := ?_) ?_ (fun _ hcw => ?_) ?_ ?_); rotate_left 2; (focus (exact rfl)); (focus (have f0 := F0 _ hcw; have h0 := H0 _ hcw; have f1 := F1 _ hcw; have h1 := H1 _ hcw; have f2 := F2 _ hcw; have h2 := H2 _ hcw; have f3 := F3 _ hcw; have h3 := H3 _ hcw; go_simp; (try go_bits); exact rfl))
         | (with_reducible refine h_read (v := ?_) (a' := ?_) ?_ (fun _ hbw => ?_) ?_ ?_); rotate_left 2; (focus (exact rfl)); (focus (go_simp; (try go_bits); exact rfl)))
        focus (simp only [Act.put, zz1, zz2, zz3, Act.eval, zz4, zz5, zz6, zz7, zz8]; exact rfl)
       refine h_tail [2] rfl (by simp) ?_
       refine z_storeRow (K5.out.drew) rfl rfl (by rw [A8_size, A8_size, hVl]; rfl) (A8_ones _) (by rw [A8_size]; exact Tryz.sizeOf106 _) (fun w5 k5 g5 s5 => ?_)
       refine z_nil (hK' _ _ ?_)
       have K6 := hid k5
       have O6 := hid ((O4.out.drew).kept g5 (.inr (by simp [Value.ownBlock]; omega)))
       have e5 := B4.out.drew
       have B6 := hid (e5.trans (grown_below g5 hpx e5.size))
       clear F0 F1 F2 F3 H0 H1 H2 H3 hC0 hCb hK' k5 g5 s5 e5
       go_wp2
       go_meet
       exact ⟨rfl, by rw [HST.out]; exact K6.out, O6.out, B6.out⟩
      ·have z0 : ((R : Int) == 0) = false := by simp; omega
       obtain ⟨U, hU⟩ : ∃ q, q = i % 8 := ⟨_, rfl⟩
       have u1 : (i : Int) % 8 = (U : Int) := by rw [hU]; omega
       by_cases h8 : n = 8
       ·have y8 : ((n : Int) == 8) = true := by rw [h8]; rfl
        have hUR : U = R := by rw [hU, HR.out, h8]
        by_cases hR4 : R = 4
        ·have u4 : ((U : Int) == 4) = true := by rw [hUR, hR4]; rfl
         have hst : stepW n i V = [box (nth V 0), box (nth V 1), box (nth V 2), box (nth V 3)] := by
          unfold stepW
          rw [if_neg (by rw [← HR.out]; exact hR0), if_pos ⟨h8, by rw [← hU, hUR, hR4]⟩]; rfl
         have HST := hid hst
         clear hU h8 hUR hR4 hst
         go_upto_region 14 with fail
         refine wp_region_tail [0,5,0,0,5,0,5,0,0,5,0,5,0,0,5,0,5,0,0,5,0,3] (by kernel_rfl) (by kernel_rfl) (fun C hC0 hCb K' hK' => ?_)
         have F0 : ∀ w1, C w1 → w1.cell? ⟨pW, 0, none⟩ = some (v8 (nth V 0)) := fun w1 h => (K5.out.drew.belowAll (hCb w1 h)).cell8 hVl 0 (by omega)
         have H0 : ∀ w1, C w1 → w1.cell? ⟨w.heap.size, (nth V 0).toNat, none⟩ = some (v8 (box (nth V 0))) := fun w1 h => by rw [← HXU.out (nth V 0)]; exact (XW.out.drew.belowAll (hCb w1 h)).cell8 hXl _ (by have := (nth V 0).isLt; omega)
         have F1 : ∀ w1, C w1 → w1.cell? ⟨pW, 1, none⟩ = some (v8 (nth V 1)) := fun w1 h => (K5.out.drew.belowAll (hCb w1 h)).cell8 hVl 1 (by omega)
         have H1 : ∀ w1, C w1 → w1.cell? ⟨w.heap.size, (nth V 1).toNat, none⟩ = some (v8 (box (nth V 1))) := fun w1 h => by rw [← HXU.out (nth V 1)]; exact (XW.out.drew.belowAll (hCb w1 h)).cell8 hXl _ (by have := (nth V 1).isLt; omega)
         have F2 : ∀ w1, C w1 → w1.cell? ⟨pW, 2, none⟩ = some (v8 (nth V 2)) := fun w1 h => (K5.out.drew.belowAll (hCb w1 h)).cell8 hVl 2 (by omega)
         have H2 : ∀ w1, C w1 → w1.cell? ⟨w.heap.size, (nth V 2).toNat, none⟩ = some (v8 (box (nth V 2))) := fun w1 h => by rw [← HXU.out (nth V 2)]; exact (XW.out.drew.belowAll (hCb w1 h)).cell8 hXl _ (by have := (nth V 2).isLt; omega)
         have F3 : ∀ w1, C w1 → w1.cell? ⟨pW, 3, none⟩ = some (v8 (nth V 3)) := fun w1 h => (K5.out.drew.belowAll (hCb w1 h)).cell8 hVl 3 (by omega)
         have H3 : ∀ w1, C w1 → w1.cell? ⟨w.heap.size, (nth V 3).toNat, none⟩ = some (v8 (box (nth V 3))) := fun w1 h => by rw [← HXU.out (nth V 3)]; exact (XW.out.drew.belowAll (hCb w1 h)).cell8 hXl _ (by have := (nth V 3).isLt; omega)
         repeat
          (first
           | (with_reducible refine h_pure (v := ?_) (a' := ?_) ?_ (fun _ => ?_) ?_ ?_); rotate_left 2; (focus (exact rfl)); (focus (go_simp; (try go_bits); exact rfl))
           | (with_reducible refine h_obl (v := ?_) (a' := ?_) ?_ (fun _ hcw => ?_) ?_ ?_); rotate_left 2; (focus (exact rfl)); (focus (have f0 := F0 _ hcw; have h0 := H0 _ hcw; have f1 := F1 _ hcw; have h1 := H1 _ hcw; have f2 := F2 _ hcw; have h2 := H2 _ hcw; have f3 := F3 _ hcw; have h3 := H3 _ hcw; go_simp; (try go_bits); exact rfl))
           | (with_reducible refine h_read (v := ?_) (a' := ?_) ?_ (fun _ hbw => ?_) ?_ ?_); rotate_left 2; (focus (exact rfl)); (focus (go_simp; (try go_bits); exact rfl)))
          focus (simp only [Act.put, zz1, zz2, zz3, Act.eval, zz4, zz5, zz6, zz7, zz8]; exact rfl)
         refine h_tail [2] rfl (by simp) ?_
         refine z_storeRow (K5.out.drew) rfl rfl (by rw [A8_size, A8_size, hVl]; rfl) (A8_ones _) (by rw [A8_size]; exact Tryz.sizeOf106 _) (fun w5 k5 g5 s5 => ?_)
         refine z_nil (hK' _ _ ?_)
         have K6 := hid k5
         have O6 := hid ((O4.out.drew).kept g5 (.inr (by simp [Value.ownBlock]; omega)))
         have e5 := B4.out.drew
         have B6 := hid (e5.trans (grown_below g5 hpx e5.size))
         clear F0 F1 F2 F3 H0 H1 H2 H3 hC0 hCb hK' k5 g5 s5 e5
         go_wp2
         go_meet
         exact ⟨rfl, by rw [HST.out]; exact K6.out, O6.out, B6.out⟩
        ·have u4 : ((U : Int) == 4) = false := by rw [hUR]; simp; omega
         have hst : V = stepW n i V := by
          unfold stepW
          rw [if_neg (by rw [← HR.out]; exact hR0), if_neg (fun h => hR4 (by rw [← hUR, hU, h.2]))]
         have HST := hid hst
         clear hU h8 hUR hst
         go_wp2
         go_meet
         exact ⟨rfl, by rw [← HST.out]; exact K5.out, O4.out, B4.out⟩
       ·have y8 : ((n : Int) == 8) = false := by simp; omega
        have hst : V = stepW n i V := by
         unfold stepW
         rw [if_neg (by rw [← HR.out]; exact hR0), if_neg (fun h => h8 h.1)]
        have HST := hid hst
        clear hU hst
        go_wp2
        go_meet
        exact ⟨rfl, by rw [← HST.out]; exact K5.out, O4.out, B4.out⟩
     case rest =>
      obtain ⟨rfl, hK6, hO6, hB6⟩ := hcut
      have hsl := stepW_length n i V hVl
      obtain ⟨Y, hY⟩ : ∃ Y, Y = stepW n i V := ⟨_, rfl⟩
      rw [← hY] at hK6 hsl
      have HY := hid hY
      obtain ⟨D, hD⟩ : ∃ q, q = i - n := ⟨_, rfl⟩
      have d1 : (i : Int) - (n : Int) = (D : Int) := by omega
      have d2 : IntKind.i64.wrap (D : Int) = (D : Int) := by rw [IntKind.wrap_i64]; omega
      obtain ⟨E, hE⟩ : ∃ q, q = 4 * D := ⟨_, rfl⟩
      have d3 : (4 : Int) * (D : Int) = (E : Int) := by omega
      have d4 : IntKind.i64.wrap (E : Int) = (E : Int) := by rw [IntKind.wrap_i64]; omega
      obtain ⟨Dw, hDw⟩ : ∃ Dw, Dw = wordAt L D := ⟨_, rfl⟩
      have hLL := HLL.out
      have hDl : Dw.length = 4 := by rw [hDw]; exact wordAt_length L _ (by omega)
      have hDn : ∀ k, k < 4 → nth Dw k = nth L (E + k) := by
       intro k hk
       rw [hDw, nth_wordAt _ _ _ hk, hE]
      have HDN := hid hDn
      have HDW := hid hDw
      have HE := hid hE
      have HD := hid hD
      have hEi : E + 4 ≤ 4 * i := by omega
      have hE0 : (0 : Int) ≤ (E : Int) := by omega
      obtain ⟨XX, hXX⟩ : ∃ XX, XX = xor4 Dw Y := ⟨_, rfl⟩
      have HXX := hid hXX
      have hXXl : XX.length = 4 := by rw [hXX]; rfl
      have hi60 : i ≤ 60 := by have := HC4.out; have := HN7.out; omega
      have K6 := hid hK6
      have O6 := hid hO6
      have B6 := hid hB6
      rw [show I4 = L.length by rw [hLL]; exact HI4.out]
      clear hK6 hO6 hB6 hY hD hE hDn hDw hXX hLL K5 O4 B4 XW e1 e2 e3 e4 g1 RR0
      go_wp2_with fail
      go_loopw [6, 10] (fun v s10 wz => ∃ k : Nat, k ≤ 4 ∧ s10 = .int .i64 k ∧ Blk wz pW 106 (A8 Y) ∧ Own8 wz W.heap.size 5 v (L ++ XX.take k) ∧ Hid (∀ q, v.ownBlock = some q → q ≠ pW) ∧ Below W.heap.size W wz) (fun _ s10 _ => 4 - (intOf s10).toNat)
      case atStart => exact ⟨0, by omega, rfl, K6.out, by rw [List.take_zero, List.append_nil]; exact O6.out, hid (fun q hq => by simp [Value.ownBlock] at hq; omega), B6.out⟩
      case round =>
       obtain ⟨k, hk, rfl, hK, hO, HP, hB⟩ := hrel
       have K7 := hid hK
       have O7 := hid hO
       have B7 := hid hB
       clear hK hO hB K6 O6 B6
       by_cases hk4' : k < 4
       ·have k1 : (k : Int) < 4 := by omega
        have k0 : (0 : Int) ≤ (k : Int) := by omega
        have hlen : (L ++ XX.take k).length = 4 * i + k := by rw [List.length_append, HLL.out, List.length_take, hXXl]; omega
        obtain ⟨M, hM⟩ : ∃ M, M = L ++ XX.take k := ⟨_, rfl⟩
        have hO := O7.out
        rw [← hM] at hO hlen
        obtain ⟨g7, cap7, rfl, hg71, hg72⟩ := hO.form (by omega)
        obtain ⟨S, hS⟩ : ∃ S, S = E + k := ⟨_, rfl⟩
        have s1 : (E : Int) + (k : Int) = (S : Int) := by omega
        have s2 : IntKind.i64.wrap (S : Int) = (S : Int) := by rw [IntKind.wrap_i64]; omega
        obtain ⟨Ml, hMl⟩ : ∃ q, q = M.length := ⟨_, rfl⟩
        have s3 : (S : Int) < (Ml : Int) := by omega
        have s0 : (0 : Int) ≤ (S : Int) := by omega
        have c1 := hO.drew.cell S (by omega)
        have hv : nth M S = nth Dw k := by
         rw [hM, nth_append, if_pos (by rw [HLL.out]; omega), HDN.out k hk4', hS]
        rw [hv] at c1
        have c2 := K7.out.drew.cell8 hsl k hk4'
        have HO := hid hO
        have HM := hid hM
        have HMl := hid hMl
        have hMle : Ml ≤ 300 := by omega
        rw [← hMl]
        have hpw7 : pW < wr.heap.size := K7.out.lt
        clear hO hM hv hS hMl O7 hlen
        go_upto_region 18 with fail
        refine wp_region_text3' [0,0,0,0,0,0,0,0,0,1,0,0,1,0,2,2,0] (by kernel_rfl) (by kernel_rfl) (fun ops' K2 hK2 => ?_)
        repeat
         (first
          | (with_reducible refine z_move (a' := ?_) ?_ ?_); rotate_left
          | (with_reducible refine z_assign (a' := ?_) ?_ ?_); rotate_left
          | (with_reducible refine z_obl (v := ?_) (a' := ?_) rfl (fun _ => ?_) ?_ ?_); rotate_left 2; (focus (go_simp; (try go_bits); exact rfl))
          | (with_reducible refine z_read (v := ?_) (a' := ?_) rfl ?_ ?_ ?_); rotate_left 2; (focus (go_simp; (try go_bits); exact rfl)))
         focus (simp only [Act.put, zz1, zz2, zz3, Act.eval, zz4, zz5, zz6, zz7, zz8]; exact rfl)
        refine z_build1 rfl Tryz.underlying23 info8 (fun w7 b7 hr7 hb7 => ?_)
        simp only [Act.put, zz1, zz2, zz3]
        rw [HMl.out]
        refine z_append8p (HO.out.drew.below hb7) hr7 rfl rfl Tryz.underlying23 info8 (by rw [← HMl.out]; simp; omega) (by have := B7.out.size; have := hb7.size; simp at *; omega) (fun w8 v8' o8 g8 b8 p8 => ?_)
        simp only [Act.put, zz1, zz2, zz3]
        repeat
         (first
          | (with_reducible refine z_move (a' := ?_) ?_ ?_); rotate_left
          | (with_reducible refine z_assign (a' := ?_) ?_ ?_); rotate_left
          | (with_reducible refine z_obl (v := ?_) (a' := ?_) rfl (fun _ => ?_) ?_ ?_); rotate_left 2; (focus (go_simp; (try go_bits); exact rfl))
          | (with_reducible refine z_read (v := ?_) (a' := ?_) rfl ?_ ?_ ?_); rotate_left 2; (focus (go_simp; (try go_bits); exact rfl)))
         focus (simp only [Act.put, zz1, zz2, zz3, Act.eval, zz4, zz5, zz6, zz7, zz8]; exact rfl)
        refine z_nil (hK2 _ _ ?_)
        have e8 : M ++ [nth Dw k ^^^ nth Y k] = L ++ XX.take (k + 1) := by
         rw [HM.out, List.append_assoc, HXX.out, xor4_take _ _ _ hk4']
        rw [e8] at o8
        have hne : some pW ≠ Value.ownBlock (.slice (some ⟨g7, 0, none⟩) M.length cap7) := by
         intro e
         exact HP.out pW e.symm rfl
        have K8 := hid ((K7.out.drew.belowAll hb7).grown g8 hne)
        have O8 := hid o8
        have P8 : Hid (∀ q, v8'.ownBlock = some q → q ≠ pW) := hid (fun q hq => by
         rcases p8 q hq with h1 | h1
         ·exact HP.out q h1
         ·have := hb7.size; simp at this; omega)
        have d8 := B7.out.drew.trans (hb7.mono B7.out.size)
        have B8 := hid (d8.trans (b8.mono (by omega)))
        clear o8 g8 b8 p8 e8 hne d8 hb7 hr7 c1 c2 hK2
        go_wp2
        exact ⟨⟨k + 1, by omega, by go_num, K8.out, O8.out, P8, B8.out⟩, by simp [intOf]; omega⟩
       ·obtain rfl : k = 4 := by omega
        have hO := O7.out
        have hfin : L ++ XX.take 4 = sch n key (i + 1 - n) := by
         have h1 : n + D = i := by have := HD.out; omega
         rw [List.take_of_length_le (by omega), show i + 1 - n = D + 1 by have := HD.out; omega, sch, HXX.out, HDW.out, HY.out, HV.out, h1, HL.out, ← HD.out]
        rw [hfin] at hO
        have O9 := hid hO
        clear hO hfin O7
        go_wp2
        exact ⟨⟨i + 1, by omega, by omega, by go_num, O9.out, B7.out⟩, by simp [intOf]; omega⟩
  ·have hiC : i = C4 := by omega
   have hc4 := HC4.out
   have hn7 := HN7.out
   have hmn := HMN.out
   obtain ⟨L, hL⟩ : ∃ L, L = sch n key (i - n) := ⟨_, rfl⟩
   have hLl : L.length = 16 * N7 := by rw [hL, sch_length n key (by omega)]; omega
   have hLf : L = sch n key (3 * n + 28) := by rw [hL]; congr 1; omega
   have hO := O1.out
   rw [← hL] at hO
   obtain ⟨g, cap, rfl, hg1, hg2⟩ := hO.form (by omega)
   have rw0 := hO.rdAt
   rw [hLl] at rw0
   have hcap : 16 * N7 ≤ cap := rw0.2.1
   have RW := hid rw0
   have HLF := hid hLf
   have HLL := hid hLl
   rw [hLl]
   have z1 : ¬ (i : Int) < (C4 : Int) := by omega
   have h15 : N7 ≤ 15 := by omega
   obtain ⟨BL, hBL⟩ : ∃ q, q = 16 * N7 := ⟨_, rfl⟩
   have HBL := hid hBL
   rw [← hBL] at RW ⊢
   obtain ⟨Wi, rfl⟩ : ∃ Wi : World, Wi = wr := ⟨_, rfl⟩
   clear hiC hc4 hn7 hmn hL hLl hLf hO rw0 hBL O1
   go_wp2_with fail
   go_loopw [11, 12] (fun v s12 wz => ∃ j : Nat, j ≤ N7 ∧ s12 = .int .i64 j ∧ OwnS wz Wi.heap.size 37 16 v j (L.take (16 * j)) ∧ Below Wi.heap.size Wi wz) (fun _ s12 _ => N7 - (intOf s12).toNat)
   case atStart => exact ⟨0, by omega, rfl, OwnS.nil_ _ _ _ _, Below.refl _ _⟩
   case round =>
    obtain ⟨j, hj, rfl, hO, hB⟩ := hrel
    have O2 := hid hO
    have B2 := hid hB
    clear hO hB
    by_cases hjn : j < N7
    ·have j1 : (j : Int) < (N7 : Int) := by omega
     have j0 : (0 : Int) ≤ (j : Int) := by omega
     obtain ⟨E, hE⟩ : ∃ E, E = 16 * j := ⟨_, rfl⟩
     have e1 : (16 : Int) * (j : Int) = (E : Int) := by omega
     have e2 : IntKind.i64.wrap (E : Int) = (E : Int) := by rw [IntKind.wrap_i64]; omega
     obtain ⟨F, hF⟩ : ∃ F, F = E + 16 := ⟨_, rfl⟩
     have e3 : (E : Int) + 16 = (F : Int) := by omega
     have e4 : IntKind.i64.wrap (F : Int) = (F : Int) := by rw [IntKind.wrap_i64]; omega
     have e5 : (F : Int) ≤ (cap : Int) := by omega
     have e6 : (E : Int) ≤ (F : Int) := by omega
     have e7 : (0 : Int) ≤ (E : Int) := by omega
     have e8 : ¬ cap = E := by omega
     have hEF : F - E = 16 := by omega
     have rc := (RW.out.below B2.out).cut (j := E) (k := F) (by omega) (by have := HBL.out; omega)
     rw [if_neg e8, hEF] at rc
     simp only [Option.map_some, Addr.add_lit, Nat.zero_add] at rc
     obtain ⟨Z, hZ⟩ : ∃ Z, Z = (L.take F).drop E := ⟨_, rfl⟩
     rw [← hZ] at rc
     have RC := hid rc
     have hZl : Z.length = 16 := rc.1
     have hZb : blk Z = Z := by unfold blk; rw [List.take_of_length_le (by omega), splc_full _ _ (by simp [hZl])]
     have HZB := hid hZb
     have HZ' := hid hZ
     have HE := hid hE
     have HF := hid hF
     clear hE hF rc hZ hZb
     go_upto_region 23 with fail
     refine wp_region_plain [0,0,0,0,0,0,0,0,2,2,2,0] rfl (fun ops' K2 hK2 => ?_)
     repeat
      (first
       | (with_reducible refine z_move (a' := ?_) ?_ ?_); rotate_left
       | (with_reducible refine z_assign (a' := ?_) ?_ ?_); rotate_left
       | (with_reducible refine z_obl (v := ?_) (a' := ?_) rfl (fun _ => ?_) ?_ ?_); rotate_left 2; (focus (go_simp; (try go_bits); exact rfl))
       | (with_reducible refine z_read (v := ?_) (a' := ?_) rfl ?_ ?_ ?_); rotate_left 2; (focus (go_simp; (try go_bits); exact rfl)))
      focus (simp only [Act.put, zz1, zz2, zz3, Act.eval, zz4, zz5, zz6, zz7, zz8]; exact rfl)
     (with_reducible refine z_callw rfl ?_)
     go_simp
     refine entersW_of ?_
     refine (refBlock16_any Z _ 16 _ wr RC.out (by omega)).mono ?_
     rintro e w3 ⟨rfl, b3⟩
     refine ⟨_, rfl, ?_⟩
     try simp only [Act.put, zz1, zz2, zz3]
     rw [HZB.out]
     refine z_buildS hZl (by omega) (by omega) rfl Tryz.underlying36 block_infos (fun w4 g4 r4 b4 => ?_)
     simp only [Act.put, zz1, zz2, zz3]
     have b34 := b3.trans (b4.mono b3.size)
     refine z_appendS (O2.out.below b34) r4 rfl rfl (by omega) (by omega) Tryz.underlying36 block_infos (by omega) (Nat.le_trans B2.out.size b34.size) (fun w5 v5 o5 g5 b5 => ?_)
     simp only [Act.put, zz1, zz2, zz3]
     repeat
      (first
       | (with_reducible refine z_move (a' := ?_) ?_ ?_); rotate_left
       | (with_reducible refine z_assign (a' := ?_) ?_ ?_); rotate_left
       | (with_reducible refine z_obl (v := ?_) (a' := ?_) rfl (fun _ => ?_) ?_ ?_); rotate_left 2; (focus (go_simp; (try go_bits); exact rfl))
       | (with_reducible refine z_read (v := ?_) (a' := ?_) rfl ?_ ?_ ?_); rotate_left 2; (focus (go_simp; (try go_bits); exact rfl)))
      focus (simp only [Act.put, zz1, zz2, zz3, Act.eval, zz4, zz5, zz6, zz7, zz8]; exact rfl)
     refine z_nil (hK2 _ _ ?_)
     have e9 : L.take (16 * j) ++ Z = L.take (16 * (j + 1)) := by
      rw [HZ'.out, HF.out, HE.out, show 16 * (j + 1) = 16 * j + 16 by omega, List.take_add, List.drop_left' (by rw [List.length_take, HLL.out]; omega)]
     rw [e9] at o5
     have O5 := hid o5
     have d5 := B2.out.trans (b34.mono B2.out.size)
     have B5 := hid (d5.trans b5)
     clear o5 g5 b5 r4 b34 b3 b4 e9 d5 hK2
     go_wp2
     exact ⟨⟨j + 1, by omega, by go_num, O5.out, B5.out⟩, by simp [intOf]; omega⟩
    ·obtain rfl : j = N7 := by omega
     have hO := O2.out
     rw [List.take_of_length_le (by rw [HLL.out]; omega), HLF.out] at hO
     have hWs := B1.out.size
     have hw0 := B0.out.size
     have O3 := hid (hO.base (Nat.le_trans hw0 hWs))
     have d1 := B0.out.trans (B1.out.mono hw0)
     have B3 := hid (d1.trans (B2.out.mono d1.size))
     clear hO d1
     go_wp2
     go_ret
     exact ⟨_, rfl, O3.out, B3.out⟩
end Go.Proofs.YtfdkmjegcghieaaGreatDoor
