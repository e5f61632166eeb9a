/- turn by definition: mix -/
import Derived.Test.YtfdkmjegcghieaaGreatDoorMJl
namespace Go.Proofs.YtfdkmjegcghieaaGreatDoor
open Lib (hid)
set_option linter.unusedSimpArgs false
set_option maxRecDepth 100000
set_option maxHeartbeats 1600000
open Go.RowKit
def mixP (m b : List (BitVec 8)) (i : Nat) : Nat → BitVec 8
 | 0 => 0#8
 | k + 1 => mixP m b i k ^^^ mixB m b i k
def mixRw (m b : List (BitVec 8)) (i k : Nat) : List (BitVec 8) := r16 fun t => if t < i then mixP m b t 4 else if t = i then mixP m b t k else 0#8
theorem mixRw_length (m b : List (BitVec 8)) (i k : Nat) : (mixRw m b i k).length = 16 := r16_length _
theorem mixRw_zero (m b : List (BitVec 8)) : mixRw m b 0 0 = zeros 8 16 := by
 apply ext_nth
 ·rw [mixRw_length, zeros_length]
 ·intro t ht
  rw [mixRw_length] at ht
  rw [mixRw, nth_r16 _ t ht, nth_zeros]
  by_cases h : t = 0
  ·subst h; rfl
  ·rw [if_neg (by omega), if_neg h]
theorem mixRw_next (m b : List (BitVec 8)) (i : Nat) : mixRw m b i 4 = mixRw m b (i + 1) 0 := by
 refine r16_ext fun t ht => ?_
 by_cases h1 : t < i
 ·rw [if_pos h1, if_pos (by omega)]
 ·by_cases h2 : t = i
  ·subst h2; rw [if_neg (by omega), if_pos rfl, if_pos (by omega)]
  ·rw [if_neg h1, if_neg h2, if_neg (by omega)]
   by_cases h3 : t = i + 1
   ·rw [if_pos h3]; rfl
   ·rw [if_neg h3]
theorem mixRw_at (m b : List (BitVec 8)) (i k : Nat) (hi : i < 16) : nth (mixRw m b i k) i = mixP m b i k := by
 rw [mixRw, nth_r16 _ i hi, if_neg (by omega), if_pos rfl]
theorem mixRw_set (m b : List (BitVec 8)) (i k : Nat) (hi : i < 16) : (mixRw m b i k).set i (mixP m b i k ^^^ mixB m b i k) = mixRw m b i (k + 1) := by
 apply ext_nth
 ·rw [List.length_set, mixRw_length, mixRw_length]
 ·intro t ht
  rw [List.length_set, mixRw_length] at ht
  rw [nth_set _ _ _ _ (by rw [mixRw_length]; exact hi), mixRw, mixRw, nth_r16 _ t ht, nth_r16 _ t ht]
  by_cases h : i = t
  ·subst h; rw [if_pos rfl, if_neg (by omega), if_pos rfl]; rfl
  ·rw [if_neg h]
   by_cases h1 : t < i
   ·rw [if_pos h1, if_pos h1]
   ·rw [if_neg h1, if_neg h1, if_neg (fun e => h e.symm), if_neg (fun e => h e.symm)]
theorem mixRw_full (m b : List (BitVec 8)) : mixRw m b 16 0 = mix16 m b := by
 refine r16_ext fun t ht => ?_
 rw [if_pos ht, mixP, mixP, mixP, mixP, mixP, BitVec.zero_xor]
theorem refmix_any (m b : List (BitVec 8)) (w : World) (hm4 : m.length = 4) (hb16 : b.length = 16) :
  Calls Tryz.prog 113 #[.agg (A8 b), .agg (A8 m)] w fun e w' => e = .returned (.agg (A8 (mix16 m b))) ∧ Below w.heap.size w w' := by
 obtain ⟨W, hW⟩ : ∃ W, (((w.alloc (.cells (A8 b) 37)).alloc (.cells (A8 m) 106)).alloc (.cells (A8 (zeros 8 16)) 37)).alloc (.cells (A8 (zeros 8 16)) 37) = W := ⟨_, rfl⟩
 obtain ⟨b0, b1, b2, b3, hb, hz⟩ := new4 _ _ _ _ _ _ _ _ _ _ hW
 have P0 := hid b0
 have Q0 := hid b1
 have K0 := hid b2
 have Z0 := hid b3
 have B0 := hid hb
 clear b0 b1 b2 b3 hb hz
 go_enter Tryz.func113, Tryz.ntmps113
 go_wp2_with fail
 clear hW
 go_loopw [6] (fun i wr => ∃ j : Nat, j ≤ 16 ∧ i = .int .i64 j ∧ Blk wr w.heap.size 37 (A8 b) ∧ Blk wr (w.heap.size + 1) 106 (A8 m) ∧ Blk wr (w.heap.size + 2) 37 (A8 (zeros 8 16)) ∧ Blk wr (w.heap.size + 3) 37 (A8 (mixRw m b j 0)) ∧ Below w.heap.size w wr) (fun i _ => 16 - (intOf i).toNat)
 case atStart => exact ⟨0, by omega, rfl, P0.out, Q0.out, K0.out, by rw [mixRw_zero]; exact Z0.out, B0.out⟩
 case round =>
  obtain ⟨j, hj, rfl, hP, hQ, hK, hZ, hB⟩ := hrel
  have P1 := hid hP
  have Q1 := hid hQ
  have K1 := hid hK
  have Z1 := hid hZ
  have B1 := hid hB
  clear hP hQ hK hZ hB P0 Q0 K0 Z0 B0
  by_cases hj16 : j < 16
  ·have j1 : (j : Int) < 16 := by omega
   have j0 : (0 : Int) ≤ (j : Int) := by omega
   obtain ⟨r, hr⟩ : ∃ r, r = j % 4 := ⟨_, rfl⟩
   obtain ⟨q, hq⟩ : ∃ q, q = j / 4 := ⟨_, rfl⟩
   obtain ⟨u, hu⟩ : ∃ s, s = q * 4 := ⟨_, rfl⟩
   have f1 : (j : Int) % 4 = (r : Int) := by omega
   have f2 : (j : Int) / 4 = (q : Int) := by omega
   have f8 : (q : Int) * 4 = (u : Int) := by omega
   have i1 : IntKind.i64.wrap (q : Int) = (q : Int) := by rw [IntKind.wrap_i64]; omega
   have i5 : IntKind.i64.wrap (u : Int) = (u : Int) := by rw [IntKind.wrap_i64]; omega
   have hr4 : r < 4 := by omega
   have hu12 : u ≤ 12 := by omega
   have HR := hid hr
   have HQ := hid hq
   have HU := hid hu
   clear hr hq hu
   go_wp2_with fail
   go_loopw [7] (fun s7 wz => ∃ k : Nat, k ≤ 4 ∧ s7 = .int .i64 k ∧ Blk wz w.heap.size 37 (A8 b) ∧ Blk wz (w.heap.size + 1) 106 (A8 m) ∧ Blk wz (w.heap.size + 2) 37 (A8 (zeros 8 16)) ∧ Blk wz (w.heap.size + 3) 37 (A8 (mixRw m b j k)) ∧ Below w.heap.size w wz) (fun s7 _ => 4 - (intOf s7).toNat)
   case atStart => exact ⟨0, by omega, rfl, P1.out, Q1.out, K1.out, Z1.out, B1.out⟩
   case round =>
    obtain ⟨k, hk, rfl, hP, hQ, hK, hZ, hB⟩ := hrel
    have P2 := hid hP
    have Q2 := hid hQ
    have K2 := hid hK
    have Z2 := hid hZ
    have B2 := hid hB
    clear hP hQ hK hZ hB P1 Q1 K1 Z1 B1
    by_cases hk4 : k < 4
    ·have k1 : (k : Int) < 4 := by omega
     have k0 : (0 : Int) ≤ (k : Int) := by omega
     obtain ⟨s4, hs4⟩ : ∃ s, s = k + 4 := ⟨_, rfl⟩
     obtain ⟨d, hd⟩ : ∃ s, s = k + 4 - r := ⟨_, rfl⟩
     obtain ⟨t, ht⟩ : ∃ s, s = (k + 4 - r) % 4 := ⟨_, rfl⟩
     obtain ⟨p, hp⟩ : ∃ s, s = u + k := ⟨_, rfl⟩
     have e1 : (k : Int) + 4 = (s4 : Int) := by omega
     have e2 : (s4 : Int) - (r : Int) = (d : Int) := by omega
     have e3 : (d : Int) % 4 = (t : Int) := by omega
     have e4 : (u : Int) + (k : Int) = (p : Int) := by omega
     have i2 : IntKind.i64.wrap (s4 : Int) = (s4 : Int) := by rw [IntKind.wrap_i64]; omega
     have i3 : IntKind.i64.wrap (d : Int) = (d : Int) := by rw [IntKind.wrap_i64]; omega
     have i4 : IntKind.i64.wrap (p : Int) = (p : Int) := by rw [IntKind.wrap_i64]; omega
     have tl : t < 4 := by omega
     have pl : p < 16 := by omega
     have ti : (t : Int) < 4 := by omega
     have pi : (p : Int) < 16 := by omega
     have tz : (0 : Int) ≤ (t : Int) := by omega
     have pz : (0 : Int) ≤ (p : Int) := by omega
     have hmb : gmul (nth m t) (nth b p) = mixB m b j k := by
      rw [mixB, ht, hp, HU.out, HQ.out, HR.out]
     have HMB := hid hmb
     clear hs4 hd ht hp hmb
     go_upto_region 8 with fail
     refine wp_region_tail [0,0,0,5,0,0,0,0,0,0,0,5,0,0,0,0,0,0,5,2,0,0,3] (by kernel_rfl) (by kernel_rfl) (fun C hC0 hCb K' hK' => ?_)
     have F0 : ∀ w1, C w1 → w1.cell? ⟨w.heap.size + 3, j, none⟩ = some (v8 (mixP m b j k)) := fun w1 h => by rw [← mixRw_at m b j k hj16]; exact (Z2.out.drew.belowAll (hCb w1 h)).cell8 (mixRw_length m b j k) j hj16
     have F1 : ∀ w1, C w1 → w1.cell? ⟨w.heap.size + 1, t, none⟩ = some (v8 (nth m t)) := fun w1 h => (Q2.out.drew.belowAll (hCb w1 h)).cell8 hm4 t tl
     have F2 : ∀ w1, C w1 → w1.cell? ⟨w.heap.size, p, none⟩ = some (v8 (nth b p)) := fun w1 h => (P2.out.drew.belowAll (hCb w1 h)).cell8 hb16 p pl
     repeat
      (first
       | (with_reducible refine h_pure (v := ?_) (a' := ?_) ?_ (fun _ => ?_) ?_ ?_); rotate_left 2; (focus (exact rfl)); (focus (go_simp; (try go_bits); exact rfl))
       | (with_reducible refine h_obl (v := ?_) (a' := ?_) ?_ (fun _ hcw => ?_) ?_ ?_); rotate_left 2; (focus (exact rfl)); (focus (have f0 := F0 _ hcw; have f1 := F1 _ hcw; have f2 := F2 _ hcw; go_simp; (try go_bits); exact rfl))
       | (with_reducible refine h_read (v := ?_) (a' := ?_) ?_ (fun _ hbw => ?_) ?_ ?_); rotate_left 2; (focus (exact rfl)); (focus (go_simp; (try go_bits); exact rfl)))
      focus (simp only [Act.put, zz1, zz2, zz3, Act.eval, zz4, zz5, zz6, zz7, zz8]; exact rfl)
     (with_reducible refine h_call ?_ ?_)
     ·exact rfl
     go_simp
     refine entersW_of ?_
     refine (refTimes_any (nth m t) (nth b p) wr.drew).mono ?_
     rintro e w4 ⟨rfl, rfl⟩
     refine ⟨_, rfl, Below.refl _ _, ?_⟩
     try simp only [Act.put, zz1, zz2, zz3]
     rw [HMB.out]
     repeat
      (first
       | (with_reducible refine h_pure (v := ?_) (a' := ?_) ?_ (fun _ => ?_) ?_ ?_); rotate_left 2; (focus (exact rfl)); (focus (go_simp; (try go_bits); exact rfl))
       | (with_reducible refine h_obl (v := ?_) (a' := ?_) ?_ (fun _ hcw => ?_) ?_ ?_); rotate_left 2; (focus (exact rfl)); (focus (go_simp; (try go_bits); exact rfl))
       | (with_reducible refine h_read (v := ?_) (a' := ?_) ?_ (fun _ hbw => ?_) ?_ ?_); rotate_left 2; (focus (exact rfl)); (focus (go_simp; (try go_bits); exact rfl)))
      focus (simp only [Act.put, zz1, zz2, zz3, Act.eval, zz4, zz5, zz6, zz7, zz8]; exact rfl)
     refine h_tail [2] rfl (by simp) ?_
     refine z_store8 Z2.out.drew rfl rfl (by rw [mixRw_length]; omega) (Tryz.sizeOf5 _) (fun w5 k5 g5 s5 => ?_)
     refine z_nil (hK' _ _ ?_)
     rw [mixRw_set m b j k hj16] at k5
     have P3 := hid (P2.out.drew.grown g5 (by simp))
     have Q3 := hid (Q2.out.drew.grown g5 (by simp))
     have K3 := hid (K2.out.drew.grown g5 (by simp))
     have Z3 := hid k5
     have B3 := hid (B2.out.drew.trans (grown_below g5 (by omega) B2.out.drew.size))
     clear F0 F1 F2 k5 g5 s5 hK' hC0 hCb
     go_wp2
     exact ⟨⟨k + 1, by omega, by go_num, P3.out, Q3.out, K3.out, Z3.out, B3.out⟩, by simp [intOf]; omega⟩
    ·obtain rfl : k = 4 := by omega
     have hZ := Z2.out
     rw [mixRw_next] at hZ
     have Z3 := hid hZ
     clear hZ Z2
     go_wp2
     exact ⟨⟨j + 1, by omega, by go_num, P2.out, Q2.out, K2.out, Z3.out, B2.out⟩, by simp [intOf]; omega⟩
  ·obtain rfl : j = 16 := by omega
   have zz := Z1.out
   rw [mixRw_full] at zz
   have r1 := zz.row
   have r2 := K1.out.row
   have r3 := K1.out.whole
   clear zz
   go_wp2
   refine bodyPost_row (A8 (mix16 m b)) rfl rfl rfl (Tryz.isAgg37 _) (Tryz.sizeOf37 _) (by rw [A8_size]; exact mix16_length m b) (rowAt_setRow _ r3) ⟨rfl, below_setRow B1.out (by omega) _⟩
end Go.Proofs.YtfdkmjegcghieaaGreatDoor
