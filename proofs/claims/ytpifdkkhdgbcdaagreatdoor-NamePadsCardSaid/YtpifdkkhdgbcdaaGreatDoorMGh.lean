/- aes: Expand where there is no key; Rounds, At -/
import Derived.Test.YtpifdkkhdgbcdaaGreatDoorMAes3
namespace Go.Proofs.YtpifdkkhdgbcdaaGreatDoor
open Lib (hid)
set_option linter.unusedSimpArgs false
set_option maxRecDepth 100000
set_option maxHeartbeats 1600000
open Go.RowKit
theorem keyAt_length (L : List (BitVec 8)) (m j : Nat) (h : L.length = m * 16) (hj : j < m) : (keyAt L j).length = 16 := by
 rw [keyAt, List.length_take, List.length_drop, h]; omega
open Go.RowKit
def midKeys (L : List (BitVec 8)) (m : Nat) : List (BitVec 8) := (L.take ((m - 1) * 16)).drop 16
def encS (L : List (BitVec 8)) (m : Nat) (b : List (BitVec 8)) : List (BitVec 8) := lastS (rnds (midKeys L m) (xor16 b (keyAt L 0)) (m - 2)) (keyAt L (m - 1))
theorem encrypt_any (k p m : Nat) (L b : List (BitVec 8)) (w : World) (h : KeyAt w k p m L) (hb16 : b.length = 16) (hm : 3 ≤ m) (hm2 : m ≤ 100) :
  Calls Tryz.prog 43 #[.pointer (some ⟨k, 0, none⟩), .agg (A8 b)] w fun e w' => e = .returned (.agg (A8 (encS L m b))) ∧ Below w.heap.size w w' := by
 obtain ⟨W, hW⟩ : ∃ W, (w.alloc (.cells (A8 b) 109)).alloc (.cells (A8 (zeros 8 16)) 109) = W := ⟨_, rfl⟩
 obtain ⟨b0, b1, hb, hz⟩ := new2 _ _ _ _ _ _ hW
 have HH := hid h
 obtain ⟨hT, g, c, h1, h2⟩ := h.below hb
 have c2 : W.cell? ⟨k, 1, none⟩ = some (.slice (some ⟨g, 0, none⟩) m c) := h1.cell 1
 have P0 := hid b0
 have Z0 := hid b1
 have B0 := hid hb
 have T0 := hid hT
 have K0 := hid h1
 have R0 := hid h2
 have hmc := h2.2.1
 have hcm := h2.2.2.1
 have hLl := h2.1
 obtain ⟨I, hI⟩ : ∃ I, I = m - 1 := ⟨_, rfl⟩
 have f1 : (m : Int) - 1 = (I : Int) := by omega
 have f2 : IntKind.i64.wrap (I : Int) = (I : Int) := by unfold maxLen at hcm; rw [IntKind.wrap_i64]; omega
 have HI := hid hI
 have HLL := hid hLl
 clear b0 b1 hb hz hT h1 h2 h hI hLl
 go_enter Tryz.func43, Tryz.ntmps43
 go_upto_region 4 with fail
 clear hW c2
 have hI1 : I - 1 = m - 2 := by have := HI.out; omega
 have i1 : (1 : Int) ≤ (I : Int) := by have := HI.out; omega
 have i2 : (I : Int) ≤ (c : Int) := by have := HI.out; omega
 have i3 : ¬ c = 1 := by omega
 have i4 : 0 < m := by omega
 have i5 : (I : Int) < (m : Int) := by omega
 have i6 : (0 : Int) ≤ (I : Int) := by omega
 have hk0l := keyAt_length L m 0 HLL.out (by omega)
 obtain ⟨k0, hk0⟩ : ∃ k0, k0 = keyAt L 0 := ⟨_, rfl⟩
 rw [← hk0] at hk0l
 have HK0 := hid hk0
 clear hk0
 refine wp_region_tail [0,0,0,5,5,0,0,0,5,0,5,2,0,0,0,5,0,0,2,3] (by kernel_rfl) (by kernel_rfl) (fun C hC0 hCb K' hK' => ?_)
 have R1 : ∀ w1, C w1 → w1.cell? ⟨k, 0, none⟩ = some (.pointer (some ⟨p, 0, none⟩)) := fun w1 h => (K0.out.drew.belowAll (hCb w1 h)).cell 0
 have R2 : ∀ w1, C w1 → w1.cell? ⟨k, 1, none⟩ = some (.slice (some ⟨g, 0, none⟩) m c) := fun w1 h => (K0.out.drew.belowAll (hCb w1 h)).cell 1
 have R3 : ∀ w1, C w1 → rowAt w1 w.heap.size = A8 b := fun w1 h => (P0.out.drew.belowAll (hCb w1 h)).row
 have R4 : ∀ w1, C w1 → (getAt 109 (.pointer (some ⟨g, 0, none⟩))).run Tryz.prog w1 = .ok (.agg (A8 k0)) w1 := fun w1 h => by
  have c3 := (R0.out.drew.below (hCb w1 h)).row (t := 109) (Tryz.isAgg109 _) (Tryz.sizeOf109 _) 0 (by omega)
  rw [HK0.out]; exact c3
 repeat
  (first
   | (with_reducible refine h_pure (v := ?_) (a' := ?_) ?_ (fun _ => ?_) ?_ ?_); rotate_left 2; (focus (exact rfl)); (focus (go_simp; (try go_bits); exact rfl))
   | (with_reducible refine h_obl (v := ?_) (a' := ?_) ?_ (fun _ hcw => ?_) ?_ ?_); rotate_left 2; (focus (exact rfl)); (focus (have f := R1 _ hcw; have f' := R2 _ hcw; have f'' := R3 _ hcw; have f3 := R4 _ hcw; go_simp; (try go_bits); exact rfl))
   | (with_reducible refine h_read (v := ?_) (a' := ?_) ?_ (fun _ hbw => ?_) ?_ ?_); rotate_left 2; (focus (exact rfl)); (focus (go_simp; (try go_bits); exact rfl)))
  focus (simp only [Act.put, zz1, zz2, zz3, Act.eval, zz4, zz5, zz6, zz7, zz8]; exact rfl)
 (with_reducible refine h_call ?_ ?_)
 ·exact rfl
 go_simp
 refine entersW_of ?_
 refine (aboth_any b k0 W.drew hb16 hk0l).mono ?_
 rintro e w3 ⟨rfl, b3⟩
 refine ⟨_, rfl, b3, ?_⟩
 try simp only [Act.put, zz1, zz2, zz3]
 repeat
  (first
   | (with_reducible refine h_pure (v := ?_) (a' := ?_) ?_ (fun _ => ?_) ?_ ?_); rotate_left 2; (focus (exact rfl)); (focus (go_simp; (try go_bits); exact rfl))
   | (with_reducible refine h_obl (v := ?_) (a' := ?_) ?_ (fun _ hcw => ?_) ?_ ?_); rotate_left 2; (focus (exact rfl)); (focus (have f := R1 _ hcw; have f' := R2 _ hcw; have f'' := R3 _ hcw; have f3 := R4 _ hcw; go_simp; (try go_bits); exact rfl))
   | (with_reducible refine h_read (v := ?_) (a' := ?_) ?_ (fun _ hbw => ?_) ?_ ?_); rotate_left 2; (focus (exact rfl)); (focus (go_simp; (try go_bits); exact rfl)))
  focus (simp only [Act.put, zz1, zz2, zz3, Act.eval, zz4, zz5, zz6, zz7, zz8]; exact rfl)
 have rm := (R0.out.drew.below b3).mid (j := 1) (k := I) (c' := c - 1) (by omega) (by omega) (by omega) (by omega)
 rw [Nat.zero_add, hI1, show 1 * 16 = 16 from rfl, show (L.take (I * 16)).drop 16 = midKeys L m by rw [HI.out]; rfl] at rm
 obtain ⟨M, hM⟩ : ∃ M, M = midKeys L m := ⟨_, rfl⟩
 rw [← hM] at rm
 obtain ⟨d, hd⟩ : ∃ d, d = xor16 b k0 := ⟨_, rfl⟩
 have hdl : d.length = 16 := by rw [hd]; exact xor16_length b k0
 rw [← hd]
 have HM := hid hM
 have HD := hid hd
 clear hM hd
 (with_reducible refine h_call ?_ ?_)
 ·exact rfl
 go_simp
 refine entersW_of ?_
 refine (trounds_any p d M g 16 (m - 2) (c - 1) w3 (T0.out.drew.below b3) hdl rm (by omega)).mono ?_
 rintro e w4 ⟨rfl, b4⟩
 refine ⟨_, rfl, b4, ?_⟩
 try simp only [Act.put, zz1, zz2, zz3]
 obtain ⟨Y, hY⟩ : ∃ Y, Y = rnds M d (m - 2) := ⟨_, rfl⟩
 rw [← hY]
 have hYl : Y.length = 16 := by rw [hY]; exact rnds_length _ _ hdl _
 have HY := hid hY
 refine h_tail [2] rfl (by simp) ?_
 have b34 := b3.trans (b4.mono b3.size)
 refine z_storeRow (P0.out.drew.belowAll b34) rfl rfl (by rw [A8_size, A8_size, hYl, hb16]) (A8_ones _) (by rw [A8_size, hYl]; exact Tryz.sizeOf109 _) (fun w5 k5 g5 s5 => ?_)
 refine z_nil (hK' _ _ ?_)
 have d4 := B0.out.drew.trans (b34.mono B0.out.size)
 have B5 := hid (d4.trans (grown_below g5 (Nat.le_refl _) d4.size))
 have Z5 := hid ((Z0.out.drew.belowAll b34).grown g5 (by simp))
 have P5 := hid k5
 clear R1 R2 R3 R4 hC0 hCb hK' rm b3 b4 b34 k5 g5 s5 d4 hY
 obtain ⟨kl, hkl⟩ : ∃ kl, kl = keyAt L (m - 1) := ⟨_, rfl⟩
 have hkll : kl.length = 16 := by rw [hkl]; exact keyAt_length L m _ HLL.out (by omega)
 have HKL := hid hkl
 have efin : lastS Y kl = encS L m b := by rw [HY.out, HM.out, HD.out, HK0.out, hkl]; rfl
 obtain ⟨U, hU⟩ : ∃ U, U = encS L m b := ⟨_, rfl⟩
 have hUl : U.length = 16 := by rw [hU]; exact lastS_length _ _
 rw [← hU] at efin
 have EF := hid efin
 have HU := hid hU
 obtain ⟨hT5, g6, c6, h6, r6⟩ := HH.out.below B5.out
 have T5 := hid hT5
 have K5 := hid h6
 have R5 := hid r6
 clear hkl efin hU hT5 h6 r6 P0 Z0 B0 T0 K0 R0
 go_upto_region 5 with fail
 refine wp_region_tail [0,0,0,5,5,0,0,0,5,0,0,5,2,3] (by kernel_rfl) (by kernel_rfl) (fun C hC0 hCb K' hK' => ?_)
 have R1 : ∀ w1, C w1 → w1.cell? ⟨k, 0, none⟩ = some (.pointer (some ⟨p, 0, none⟩)) := fun w1 h => (K5.out.drew.belowAll (hCb w1 h)).cell 0
 have R2 : ∀ w1, C w1 → w1.cell? ⟨k, 1, none⟩ = some (.slice (some ⟨g6, 0, none⟩) m c6) := fun w1 h => (K5.out.drew.belowAll (hCb w1 h)).cell 1
 have R3 : ∀ w1, C w1 → rowAt w1 w.heap.size = A8 Y := fun w1 h => (P5.out.drew.belowAll (hCb w1 h)).row
 have R4 : ∀ w1, C w1 → (getAt 109 (.pointer (some ⟨g6, I * 16, none⟩))).run Tryz.prog w1 = .ok (.agg (A8 kl)) w1 := fun w1 h => by
  have c3 := (R5.out.drew.below (hCb w1 h)).row (t := 109) (Tryz.isAgg109 _) (Tryz.sizeOf109 _) I (by have := HI.out; omega)
  rw [Nat.zero_add] at c3
  rw [HKL.out, ← HI.out]; exact c3
 repeat
  (first
   | (with_reducible refine h_pure (v := ?_) (a' := ?_) ?_ (fun _ => ?_) ?_ ?_); rotate_left 2; (focus (exact rfl)); (focus (go_simp; (try go_bits); exact rfl))
   | (with_reducible refine h_obl (v := ?_) (a' := ?_) ?_ (fun _ hcw => ?_) ?_ ?_); rotate_left 2; (focus (exact rfl)); (focus (have f := R1 _ hcw; have f' := R2 _ hcw; have f'' := R3 _ hcw; have f3 := R4 _ hcw; go_simp; (try go_bits); exact rfl))
   | (with_reducible refine h_read (v := ?_) (a' := ?_) ?_ (fun _ hbw => ?_) ?_ ?_); rotate_left 2; (focus (exact rfl)); (focus (go_simp; (try go_bits); exact rfl)))
  focus (simp only [Act.put, zz1, zz2, zz3, Act.eval, zz4, zz5, zz6, zz7, zz8]; exact rfl)
 (with_reducible refine h_call ?_ ?_)
 ·exact rfl
 go_simp
 refine entersW_of ?_
 refine (tlast_any p Y kl w5.drew T5.out.drew hYl hkll).mono ?_
 rintro e w7 ⟨rfl, b7⟩
 refine ⟨_, rfl, b7, ?_⟩
 try simp only [Act.put, zz1, zz2, zz3]
 rw [EF.out]
 refine h_tail [2] rfl (by simp) ?_
 refine z_storeRow (Z5.out.drew.belowAll b7) rfl rfl (by rw [A8_size, A8_size, hUl, zeros_length]) (A8_ones _) (by rw [A8_size, hUl]; exact Tryz.sizeOf109 _) (fun w8 k8 g8 s8 => ?_)
 refine z_nil (hK' _ _ ?_)
 have r8 := k8.row
 have d7 := B5.out.drew.trans (b7.mono B5.out.size)
 have B8 := d7.trans (grown_below g8 (by omega) d7.size)
 clear R1 R2 R3 R4 hC0 hCb hK' b7 g8 s8 d7
 go_wp2
 rw [← HU.out]
 refine bodyPost_row (A8 U) rfl rfl rfl (Tryz.isAgg109 _) (Tryz.sizeOf109 _) (by rw [A8_size]; exact hUl) r8 ⟨rfl, B8⟩
open Go.RowKit
open Go.RowKit
end Go.Proofs.YtpifdkkhdgbcdaaGreatDoor
