/- XctrApart: the walk -/
import Derived.Test.YtepijmidafndaaaDoorAp13
import Derived.Test.YtepijmidafndaaaDoorEq
import Derived.Test.YtepijmidafndaaaDoorMany
import Derived.Deep.CutRange
namespace Go.Proofs.YtepijmidafndaaaDoor
open Go.RowKit
theorem perm_three {P : Program} {ops : Array Oper} {C : World → Prop} {R : Act → World → Prop} {i j k : Nat} {x f g : Oper} {a : Act} {w : World} (hij : i ≠ j) (hik : i ≠ k) (hjk : j ≠ k)
    (h1 : wpH P ops C (fun a w => wpH P ops C R [2, 2] [f, g] a w ∧ wpH P ops C R [2, 2] [g, f] a w) [2] [x] a w)
    (h2 : wpH P ops C (fun a w => wpH P ops C R [2, 2] [x, g] a w ∧ wpH P ops C R [2, 2] [g, x] a w) [2] [f] a w)
    (h3 : wpH P ops C (fun a w => wpH P ops C R [2, 2] [x, f] a w ∧ wpH P ops C R [2, 2] [f, x] a w) [2] [g] a w) :
    permH P ops C R 3 [(i, 2, x), (j, 2, f), (k, 2, g)] a w := by
  have hji : j ≠ i := fun e => hij e.symm
  have hki : k ≠ i := fun e => hik e.symm
  have hkj : k ≠ j := fun e => hjk e.symm
  simp only [wpH] at h1 h2 h3
  simp only [permH, List.mem_cons, List.not_mem_nil, or_false, forall_eq_or_imp, forall_eq]
  refine ⟨opH_mono (fun a w hh => ?_) h1, opH_mono (fun a w hh => ?_) h2, opH_mono (fun a w hh => ?_) h3⟩
  all_goals
    simp only [List.filter_cons, List.filter_nil, bne_self_eq_false, bne_iff_ne, ne_eq, hij, hik, hjk, hji, hki, hkj, not_false_eq_true, not_true_eq_false, if_true, Bool.false_eq_true, if_false, List.mem_cons, List.not_mem_nil, or_false, forall_eq_or_imp, forall_eq]
    refine ⟨opH_mono (fun a w hh => ?_) hh.1, opH_mono (fun a w hh => ?_) hh.2⟩
    all_goals exact hh
/-- a key stays, whatever is done to a block of sixteen bytes -/
theorem KeyAt.kept16 {w w' : World} {k p m g : Nat} {L Z : List (BitVec 8)} (h : KeyAt w k p m L) (hm : 2 ≤ m) (hb : Blk w g 31 (A8 Z)) (hZ : Z.length = 16) (hg : w.grownBy w' (some g)) : KeyAt w' k p m L := by
  have ne : ∀ {q : Nat} {t : TypeId} {cs : Array Value}, Blk w q t cs → t ≠ 31 → some q ≠ some g := by
    intro q t cs hq ht e
    cases e
    unfold Blk at hq hb
    rw [hq] at hb
    injection hb with hb
    injection hb with h1 h2
    exact ht h2
  obtain ⟨⟨q, t1, t2⟩, gg, c, h1, h2⟩ := h
  refine ⟨⟨q, t1.grown hg (ne t1 (by decide)), t2.grown hg (ne t2 (by decide))⟩, gg, c, h1.grown hg (ne h1 (by decide)), h2.1, h2.2.1, h2.2.2.1, fun hn => ?_⟩
  obtain ⟨b, o, he, hlt, hc⟩ := h2.2.2.2 hn
  refine ⟨b, o, he, Nat.lt_of_lt_of_le hlt hg.size, fun i hi => hg.cell (hc i hi) ?_⟩
  intro e
  cases e
  have h16 := hc 16 (by omega)
  rw [hb.cell] at h16
  have : (A8 Z)[o + 16]? = none := by rw [Array.getElem?_eq_none]; rw [A8_size, hZ]; omega
  rw [this] at h16
  cases h16
set_option linter.unusedSimpArgs false in
set_option maxRecDepth 100000 in
set_option maxHeartbeats 3200000 in
theorem XctrApart_walk (T : Array Value) (K P Q : List (BitVec 8)) (i j : BitVec 64) (w : World) (h : ApartAt T K P Q i j) (hT : Turning w) :
    Calls Tryd.prog 5 #[.agg T] w fun e w' => e = .returned (.bool true) ∧ Below w.heap.size w w' := by
  obtain ⟨W, hW⟩ : ∃ W, (w.alloc (.cells T 51)) = W := ⟨_, rfl⟩
  obtain ⟨b0, hb, hz⟩ := new1 _ _ _ _ hW
  have X0 := Lib.hid b0
  have B0 := Lib.hid hb
  have T0 := Lib.hid (hT.below hb)
  have s0 := h.size
  have hK := h.lK
  have hP := h.lP
  have hQ := h.lQ
  have HH := Lib.hid h
  have D0 := (Below.refl W.heap.size W).drew
  have HZ := Lib.hid hz
  clear b0 hb hz hT h
  go_enter Tryd.func5, Tryd.ntmps5
  go_upto_region 1 with fail
  clear hW
  go_cut [3, 4, 5, 6, 7] from 8 to 18 (fun s3 s4 s5 s6 s7 wx => ∃ k p g4 g5 : Nat, s3 = .pointer (some ⟨k, 0, none⟩) ∧ s4 = .pointer (some ⟨g4, 0, none⟩) ∧ s5 = .pointer (some ⟨g5, 0, none⟩) ∧ s6 = v64 i ∧ s7 = v64 j ∧ KeyAt wx k p (mK K) (LK K) ∧ Blk wx g4 31 (A8 P) ∧ Blk wx g5 31 (A8 Q) ∧ Below W.heap.size W wx)
  case first =>
    have fin : ∀ (w1 : World) (k p g4 g5 : Nat), KeyAt w1 k p (mK K) (LK K) → Blk w1 g4 31 (A8 (zeros 8 16)) → Blk w1 g5 31 (A8 (zeros 8 16)) → g4 ≠ g5 → W.heap.size ≤ g4 → W.heap.size ≤ g5 → Below W.heap.size W w1 →
        ∀ w3 w4 : World, Blk w3 g4 31 (A8 P) → w1.grownBy w3 (some g4) → Blk w4 g5 31 (A8 Q) → w3.grownBy w4 (some g5) → KeyAt w4 k p (mK K) (LK K) ∧ Blk w4 g4 31 (A8 P) ∧ Blk w4 g5 31 (A8 Q) ∧ Below W.heap.size W w4 := by
      intro w1 k p g4 g5 k1 y4 y5 hne h4 h5 D w3 w4 y3 e3 y3' e4
      have hm := mK_bounds K
      have y5' := y5.grown e3 (by intro e; cases e; exact hne rfl)
      exact ⟨(k1.kept16 (by omega) y4 (by simp) e3).kept16 (by omega) y5' (by simp) e4, y3.grown e4 (by intro e; cases e; exact hne rfl), y3', (D.trans (grown_below e3 h4 D.size)).trans (grown_below e4 h5 (Nat.le_trans D.size e3.size))⟩
    refine wp_region_many [0,5,2,0,5,0,5,0,5,0,5,2,2,0,3,3,0,0] [0,1,3,4,5,6,7,8,9,10] [(2, 2, _), (11, 2, _), (12, 2, _)] [13,14,15,16,17] [_, _, _, _, _, _, _, _, _, _] [_, _, _, _, _] [0,5,0,5,0,5,0,5,0,5] [0,3,3,0,0] 3 rfl rfl rfl (by kernel_rfl) (by kernel_rfl) rfl rfl rfl (fun C hC0 hCb hCe K' hK' => ?_)
    have R0 : ∀ w1, C w1 → rowAt w1 w.heap.size = T := fun w1 h => (X0.out.drew.belowAll (hCb w1 h)).row
    have x1 := HH.out.z
    have x2 := HH.out.p
    have x3 := HH.out.q
    have R1 : ∀ w1, C w1 → w1.cell? ⟨w.heap.size, 65, none⟩ = some (v64 i) := fun w1 h => by rw [cell_rowAt, R0 w1 h, HH.out.i]
    have R2 : ∀ w1, C w1 → w1.cell? ⟨w.heap.size, 66, none⟩ = some (v64 j) := fun w1 h => by rw [cell_rowAt, R0 w1 h, HH.out.j]
    repeat
      first
        | ((with_reducible refine h_pure (v := ?_) (a' := ?_) ?_ (fun _ => ?_) ?_ ?_); rotate_left; rotate_left; (focus (exact rfl)); (focus (go_simp; (try go_bits); exact rfl)); (focus (simp only [Act.put, List.setIfInBounds_toArray, List.set_cons_succ, List.set_cons_zero, Act.eval, Array.getD_eq_getD_getElem?, List.getElem?_toArray, List.getElem?_cons_succ, List.getElem?_cons_zero, Option.getD_some]; exact rfl)))
        | ((with_reducible refine h_obl (v := ?_) (a' := ?_) ?_ (fun _ hcw => ?_) ?_ ?_); rotate_left; rotate_left; (focus (exact rfl)); (focus (have f := R0 _ hcw; have f1 := R1 _ hcw; have f2 := R2 _ hcw; go_simp; (try go_bits); exact rfl)); (focus (simp only [Act.put, List.setIfInBounds_toArray, List.set_cons_succ, List.set_cons_zero, Act.eval, Array.getD_eq_getD_getElem?, List.getElem?_toArray, List.getElem?_cons_succ, List.getElem?_cons_zero, Option.getD_some]; exact rfl)))
        | ((with_reducible refine h_read (v := ?_) (a' := ?_) ?_ (fun _ hbw => ?_) ?_ ?_); rotate_left; rotate_left; (focus (exact rfl)); (focus (skip; go_simp; (try go_bits); exact rfl)); (focus (simp only [Act.put, List.setIfInBounds_toArray, List.set_cons_succ, List.set_cons_zero, Act.eval, Array.getD_eq_getD_getElem?, List.getElem?_toArray, List.getElem?_cons_succ, List.getElem?_cons_zero, Option.getD_some]; exact rfl)))
    refine h_nil ?_
    clear R0 R1 R2 hC0 hCb x1 x2 x3
    refine perm_three (by decide) (by decide) (by decide) ?_ ?_ ?_
    · have DW0 : Below W.heap.size W W.drew := D0
      (with_reducible refine h_call ?_ ?_)
      · exact rfl
      go_simp
      refine entersW_of ?_
      refine (key13_any K W.drew hK (T0.out.below DW0)).mono ?_
      rintro e u1 ⟨k, p, rfl, ku1, du1⟩
      refine ⟨_, rfl, du1, ?_⟩
      try simp only [Act.put, List.setIfInBounds_toArray, List.set_cons_succ, List.set_cons_zero]
      have Du1 := DW0.trans (du1.mono DW0.size)
      refine h_nil ⟨?_, ?_⟩
      · obtain ⟨u2, eu2⟩ : ∃ u, u1.alloc (.cells (A8 (zeros 8 16)) 31) = u := ⟨_, rfl⟩
        obtain ⟨y4u2, du2, zu2⟩ := new1 _ _ _ _ eu2
        obtain ⟨g4, hg4⟩ : ∃ g, g = u1.heap.size := ⟨_, rfl⟩
        refine h_made (v := .pointer (some ⟨g4, 0, none⟩)) (w' := u2) rfl (by rw [← eu2, hg4]; go_simp) du2 ?_
        simp only [Act.put, List.setIfInBounds_toArray, List.set_cons_succ, List.set_cons_zero]
        rw [← hg4] at y4u2
        have Du2 := Du1.trans (du2.mono Du1.size)
        have G4 : W.heap.size ≤ g4 := by rw [hg4]; exact Du1.size
        have ku2 := ku1.below du2
        clear eu2 zu2 hg4
        obtain ⟨u3, eu3⟩ : ∃ u, u2.alloc (.cells (A8 (zeros 8 16)) 31) = u := ⟨_, rfl⟩
        obtain ⟨y5u3, du3, zu3⟩ := new1 _ _ _ _ eu3
        obtain ⟨g5, hg5⟩ : ∃ g, g = u2.heap.size := ⟨_, rfl⟩
        refine h_made (v := .pointer (some ⟨g5, 0, none⟩)) (w' := u3) rfl (by rw [← eu3, hg5]; go_simp) du3 ?_
        simp only [Act.put, List.setIfInBounds_toArray, List.set_cons_succ, List.set_cons_zero]
        rw [← hg5] at y5u3
        have Du3 := Du2.trans (du3.mono Du2.size)
        have G5 : W.heap.size ≤ g5 := by rw [hg5]; exact Du2.size
        have ku3 := ku2.below du3
        have y4u3 := y4u2.belowAll du3
        have ne : g4 ≠ g5 := by have := y4u2.lt; omega
        clear eu3 zu3 hg5
        have BD : Below W.drew.heap.size W.drew u3 := ⟨Du3.os, Du3.tape, Du3.output, Du3.size, Du3.block⟩
        refine c_pure (v := ?_) (a' := ?_) (hCe _ BD) ?_ (fun _ => ?_) ?_ ?_
        rotate_left
        rotate_left
        · exact rfl
        · go_simp; exact rfl
        · (simp only [Act.put, List.setIfInBounds_toArray, List.set_cons_succ, List.set_cons_zero, Act.eval, Array.getD_eq_getD_getElem?, List.getElem?_toArray, List.getElem?_cons_succ, List.getElem?_cons_zero, Option.getD_some]; exact rfl)
        refine c_act ?_
        refine z_storeRow y4u3 rfl rfl (by rw [A8_size, A8_size, hP, zeros_length]) (A8_ones _) (by rw [A8_size, hP]; exact Tryd.sizeOf31 _) (fun w8 k8 q8 s8 => ?_)
        have BD8 := BD.trans (grown_below q8 G4 BD.size)
        refine z_nil ⟨hCe _ BD8, ?_⟩
        refine c_act ?_
        refine z_storeRow (y5u3.grown q8 (by intro e; cases e; exact (ne).symm rfl)) rfl rfl (by rw [A8_size, A8_size, hQ, zeros_length]) (A8_ones _) (by rw [A8_size, hQ]; exact Tryd.sizeOf31 _) (fun w9 k9 q9 s9 => ?_)
        have BD9 := BD8.trans (grown_below q9 G5 BD8.size)
        refine z_nil ⟨hCe _ BD9, ?_⟩
        refine c_pure (v := ?_) (a' := ?_) (hCe _ BD9) ?_ (fun _ => ?_) ?_ ?_
        rotate_left
        rotate_left
        · exact rfl
        · go_simp; exact rfl
        · (simp only [Act.put, List.setIfInBounds_toArray, List.set_cons_succ, List.set_cons_zero, Act.eval, Array.getD_eq_getD_getElem?, List.getElem?_toArray, List.getElem?_cons_succ, List.getElem?_cons_zero, Option.getD_some]; exact rfl)
        refine c_pure (v := ?_) (a' := ?_) (hCe _ BD9) ?_ (fun _ => ?_) ?_ ?_
        rotate_left
        rotate_left
        · exact rfl
        · go_simp; exact rfl
        · (simp only [Act.put, List.setIfInBounds_toArray, List.set_cons_succ, List.set_cons_zero, Act.eval, Array.getD_eq_getD_getElem?, List.getElem?_toArray, List.getElem?_cons_succ, List.getElem?_cons_zero, Option.getD_some]; exact rfl)
        refine c_nil (hK' _ _ ?_)
        have ff := fin u3 k p g4 g5 ku3 y4u3 y5u3 ne G4 G5 Du3 w8 w9 k8 q8 k9 q9
        go_wp2
        go_meet
        exact ⟨k, p, g4, g5, rfl, rfl, rfl, rfl, rfl, ff⟩
      · obtain ⟨u2, eu2⟩ : ∃ u, u1.alloc (.cells (A8 (zeros 8 16)) 31) = u := ⟨_, rfl⟩
        obtain ⟨y5u2, du2, zu2⟩ := new1 _ _ _ _ eu2
        obtain ⟨g5, hg5⟩ : ∃ g, g = u1.heap.size := ⟨_, rfl⟩
        refine h_made (v := .pointer (some ⟨g5, 0, none⟩)) (w' := u2) rfl (by rw [← eu2, hg5]; go_simp) du2 ?_
        simp only [Act.put, List.setIfInBounds_toArray, List.set_cons_succ, List.set_cons_zero]
        rw [← hg5] at y5u2
        have Du2 := Du1.trans (du2.mono Du1.size)
        have G5 : W.heap.size ≤ g5 := by rw [hg5]; exact Du1.size
        have ku2 := ku1.below du2
        clear eu2 zu2 hg5
        obtain ⟨u3, eu3⟩ : ∃ u, u2.alloc (.cells (A8 (zeros 8 16)) 31) = u := ⟨_, rfl⟩
        obtain ⟨y4u3, du3, zu3⟩ := new1 _ _ _ _ eu3
        obtain ⟨g4, hg4⟩ : ∃ g, g = u2.heap.size := ⟨_, rfl⟩
        refine h_made (v := .pointer (some ⟨g4, 0, none⟩)) (w' := u3) rfl (by rw [← eu3, hg4]; go_simp) du3 ?_
        simp only [Act.put, List.setIfInBounds_toArray, List.set_cons_succ, List.set_cons_zero]
        rw [← hg4] at y4u3
        have Du3 := Du2.trans (du3.mono Du2.size)
        have G4 : W.heap.size ≤ g4 := by rw [hg4]; exact Du2.size
        have ku3 := ku2.below du3
        have y5u3 := y5u2.belowAll du3
        have ne : g5 ≠ g4 := by have := y5u2.lt; omega
        clear eu3 zu3 hg4
        have BD : Below W.drew.heap.size W.drew u3 := ⟨Du3.os, Du3.tape, Du3.output, Du3.size, Du3.block⟩
        refine c_pure (v := ?_) (a' := ?_) (hCe _ BD) ?_ (fun _ => ?_) ?_ ?_
        rotate_left
        rotate_left
        · exact rfl
        · go_simp; exact rfl
        · (simp only [Act.put, List.setIfInBounds_toArray, List.set_cons_succ, List.set_cons_zero, Act.eval, Array.getD_eq_getD_getElem?, List.getElem?_toArray, List.getElem?_cons_succ, List.getElem?_cons_zero, Option.getD_some]; exact rfl)
        refine c_act ?_
        refine z_storeRow y4u3 rfl rfl (by rw [A8_size, A8_size, hP, zeros_length]) (A8_ones _) (by rw [A8_size, hP]; exact Tryd.sizeOf31 _) (fun w8 k8 q8 s8 => ?_)
        have BD8 := BD.trans (grown_below q8 G4 BD.size)
        refine z_nil ⟨hCe _ BD8, ?_⟩
        refine c_act ?_
        refine z_storeRow (y5u3.grown q8 (by intro e; cases e; exact (ne.symm).symm rfl)) rfl rfl (by rw [A8_size, A8_size, hQ, zeros_length]) (A8_ones _) (by rw [A8_size, hQ]; exact Tryd.sizeOf31 _) (fun w9 k9 q9 s9 => ?_)
        have BD9 := BD8.trans (grown_below q9 G5 BD8.size)
        refine z_nil ⟨hCe _ BD9, ?_⟩
        refine c_pure (v := ?_) (a' := ?_) (hCe _ BD9) ?_ (fun _ => ?_) ?_ ?_
        rotate_left
        rotate_left
        · exact rfl
        · go_simp; exact rfl
        · (simp only [Act.put, List.setIfInBounds_toArray, List.set_cons_succ, List.set_cons_zero, Act.eval, Array.getD_eq_getD_getElem?, List.getElem?_toArray, List.getElem?_cons_succ, List.getElem?_cons_zero, Option.getD_some]; exact rfl)
        refine c_pure (v := ?_) (a' := ?_) (hCe _ BD9) ?_ (fun _ => ?_) ?_ ?_
        rotate_left
        rotate_left
        · exact rfl
        · go_simp; exact rfl
        · (simp only [Act.put, List.setIfInBounds_toArray, List.set_cons_succ, List.set_cons_zero, Act.eval, Array.getD_eq_getD_getElem?, List.getElem?_toArray, List.getElem?_cons_succ, List.getElem?_cons_zero, Option.getD_some]; exact rfl)
        refine c_nil (hK' _ _ ?_)
        have ff := fin u3 k p g4 g5 ku3 y4u3 y5u3 ne.symm G4 G5 Du3 w8 w9 k8 q8 k9 q9
        go_wp2
        go_meet
        exact ⟨k, p, g4, g5, rfl, rfl, rfl, rfl, rfl, ff⟩
    · have DW0 : Below W.heap.size W W.drew := D0
      obtain ⟨u1, eu1⟩ : ∃ u, W.drew.alloc (.cells (A8 (zeros 8 16)) 31) = u := ⟨_, rfl⟩
      obtain ⟨y4u1, du1, zu1⟩ := new1 _ _ _ _ eu1
      obtain ⟨g4, hg4⟩ : ∃ g, g = W.drew.heap.size := ⟨_, rfl⟩
      refine h_made (v := .pointer (some ⟨g4, 0, none⟩)) (w' := u1) rfl (by rw [← eu1, hg4]; go_simp) du1 ?_
      simp only [Act.put, List.setIfInBounds_toArray, List.set_cons_succ, List.set_cons_zero]
      rw [← hg4] at y4u1
      have Du1 := DW0.trans (du1.mono DW0.size)
      have G4 : W.heap.size ≤ g4 := by rw [hg4]; exact DW0.size
      clear eu1 zu1 hg4
      refine h_nil ⟨?_, ?_⟩
      · (with_reducible refine h_call ?_ ?_)
        · exact rfl
        go_simp
        refine entersW_of ?_
        refine (key13_any K u1 hK (T0.out.below Du1)).mono ?_
        rintro e u2 ⟨k, p, rfl, ku2, du2⟩
        refine ⟨_, rfl, du2, ?_⟩
        try simp only [Act.put, List.setIfInBounds_toArray, List.set_cons_succ, List.set_cons_zero]
        have Du2 := Du1.trans (du2.mono Du1.size)
        have y4u2 := y4u1.belowAll du2
        obtain ⟨u3, eu3⟩ : ∃ u, u2.alloc (.cells (A8 (zeros 8 16)) 31) = u := ⟨_, rfl⟩
        obtain ⟨y5u3, du3, zu3⟩ := new1 _ _ _ _ eu3
        obtain ⟨g5, hg5⟩ : ∃ g, g = u2.heap.size := ⟨_, rfl⟩
        refine h_made (v := .pointer (some ⟨g5, 0, none⟩)) (w' := u3) rfl (by rw [← eu3, hg5]; go_simp) du3 ?_
        simp only [Act.put, List.setIfInBounds_toArray, List.set_cons_succ, List.set_cons_zero]
        rw [← hg5] at y5u3
        have Du3 := Du2.trans (du3.mono Du2.size)
        have G5 : W.heap.size ≤ g5 := by rw [hg5]; exact Du2.size
        have y4u3 := y4u2.belowAll du3
        have ne : g4 ≠ g5 := by have := y4u2.lt; omega
        have ku3 := ku2.below du3
        clear eu3 zu3 hg5
        have BD : Below W.drew.heap.size W.drew u3 := ⟨Du3.os, Du3.tape, Du3.output, Du3.size, Du3.block⟩
        refine c_pure (v := ?_) (a' := ?_) (hCe _ BD) ?_ (fun _ => ?_) ?_ ?_
        rotate_left
        rotate_left
        · exact rfl
        · go_simp; exact rfl
        · (simp only [Act.put, List.setIfInBounds_toArray, List.set_cons_succ, List.set_cons_zero, Act.eval, Array.getD_eq_getD_getElem?, List.getElem?_toArray, List.getElem?_cons_succ, List.getElem?_cons_zero, Option.getD_some]; exact rfl)
        refine c_act ?_
        refine z_storeRow y4u3 rfl rfl (by rw [A8_size, A8_size, hP, zeros_length]) (A8_ones _) (by rw [A8_size, hP]; exact Tryd.sizeOf31 _) (fun w8 k8 q8 s8 => ?_)
        have BD8 := BD.trans (grown_below q8 G4 BD.size)
        refine z_nil ⟨hCe _ BD8, ?_⟩
        refine c_act ?_
        refine z_storeRow (y5u3.grown q8 (by intro e; cases e; exact (ne).symm rfl)) rfl rfl (by rw [A8_size, A8_size, hQ, zeros_length]) (A8_ones _) (by rw [A8_size, hQ]; exact Tryd.sizeOf31 _) (fun w9 k9 q9 s9 => ?_)
        have BD9 := BD8.trans (grown_below q9 G5 BD8.size)
        refine z_nil ⟨hCe _ BD9, ?_⟩
        refine c_pure (v := ?_) (a' := ?_) (hCe _ BD9) ?_ (fun _ => ?_) ?_ ?_
        rotate_left
        rotate_left
        · exact rfl
        · go_simp; exact rfl
        · (simp only [Act.put, List.setIfInBounds_toArray, List.set_cons_succ, List.set_cons_zero, Act.eval, Array.getD_eq_getD_getElem?, List.getElem?_toArray, List.getElem?_cons_succ, List.getElem?_cons_zero, Option.getD_some]; exact rfl)
        refine c_pure (v := ?_) (a' := ?_) (hCe _ BD9) ?_ (fun _ => ?_) ?_ ?_
        rotate_left
        rotate_left
        · exact rfl
        · go_simp; exact rfl
        · (simp only [Act.put, List.setIfInBounds_toArray, List.set_cons_succ, List.set_cons_zero, Act.eval, Array.getD_eq_getD_getElem?, List.getElem?_toArray, List.getElem?_cons_succ, List.getElem?_cons_zero, Option.getD_some]; exact rfl)
        refine c_nil (hK' _ _ ?_)
        have ff := fin u3 k p g4 g5 ku3 y4u3 y5u3 ne G4 G5 Du3 w8 w9 k8 q8 k9 q9
        go_wp2
        go_meet
        exact ⟨k, p, g4, g5, rfl, rfl, rfl, rfl, rfl, ff⟩
      · obtain ⟨u2, eu2⟩ : ∃ u, u1.alloc (.cells (A8 (zeros 8 16)) 31) = u := ⟨_, rfl⟩
        obtain ⟨y5u2, du2, zu2⟩ := new1 _ _ _ _ eu2
        obtain ⟨g5, hg5⟩ : ∃ g, g = u1.heap.size := ⟨_, rfl⟩
        refine h_made (v := .pointer (some ⟨g5, 0, none⟩)) (w' := u2) rfl (by rw [← eu2, hg5]; go_simp) du2 ?_
        simp only [Act.put, List.setIfInBounds_toArray, List.set_cons_succ, List.set_cons_zero]
        rw [← hg5] at y5u2
        have Du2 := Du1.trans (du2.mono Du1.size)
        have G5 : W.heap.size ≤ g5 := by rw [hg5]; exact Du1.size
        have y4u2 := y4u1.belowAll du2
        have ne : g4 ≠ g5 := by have := y4u1.lt; omega
        clear eu2 zu2 hg5
        (with_reducible refine h_call ?_ ?_)
        · exact rfl
        go_simp
        refine entersW_of ?_
        refine (key13_any K u2 hK (T0.out.below Du2)).mono ?_
        rintro e u3 ⟨k, p, rfl, ku3, du3⟩
        refine ⟨_, rfl, du3, ?_⟩
        try simp only [Act.put, List.setIfInBounds_toArray, List.set_cons_succ, List.set_cons_zero]
        have Du3 := Du2.trans (du3.mono Du2.size)
        have y4u3 := y4u2.belowAll du3
        have y5u3 := y5u2.belowAll du3
        have BD : Below W.drew.heap.size W.drew u3 := ⟨Du3.os, Du3.tape, Du3.output, Du3.size, Du3.block⟩
        refine c_pure (v := ?_) (a' := ?_) (hCe _ BD) ?_ (fun _ => ?_) ?_ ?_
        rotate_left
        rotate_left
        · exact rfl
        · go_simp; exact rfl
        · (simp only [Act.put, List.setIfInBounds_toArray, List.set_cons_succ, List.set_cons_zero, Act.eval, Array.getD_eq_getD_getElem?, List.getElem?_toArray, List.getElem?_cons_succ, List.getElem?_cons_zero, Option.getD_some]; exact rfl)
        refine c_act ?_
        refine z_storeRow y4u3 rfl rfl (by rw [A8_size, A8_size, hP, zeros_length]) (A8_ones _) (by rw [A8_size, hP]; exact Tryd.sizeOf31 _) (fun w8 k8 q8 s8 => ?_)
        have BD8 := BD.trans (grown_below q8 G4 BD.size)
        refine z_nil ⟨hCe _ BD8, ?_⟩
        refine c_act ?_
        refine z_storeRow (y5u3.grown q8 (by intro e; cases e; exact (ne).symm rfl)) rfl rfl (by rw [A8_size, A8_size, hQ, zeros_length]) (A8_ones _) (by rw [A8_size, hQ]; exact Tryd.sizeOf31 _) (fun w9 k9 q9 s9 => ?_)
        have BD9 := BD8.trans (grown_below q9 G5 BD8.size)
        refine z_nil ⟨hCe _ BD9, ?_⟩
        refine c_pure (v := ?_) (a' := ?_) (hCe _ BD9) ?_ (fun _ => ?_) ?_ ?_
        rotate_left
        rotate_left
        · exact rfl
        · go_simp; exact rfl
        · (simp only [Act.put, List.setIfInBounds_toArray, List.set_cons_succ, List.set_cons_zero, Act.eval, Array.getD_eq_getD_getElem?, List.getElem?_toArray, List.getElem?_cons_succ, List.getElem?_cons_zero, Option.getD_some]; exact rfl)
        refine c_pure (v := ?_) (a' := ?_) (hCe _ BD9) ?_ (fun _ => ?_) ?_ ?_
        rotate_left
        rotate_left
        · exact rfl
        · go_simp; exact rfl
        · (simp only [Act.put, List.setIfInBounds_toArray, List.set_cons_succ, List.set_cons_zero, Act.eval, Array.getD_eq_getD_getElem?, List.getElem?_toArray, List.getElem?_cons_succ, List.getElem?_cons_zero, Option.getD_some]; exact rfl)
        refine c_nil (hK' _ _ ?_)
        have ff := fin u3 k p g4 g5 ku3 y4u3 y5u3 ne G4 G5 Du3 w8 w9 k8 q8 k9 q9
        go_wp2
        go_meet
        exact ⟨k, p, g4, g5, rfl, rfl, rfl, rfl, rfl, ff⟩
    · have DW0 : Below W.heap.size W W.drew := D0
      obtain ⟨u1, eu1⟩ : ∃ u, W.drew.alloc (.cells (A8 (zeros 8 16)) 31) = u := ⟨_, rfl⟩
      obtain ⟨y5u1, du1, zu1⟩ := new1 _ _ _ _ eu1
      obtain ⟨g5, hg5⟩ : ∃ g, g = W.drew.heap.size := ⟨_, rfl⟩
      refine h_made (v := .pointer (some ⟨g5, 0, none⟩)) (w' := u1) rfl (by rw [← eu1, hg5]; go_simp) du1 ?_
      simp only [Act.put, List.setIfInBounds_toArray, List.set_cons_succ, List.set_cons_zero]
      rw [← hg5] at y5u1
      have Du1 := DW0.trans (du1.mono DW0.size)
      have G5 : W.heap.size ≤ g5 := by rw [hg5]; exact DW0.size
      clear eu1 zu1 hg5
      refine h_nil ⟨?_, ?_⟩
      · (with_reducible refine h_call ?_ ?_)
        · exact rfl
        go_simp
        refine entersW_of ?_
        refine (key13_any K u1 hK (T0.out.below Du1)).mono ?_
        rintro e u2 ⟨k, p, rfl, ku2, du2⟩
        refine ⟨_, rfl, du2, ?_⟩
        try simp only [Act.put, List.setIfInBounds_toArray, List.set_cons_succ, List.set_cons_zero]
        have Du2 := Du1.trans (du2.mono Du1.size)
        have y5u2 := y5u1.belowAll du2
        obtain ⟨u3, eu3⟩ : ∃ u, u2.alloc (.cells (A8 (zeros 8 16)) 31) = u := ⟨_, rfl⟩
        obtain ⟨y4u3, du3, zu3⟩ := new1 _ _ _ _ eu3
        obtain ⟨g4, hg4⟩ : ∃ g, g = u2.heap.size := ⟨_, rfl⟩
        refine h_made (v := .pointer (some ⟨g4, 0, none⟩)) (w' := u3) rfl (by rw [← eu3, hg4]; go_simp) du3 ?_
        simp only [Act.put, List.setIfInBounds_toArray, List.set_cons_succ, List.set_cons_zero]
        rw [← hg4] at y4u3
        have Du3 := Du2.trans (du3.mono Du2.size)
        have G4 : W.heap.size ≤ g4 := by rw [hg4]; exact Du2.size
        have y5u3 := y5u2.belowAll du3
        have ne : g5 ≠ g4 := by have := y5u2.lt; omega
        have ku3 := ku2.below du3
        clear eu3 zu3 hg4
        have BD : Below W.drew.heap.size W.drew u3 := ⟨Du3.os, Du3.tape, Du3.output, Du3.size, Du3.block⟩
        refine c_pure (v := ?_) (a' := ?_) (hCe _ BD) ?_ (fun _ => ?_) ?_ ?_
        rotate_left
        rotate_left
        · exact rfl
        · go_simp; exact rfl
        · (simp only [Act.put, List.setIfInBounds_toArray, List.set_cons_succ, List.set_cons_zero, Act.eval, Array.getD_eq_getD_getElem?, List.getElem?_toArray, List.getElem?_cons_succ, List.getElem?_cons_zero, Option.getD_some]; exact rfl)
        refine c_act ?_
        refine z_storeRow y4u3 rfl rfl (by rw [A8_size, A8_size, hP, zeros_length]) (A8_ones _) (by rw [A8_size, hP]; exact Tryd.sizeOf31 _) (fun w8 k8 q8 s8 => ?_)
        have BD8 := BD.trans (grown_below q8 G4 BD.size)
        refine z_nil ⟨hCe _ BD8, ?_⟩
        refine c_act ?_
        refine z_storeRow (y5u3.grown q8 (by intro e; cases e; exact (ne.symm).symm rfl)) rfl rfl (by rw [A8_size, A8_size, hQ, zeros_length]) (A8_ones _) (by rw [A8_size, hQ]; exact Tryd.sizeOf31 _) (fun w9 k9 q9 s9 => ?_)
        have BD9 := BD8.trans (grown_below q9 G5 BD8.size)
        refine z_nil ⟨hCe _ BD9, ?_⟩
        refine c_pure (v := ?_) (a' := ?_) (hCe _ BD9) ?_ (fun _ => ?_) ?_ ?_
        rotate_left
        rotate_left
        · exact rfl
        · go_simp; exact rfl
        · (simp only [Act.put, List.setIfInBounds_toArray, List.set_cons_succ, List.set_cons_zero, Act.eval, Array.getD_eq_getD_getElem?, List.getElem?_toArray, List.getElem?_cons_succ, List.getElem?_cons_zero, Option.getD_some]; exact rfl)
        refine c_pure (v := ?_) (a' := ?_) (hCe _ BD9) ?_ (fun _ => ?_) ?_ ?_
        rotate_left
        rotate_left
        · exact rfl
        · go_simp; exact rfl
        · (simp only [Act.put, List.setIfInBounds_toArray, List.set_cons_succ, List.set_cons_zero, Act.eval, Array.getD_eq_getD_getElem?, List.getElem?_toArray, List.getElem?_cons_succ, List.getElem?_cons_zero, Option.getD_some]; exact rfl)
        refine c_nil (hK' _ _ ?_)
        have ff := fin u3 k p g4 g5 ku3 y4u3 y5u3 ne.symm G4 G5 Du3 w8 w9 k8 q8 k9 q9
        go_wp2
        go_meet
        exact ⟨k, p, g4, g5, rfl, rfl, rfl, rfl, rfl, ff⟩
      · obtain ⟨u2, eu2⟩ : ∃ u, u1.alloc (.cells (A8 (zeros 8 16)) 31) = u := ⟨_, rfl⟩
        obtain ⟨y4u2, du2, zu2⟩ := new1 _ _ _ _ eu2
        obtain ⟨g4, hg4⟩ : ∃ g, g = u1.heap.size := ⟨_, rfl⟩
        refine h_made (v := .pointer (some ⟨g4, 0, none⟩)) (w' := u2) rfl (by rw [← eu2, hg4]; go_simp) du2 ?_
        simp only [Act.put, List.setIfInBounds_toArray, List.set_cons_succ, List.set_cons_zero]
        rw [← hg4] at y4u2
        have Du2 := Du1.trans (du2.mono Du1.size)
        have G4 : W.heap.size ≤ g4 := by rw [hg4]; exact Du1.size
        have y5u2 := y5u1.belowAll du2
        have ne : g5 ≠ g4 := by have := y5u1.lt; omega
        clear eu2 zu2 hg4
        (with_reducible refine h_call ?_ ?_)
        · exact rfl
        go_simp
        refine entersW_of ?_
        refine (key13_any K u2 hK (T0.out.below Du2)).mono ?_
        rintro e u3 ⟨k, p, rfl, ku3, du3⟩
        refine ⟨_, rfl, du3, ?_⟩
        try simp only [Act.put, List.setIfInBounds_toArray, List.set_cons_succ, List.set_cons_zero]
        have Du3 := Du2.trans (du3.mono Du2.size)
        have y5u3 := y5u2.belowAll du3
        have y4u3 := y4u2.belowAll du3
        have BD : Below W.drew.heap.size W.drew u3 := ⟨Du3.os, Du3.tape, Du3.output, Du3.size, Du3.block⟩
        refine c_pure (v := ?_) (a' := ?_) (hCe _ BD) ?_ (fun _ => ?_) ?_ ?_
        rotate_left
        rotate_left
        · exact rfl
        · go_simp; exact rfl
        · (simp only [Act.put, List.setIfInBounds_toArray, List.set_cons_succ, List.set_cons_zero, Act.eval, Array.getD_eq_getD_getElem?, List.getElem?_toArray, List.getElem?_cons_succ, List.getElem?_cons_zero, Option.getD_some]; exact rfl)
        refine c_act ?_
        refine z_storeRow y4u3 rfl rfl (by rw [A8_size, A8_size, hP, zeros_length]) (A8_ones _) (by rw [A8_size, hP]; exact Tryd.sizeOf31 _) (fun w8 k8 q8 s8 => ?_)
        have BD8 := BD.trans (grown_below q8 G4 BD.size)
        refine z_nil ⟨hCe _ BD8, ?_⟩
        refine c_act ?_
        refine z_storeRow (y5u3.grown q8 (by intro e; cases e; exact (ne.symm).symm rfl)) rfl rfl (by rw [A8_size, A8_size, hQ, zeros_length]) (A8_ones _) (by rw [A8_size, hQ]; exact Tryd.sizeOf31 _) (fun w9 k9 q9 s9 => ?_)
        have BD9 := BD8.trans (grown_below q9 G5 BD8.size)
        refine z_nil ⟨hCe _ BD9, ?_⟩
        refine c_pure (v := ?_) (a' := ?_) (hCe _ BD9) ?_ (fun _ => ?_) ?_ ?_
        rotate_left
        rotate_left
        · exact rfl
        · go_simp; exact rfl
        · (simp only [Act.put, List.setIfInBounds_toArray, List.set_cons_succ, List.set_cons_zero, Act.eval, Array.getD_eq_getD_getElem?, List.getElem?_toArray, List.getElem?_cons_succ, List.getElem?_cons_zero, Option.getD_some]; exact rfl)
        refine c_pure (v := ?_) (a' := ?_) (hCe _ BD9) ?_ (fun _ => ?_) ?_ ?_
        rotate_left
        rotate_left
        · exact rfl
        · go_simp; exact rfl
        · (simp only [Act.put, List.setIfInBounds_toArray, List.set_cons_succ, List.set_cons_zero, Act.eval, Array.getD_eq_getD_getElem?, List.getElem?_toArray, List.getElem?_cons_succ, List.getElem?_cons_zero, Option.getD_some]; exact rfl)
        refine c_nil (hK' _ _ ?_)
        have ff := fin u3 k p g4 g5 ku3 y4u3 y5u3 ne.symm G4 G5 Du3 w8 w9 k8 q8 k9 q9
        go_wp2
        go_meet
        exact ⟨k, p, g4, g5, rfl, rfl, rfl, rfl, rfl, ff⟩
  case rest =>
    obtain ⟨k, p, g4, g5, rfl, rfl, rfl, rfl, rfl, k1, y4, y5, D⟩ := hcut
    have K1 := Lib.hid k1
    have Y4 := Lib.hid y4
    have Y5 := Lib.hid y5
    have T1 := Lib.hid (T0.out.below D)
    have B1 := Lib.hid (B0.out.trans (D.mono B0.out.size))
    have hLl := LK_length K hK
    obtain ⟨hm3, hm15⟩ := mK_bounds K
    obtain ⟨m, hm⟩ : ∃ m, m = mK K := ⟨_, rfl⟩
    obtain ⟨L, hL⟩ : ∃ L, L = LK K := ⟨_, rfl⟩
    rw [← hm] at hm3 hm15
    rw [← hm, ← hL] at K1 hLl
    have HLL := Lib.hid hLl
    have m3 : 3 ≤ m := by omega
    have m100 : m ≤ 100 := by omega
    clear k1 y4 y5 D D0 hm hL hLl hK T0 B0 X0 HH s0
    go_upto_region 2 with fail
    refine wp_region_tail [0,5,0,2,0,5,0,2,0,0,0,0,0,0,0,5,0,2,0,5,0,2,0,5,5,0,0,0,0,2,0,0] (by kernel_rfl) (by kernel_rfl) (fun C hC0 hCb K' hK' => ?_)
    have R1 : ∀ w1, C w1 → rowAt w1 g4 = A8 P := fun w1 h => (Y4.out.drew.belowAll (hCb w1 h)).row
    have R2 : ∀ w1, C w1 → rowAt w1 g5 = A8 Q := fun w1 h => (Y5.out.drew.belowAll (hCb w1 h)).row
    repeat
      first
        | ((with_reducible refine h_pure (v := ?_) (a' := ?_) ?_ (fun _ => ?_) ?_ ?_); rotate_left; rotate_left; (focus (exact rfl)); (focus (go_simp; (try go_bits); exact rfl)); (focus (simp only [Act.put, List.setIfInBounds_toArray, List.set_cons_succ, List.set_cons_zero, Act.eval, Array.getD_eq_getD_getElem?, List.getElem?_toArray, List.getElem?_cons_succ, List.getElem?_cons_zero, Option.getD_some]; exact rfl)))
        | ((with_reducible refine h_obl (v := ?_) (a' := ?_) ?_ (fun _ hcw => ?_) ?_ ?_); rotate_left; rotate_left; (focus (exact rfl)); (focus (have f := R1 _ hcw; have f' := R2 _ hcw; go_simp; (try go_bits); exact rfl)); (focus (simp only [Act.put, List.setIfInBounds_toArray, List.set_cons_succ, List.set_cons_zero, Act.eval, Array.getD_eq_getD_getElem?, List.getElem?_toArray, List.getElem?_cons_succ, List.getElem?_cons_zero, Option.getD_some]; exact rfl)))
        | ((with_reducible refine h_read (v := ?_) (a' := ?_) ?_ (fun _ hbw => ?_) ?_ ?_); rotate_left; rotate_left; (focus (exact rfl)); (focus (skip; go_simp; (try go_bits); exact rfl)); (focus (simp only [Act.put, List.setIfInBounds_toArray, List.set_cons_succ, List.set_cons_zero, Act.eval, Array.getD_eq_getD_getElem?, List.getElem?_toArray, List.getElem?_cons_succ, List.getElem?_cons_zero, Option.getD_some]; exact rfl)))
    (with_reducible refine h_call ?_ ?_)
    · exact rfl
    go_simp
    refine entersW_of ?_
    refine (xblock_any k p m L P i wc.drew K1.out.drew hP m3 m100).mono ?_
    rintro e w1 ⟨rfl, d1⟩
    refine ⟨_, rfl, d1, ?_⟩
    try simp only [Act.put, List.setIfInBounds_toArray, List.set_cons_succ, List.set_cons_zero]
    repeat
      first
        | ((with_reducible refine h_pure (v := ?_) (a' := ?_) ?_ (fun _ => ?_) ?_ ?_); rotate_left; rotate_left; (focus (exact rfl)); (focus (go_simp; (try go_bits); exact rfl)); (focus (simp only [Act.put, List.setIfInBounds_toArray, List.set_cons_succ, List.set_cons_zero, Act.eval, Array.getD_eq_getD_getElem?, List.getElem?_toArray, List.getElem?_cons_succ, List.getElem?_cons_zero, Option.getD_some]; exact rfl)))
        | ((with_reducible refine h_obl (v := ?_) (a' := ?_) ?_ (fun _ hcw => ?_) ?_ ?_); rotate_left; rotate_left; (focus (exact rfl)); (focus (have f := R1 _ hcw; have f' := R2 _ hcw; go_simp; (try go_bits); exact rfl)); (focus (simp only [Act.put, List.setIfInBounds_toArray, List.set_cons_succ, List.set_cons_zero, Act.eval, Array.getD_eq_getD_getElem?, List.getElem?_toArray, List.getElem?_cons_succ, List.getElem?_cons_zero, Option.getD_some]; exact rfl)))
        | ((with_reducible refine h_read (v := ?_) (a' := ?_) ?_ (fun _ hbw => ?_) ?_ ?_); rotate_left; rotate_left; (focus (exact rfl)); (focus (skip; go_simp; (try go_bits); exact rfl)); (focus (simp only [Act.put, List.setIfInBounds_toArray, List.set_cons_succ, List.set_cons_zero, Act.eval, Array.getD_eq_getD_getElem?, List.getElem?_toArray, List.getElem?_cons_succ, List.getElem?_cons_zero, Option.getD_some]; exact rfl)))
    (with_reducible refine h_call ?_ ?_)
    · exact rfl
    go_simp
    refine entersW_of ?_
    refine (xblock_any k p m L P j w1 (K1.out.drew.below d1) hP m3 m100).mono ?_
    rintro e w2 ⟨rfl, d2⟩
    refine ⟨_, rfl, d2, ?_⟩
    try simp only [Act.put, List.setIfInBounds_toArray, List.set_cons_succ, List.set_cons_zero]
    have e1 : decide (xblock L m P i = xblock L m P j) = (i == j) := by
      rw [Bool.eq_iff_iff, decide_eq_true_eq, beq_iff_eq]; exact ⟨fun h => xctS_number P i j ((enc_inj_aes L m _ _ (by simp [xctS_length, hP]) (by simp [xctS_length, hP]) HLL.out m3).1 h), fun h => by rw [h]⟩
    have e2 : decide (xblock L m P i = xblock L m Q i) = decide (P = Q) := decide_eq_decide.2 ⟨fun h => xctS_start P Q i hP hQ ((enc_inj_aes L m _ _ (by simp [xctS_length, hP]) (by simp [xctS_length, hQ]) HLL.out m3).1 h), fun h => by rw [h]⟩
    have hXl := xblock_length L m P i
    have hYl := xblock_length L m P j
    have hUl := xblock_length L m Q i
    obtain ⟨X, hX⟩ : ∃ X, X = xblock L m P i := ⟨_, rfl⟩
    obtain ⟨Y, hY⟩ : ∃ Y, Y = xblock L m P j := ⟨_, rfl⟩
    obtain ⟨U, hU⟩ : ∃ U, U = xblock L m Q i := ⟨_, rfl⟩
    rw [← hX, ← hY] at e1
    rw [← hX, ← hU] at e2
    rw [← hX] at hXl ⊢
    rw [← hY] at hYl ⊢
    rw [← hU] at hUl
    have HX := Lib.hid hX
    have HU := Lib.hid hU
    clear hX hY hU
    have D2 := d1.trans (d2.mono d1.size)
    repeat
      first
        | ((with_reducible refine h_pure (v := ?_) (a' := ?_) ?_ (fun _ => ?_) ?_ ?_); rotate_left; rotate_left; (focus (exact rfl)); (focus (go_simp; (try go_bits); exact rfl)); (focus (simp only [Act.put, List.setIfInBounds_toArray, List.set_cons_succ, List.set_cons_zero, Act.eval, Array.getD_eq_getD_getElem?, List.getElem?_toArray, List.getElem?_cons_succ, List.getElem?_cons_zero, Option.getD_some]; exact rfl)))
        | ((with_reducible refine h_obl (v := ?_) (a' := ?_) ?_ (fun _ hcw => ?_) ?_ ?_); rotate_left; rotate_left; (focus (exact rfl)); (focus (have f := R1 _ hcw; have f' := R2 _ hcw; go_simp; (try go_bits); exact rfl)); (focus (simp only [Act.put, List.setIfInBounds_toArray, List.set_cons_succ, List.set_cons_zero, Act.eval, Array.getD_eq_getD_getElem?, List.getElem?_toArray, List.getElem?_cons_succ, List.getElem?_cons_zero, Option.getD_some]; exact rfl)))
        | ((with_reducible refine h_read (v := ?_) (a' := ?_) ?_ (fun _ hbw => ?_) ?_ ?_); rotate_left; rotate_left; (focus (exact rfl)); (focus (skip; go_simp; (try go_bits); exact rfl)); (focus (simp only [Act.put, List.setIfInBounds_toArray, List.set_cons_succ, List.set_cons_zero, Act.eval, Array.getD_eq_getD_getElem?, List.getElem?_toArray, List.getElem?_cons_succ, List.getElem?_cons_zero, Option.getD_some]; exact rfl)))
    (with_reducible refine h_call ?_ ?_)
    · exact rfl
    go_simp
    refine entersW_of ?_
    refine (xblock_any k p m L P i w2 (K1.out.drew.below D2) hP m3 m100).mono ?_
    rintro e w3 ⟨rfl, d3⟩
    refine ⟨_, rfl, d3, ?_⟩
    try simp only [Act.put, List.setIfInBounds_toArray, List.set_cons_succ, List.set_cons_zero]
    rw [← HX.out]
    repeat
      first
        | ((with_reducible refine h_pure (v := ?_) (a' := ?_) ?_ (fun _ => ?_) ?_ ?_); rotate_left; rotate_left; (focus (exact rfl)); (focus (go_simp; (try go_bits); exact rfl)); (focus (simp only [Act.put, List.setIfInBounds_toArray, List.set_cons_succ, List.set_cons_zero, Act.eval, Array.getD_eq_getD_getElem?, List.getElem?_toArray, List.getElem?_cons_succ, List.getElem?_cons_zero, Option.getD_some]; exact rfl)))
        | ((with_reducible refine h_obl (v := ?_) (a' := ?_) ?_ (fun _ hcw => ?_) ?_ ?_); rotate_left; rotate_left; (focus (exact rfl)); (focus (have f := R1 _ hcw; have f' := R2 _ hcw; go_simp; (try go_bits); exact rfl)); (focus (simp only [Act.put, List.setIfInBounds_toArray, List.set_cons_succ, List.set_cons_zero, Act.eval, Array.getD_eq_getD_getElem?, List.getElem?_toArray, List.getElem?_cons_succ, List.getElem?_cons_zero, Option.getD_some]; exact rfl)))
        | ((with_reducible refine h_read (v := ?_) (a' := ?_) ?_ (fun _ hbw => ?_) ?_ ?_); rotate_left; rotate_left; (focus (exact rfl)); (focus (skip; go_simp; (try go_bits); exact rfl)); (focus (simp only [Act.put, List.setIfInBounds_toArray, List.set_cons_succ, List.set_cons_zero, Act.eval, Array.getD_eq_getD_getElem?, List.getElem?_toArray, List.getElem?_cons_succ, List.getElem?_cons_zero, Option.getD_some]; exact rfl)))
    have D3 := D2.trans (d3.mono D2.size)
    (with_reducible refine h_call ?_ ?_)
    · exact rfl
    go_simp
    refine entersW_of ?_
    refine (xblock_any k p m L Q i w3 (K1.out.drew.below D3) hQ m3 m100).mono ?_
    rintro e w4 ⟨rfl, d4⟩
    refine ⟨_, rfl, d4, ?_⟩
    try simp only [Act.put, List.setIfInBounds_toArray, List.set_cons_succ, List.set_cons_zero]
    rw [← HU.out]
    repeat
      first
        | ((with_reducible refine h_pure (v := ?_) (a' := ?_) ?_ (fun _ => ?_) ?_ ?_); rotate_left; rotate_left; (focus (exact rfl)); (focus (go_simp; (try go_bits); exact rfl)); (focus (simp only [Act.put, List.setIfInBounds_toArray, List.set_cons_succ, List.set_cons_zero, Act.eval, Array.getD_eq_getD_getElem?, List.getElem?_toArray, List.getElem?_cons_succ, List.getElem?_cons_zero, Option.getD_some]; exact rfl)))
        | ((with_reducible refine h_obl (v := ?_) (a' := ?_) ?_ (fun _ hcw => ?_) ?_ ?_); rotate_left; rotate_left; (focus (exact rfl)); (focus (have f := R1 _ hcw; have f' := R2 _ hcw; go_simp; (try go_bits); exact rfl)); (focus (simp only [Act.put, List.setIfInBounds_toArray, List.set_cons_succ, List.set_cons_zero, Act.eval, Array.getD_eq_getD_getElem?, List.getElem?_toArray, List.getElem?_cons_succ, List.getElem?_cons_zero, Option.getD_some]; exact rfl)))
        | ((with_reducible refine h_read (v := ?_) (a' := ?_) ?_ (fun _ hbw => ?_) ?_ ?_); rotate_left; rotate_left; (focus (exact rfl)); (focus (skip; go_simp; (try go_bits); exact rfl)); (focus (simp only [Act.put, List.setIfInBounds_toArray, List.set_cons_succ, List.set_cons_zero, Act.eval, Array.getD_eq_getD_getElem?, List.getElem?_toArray, List.getElem?_cons_succ, List.getElem?_cons_zero, Option.getD_some]; exact rfl)))
    have D4 := D3.trans (d4.mono D3.size)
    (with_reducible refine h_call ?_ ?_)
    · exact rfl
    go_simp
    refine entersW_of ?_
    refine (awake13_any w4 (T1.out.below (((Below.refl _ wc).drew).trans D4))).mono ?_
    rintro e w5 ⟨rfl, d5⟩
    refine ⟨_, rfl, d5, ?_⟩
    try simp only [Act.put, List.setIfInBounds_toArray, List.set_cons_succ, List.set_cons_zero]
    repeat
      first
        | ((with_reducible refine h_pure (v := ?_) (a' := ?_) ?_ (fun _ => ?_) ?_ ?_); rotate_left; rotate_left; (focus (exact rfl)); (focus (go_simp; (try go_bits); exact rfl)); (focus (simp only [Act.put, List.setIfInBounds_toArray, List.set_cons_succ, List.set_cons_zero, Act.eval, Array.getD_eq_getD_getElem?, List.getElem?_toArray, List.getElem?_cons_succ, List.getElem?_cons_zero, Option.getD_some]; exact rfl)))
        | ((with_reducible refine h_obl (v := ?_) (a' := ?_) ?_ (fun _ hcw => ?_) ?_ ?_); rotate_left; rotate_left; (focus (exact rfl)); (focus (skip; go_simp; (try go_bits); exact rfl)); (focus (simp only [Act.put, List.setIfInBounds_toArray, List.set_cons_succ, List.set_cons_zero, Act.eval, Array.getD_eq_getD_getElem?, List.getElem?_toArray, List.getElem?_cons_succ, List.getElem?_cons_zero, Option.getD_some]; exact rfl)))
        | ((with_reducible refine h_read (v := ?_) (a' := ?_) ?_ (fun _ hbw => ?_) ?_ ?_); rotate_left; rotate_left; (focus (exact rfl)); (focus (skip; go_simp; (try go_bits); exact rfl)); (focus (simp only [Act.put, List.setIfInBounds_toArray, List.set_cons_succ, List.set_cons_zero, Act.eval, Array.getD_eq_getD_getElem?, List.getElem?_toArray, List.getElem?_cons_succ, List.getElem?_cons_zero, Option.getD_some]; exact rfl)))
    refine h_tail [] rfl (by simp) (z_nil (hK' _ _ ?_))
    have D5 := D4.trans (d5.mono D4.size)
    have B5 := B1.out.drew.trans (D5.mono B1.out.size)
    clear R1 R2 hC0 hCb hK' d1 d2 d3 d4 d5 D2 D3 D4 D5
    go_wp2
    go_ret
    exact ⟨rfl, B5⟩
end Go.Proofs.YtepijmidafndaaaDoor
