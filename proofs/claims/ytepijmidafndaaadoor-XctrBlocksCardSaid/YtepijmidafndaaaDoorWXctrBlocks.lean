/- XctrBlocks: the walk -/
import Derived.Test.YtepijmidafndaaaDoorLaw13
import Derived.Test.YtepijmidafndaaaDoorEq
import Derived.Test.YtepijmidafndaaaDoorRx1
import Derived.Test.YtepijmidafndaaaDoorRx2
import Derived.Test.YtepijmidafndaaaDoorRg5
import Derived.Deep.CutRange
namespace Go.Proofs.YtepijmidafndaaaDoor
open Go.RowKit
set_option linter.unusedSimpArgs false in
set_option maxRecDepth 100000 in
set_option maxHeartbeats 3200000 in
theorem XctrBlocks_walk (K s : List (BitVec 8)) (y : BitVec 64) (w : World) (hK : K.length = 33) (hs : s.length = 16) (hT : Turning w) :
    Calls Tryd.prog 4 #[.agg (A8 K), .agg (A8 s), v64 y] w fun e w' => e = .returned (.bool true) ∧ Below w.heap.size w w' := by
  obtain ⟨W, hW⟩ : ∃ W, (w.alloc (.cells (A8 K) 43)).alloc (.cells (A8 s) 31) = W := ⟨_, rfl⟩
  obtain ⟨b0, b1, hb, hz⟩ := new2 _ _ _ _ _ _ hW
  have K0 := Lib.hid b0
  have P0 := Lib.hid b1
  have B0 := Lib.hid hb
  have T0 := Lib.hid (hT.below hb)
  clear b0 b1 hb hz hT
  obtain ⟨hm3', hm15⟩ := mK_bounds K
  obtain ⟨m, hm⟩ : ∃ m, m = keyN K / 4 + 7 := ⟨_, rfl⟩
  obtain ⟨L, hL⟩ : ∃ L, L = sch (keyN K / 4) (keyB K) (3 * (keyN K / 4) + 28) := ⟨_, rfl⟩
  have hm3 : 3 ≤ m := by omega
  have hm100 : m ≤ 100 := by have := keyN_or K; omega
  have HM := Lib.hid hm
  have HL := Lib.hid hL
  have hXBl := xblock_length L m s y
  clear hm3' hm15 hm hL
  go_enter Tryd.func4, Tryd.ntmps4
  go_wp2_with fail
  clear hW
  refine (refMake_any W).mono ?_
  rintro e w4 ⟨rfl, d4⟩
  obtain ⟨X, hX⟩ : ∃ X, X = boxesL := ⟨_, rfl⟩
  rw [← hX]
  have HXX := Lib.hid hX
  have BX : BoxL X boxT backT := by rw [hX]; exact boxL_all
  have hXl := BX.len
  have HBX := Lib.hid BX
  obtain ⟨W5, hW5⟩ : ∃ W5, w4.alloc (.cells (A8 X) 38) = W5 := ⟨_, rfl⟩
  obtain ⟨x5, d5, z5⟩ := new1 _ _ _ _ hW5
  have D5 := d4.trans (d5.mono d4.size)
  have X5 := Lib.hid x5
  have B5 := Lib.hid (B0.out.trans (D5.mono B0.out.size))
  have K5 := Lib.hid (K0.out.belowAll D5)
  have P5 := Lib.hid (P0.out.belowAll D5)
  have T5 := Lib.hid (T0.out.below D5)
  obtain ⟨px, hpx⟩ : ∃ px, px = w4.heap.size := ⟨_, rfl⟩
  clear hX BX d4 x5 d5 z5 D5 B0 K0 P0 T0
  go_upto_region 2 with fail
  rw [← hpx] at X5 ⊢
  clear hpx hW5
  go_cut [8] from 10 to 17 (fun s8 wx => ∃ g8 : Nat, s8 = .pointer (some ⟨g8, 0, none⟩) ∧ Blk wx g8 31 (A8 (xblock L m s y)) ∧ Below W5.heap.size W5 wx)
  case first =>
    refine wp_region_order [5,5,5,2,2,5,0,2,2,3] [0,1,2,5,6] [(3, 2, _), (4, 2, _), (7, 2, _), (8, 2, _)] (fun i => if i = 4 then [3] else if i = 7 then [3, 4] else []) [9] [_, _, _, _, _] [_] [5,5,5,5,0] [3] 4 rfl rfl rfl (by kernel_rfl) (by kernel_rfl) (by kernel_rfl) rfl rfl rfl (fun C hC0 hCb hCe K' hK' => ?_)
    have R0 : ∀ w1, C w1 → rowAt w1 w.heap.size = A8 K := fun w1 h => (K5.out.drew.belowAll (hCb w1 h)).row
    have R1 : ∀ w1, C w1 → rowAt w1 (w.heap.size + 1) = A8 s := fun w1 h => (P5.out.drew.belowAll (hCb w1 h)).row
    have R2 : ∀ w1, C w1 → rowAt w1 px = A8 X := fun w1 h => (X5.out.drew.belowAll (hCb w1 h)).row
    repeat
      first
        | ((with_reducible refine h_pure (v := ?_) (a' := ?_) ?_ (fun _ => ?_) ?_ ?_); rotate_left; rotate_left; (focus (exact rfl)); (focus (go_simp; (try go_bits); exact rfl)); (focus (simp only [Act.put, List.setIfInBounds_toArray, List.set_cons_succ, List.set_cons_zero, Act.eval, Array.getD_eq_getD_getElem?, List.getElem?_toArray, List.getElem?_cons_succ, List.getElem?_cons_zero, Option.getD_some]; exact rfl)))
        | ((with_reducible refine h_obl (v := ?_) (a' := ?_) ?_ (fun _ hcw => ?_) ?_ ?_); rotate_left; rotate_left; (focus (exact rfl)); (focus (have f := R0 _ hcw; have f1 := R1 _ hcw; have f2 := R2 _ hcw; go_simp; (try go_bits); exact rfl)); (focus (simp only [Act.put, List.setIfInBounds_toArray, List.set_cons_succ, List.set_cons_zero, Act.eval, Array.getD_eq_getD_getElem?, List.getElem?_toArray, List.getElem?_cons_succ, List.getElem?_cons_zero, Option.getD_some]; exact rfl)))
        | ((with_reducible refine h_read (v := ?_) (a' := ?_) ?_ (fun _ hbw => ?_) ?_ ?_); rotate_left; rotate_left; (focus (exact rfl)); (focus (skip; go_simp; (try go_bits); exact rfl)); (focus (simp only [Act.put, List.setIfInBounds_toArray, List.set_cons_succ, List.set_cons_zero, Act.eval, Array.getD_eq_getD_getElem?, List.getElem?_toArray, List.getElem?_cons_succ, List.getElem?_cons_zero, Option.getD_some]; exact rfl)))
    refine h_nil ?_
    clear R0 R1 R2 hC0 hCb
    have DW0 : Below W5.heap.size W5 W5.drew := (Below.refl W5.heap.size W5).drew
    refine perm_leaf3 (by decide) rfl rfl ?_ ?_
    · (with_reducible refine h_call ?_ ?_)
      · exact rfl
      go_simp
      refine entersW_of ?_
      refine (bytes13_any K W5.drew hK).mono ?_
      rintro e u1 ⟨vx, rfl, ox, du1⟩
      refine ⟨_, rfl, du1, ?_⟩
      try simp only [Act.put, List.setIfInBounds_toArray, List.set_cons_succ, List.set_cons_zero]
      obtain ⟨ax, cx, rfl, hxu1, _⟩ := ox.rd
      rw [keyB_length K hK] at hxu1 ⊢
      have Du1 := DW0.trans (du1.mono DW0.size)
      refine h_nil ⟨?_, ?_⟩
      · have hkk := refKeys_any (keyB K) ax (keyN K) cx u1 hxu1 (keyN_or K)
        rw [← HXX.out, ← HM.out, ← HL.out] at hkk
        (with_reducible refine h_call ?_ ?_)
        · exact rfl
        go_simp
        refine entersW_of ?_
        refine (hkk).mono ?_
        rintro e u2 ⟨vy, rfl, oy, du2⟩
        refine ⟨_, rfl, du2, ?_⟩
        try simp only [Act.put, List.setIfInBounds_toArray, List.set_cons_succ, List.set_cons_zero]
        obtain ⟨gy, cy, rfl, _, _, _, _⟩ := oy.form (by omega)
        have ryu2 := oy.rdAt
        clear hkk
        have Du2 := Du1.trans (du2.mono Du1.size)
        refine h_nil ⟨?_, ?_⟩
        · (with_reducible refine h_call ?_ ?_)
          · exact rfl
          go_simp
          refine entersW_of ?_
          refine (refXBlock_any X boxT backT L s gy cy m y u2 HBX.out ryu2 hs hm3 hm100).mono ?_
          rintro e u3 ⟨rfl, du3⟩
          refine ⟨_, rfl, du3, ?_⟩
          try simp only [Act.put, List.setIfInBounds_toArray, List.set_cons_succ, List.set_cons_zero]
          have Du3 := Du2.trans (du3.mono Du2.size)
          obtain ⟨u4, eu4⟩ : ∃ u, u3.alloc (.cells (A8 (zeros 8 16)) 31) = u := ⟨_, rfl⟩
          obtain ⟨yfu4, du4, zu4⟩ := new1 _ _ _ _ eu4
          obtain ⟨gf, hgf⟩ : ∃ g, g = u3.heap.size := ⟨_, rfl⟩
          refine h_made (v := .pointer (some ⟨gf, 0, none⟩)) (w' := u4) rfl (by rw [← eu4, hgf]; go_simp) du4 ?_
          simp only [Act.put, List.setIfInBounds_toArray, List.set_cons_succ, List.set_cons_zero]
          rw [← hgf] at yfu4
          have GF : W5.heap.size ≤ gf := by rw [hgf]; exact Du3.size
          clear eu4 zu4 hgf
          have Du4 := Du3.trans (du4.mono Du3.size)
          refine h_nil ?_
          refine c_act ?_
          have BD : Below W5.drew.heap.size W5.drew u4 := ⟨Du4.os, Du4.tape, Du4.output, Du4.size, Du4.block⟩
          refine z_storeRow (cs := A8 (xblock L m s y)) yfu4 rfl rfl (by rw [A8_size, A8_size, hXBl, zeros_length]) (A8_ones _) (by rw [A8_size, hXBl]; exact Tryd.sizeOf31 _) (fun w8 k8 q8 s8 => ?_)
          refine z_nil ⟨hCe _ (BD.trans (grown_below q8 GF BD.size)), ?_⟩
          refine c_nil (hK' _ _ ?_)
          go_wp2
          go_meet
          exact ⟨gf, rfl, k8, Du4.trans (grown_below q8 GF Du4.size)⟩
        · obtain ⟨u3, eu3⟩ : ∃ u, u2.alloc (.cells (A8 (zeros 8 16)) 31) = u := ⟨_, rfl⟩
          obtain ⟨yfu3, du3, zu3⟩ := new1 _ _ _ _ eu3
          obtain ⟨gf, hgf⟩ : ∃ g, g = u2.heap.size := ⟨_, rfl⟩
          refine h_made (v := .pointer (some ⟨gf, 0, none⟩)) (w' := u3) rfl (by rw [← eu3, hgf]; go_simp) du3 ?_
          simp only [Act.put, List.setIfInBounds_toArray, List.set_cons_succ, List.set_cons_zero]
          rw [← hgf] at yfu3
          have GF : W5.heap.size ≤ gf := by rw [hgf]; exact Du2.size
          clear eu3 zu3 hgf
          have Du3 := Du2.trans (du3.mono Du2.size)
          have ryu3 := ryu2.below du3
          (with_reducible refine h_call ?_ ?_)
          · exact rfl
          go_simp
          refine entersW_of ?_
          refine (refXBlock_any X boxT backT L s gy cy m y u3 HBX.out ryu3 hs hm3 hm100).mono ?_
          rintro e u4 ⟨rfl, du4⟩
          refine ⟨_, rfl, du4, ?_⟩
          try simp only [Act.put, List.setIfInBounds_toArray, List.set_cons_succ, List.set_cons_zero]
          have Du4 := Du3.trans (du4.mono Du3.size)
          have yfu4 := yfu3.belowAll du4
          refine h_nil ?_
          refine c_act ?_
          have BD : Below W5.drew.heap.size W5.drew u4 := ⟨Du4.os, Du4.tape, Du4.output, Du4.size, Du4.block⟩
          refine z_storeRow (cs := A8 (xblock L m s y)) yfu4 rfl rfl (by rw [A8_size, A8_size, hXBl, zeros_length]) (A8_ones _) (by rw [A8_size, hXBl]; exact Tryd.sizeOf31 _) (fun w8 k8 q8 s8 => ?_)
          refine z_nil ⟨hCe _ (BD.trans (grown_below q8 GF BD.size)), ?_⟩
          refine c_nil (hK' _ _ ?_)
          go_wp2
          go_meet
          exact ⟨gf, rfl, k8, Du4.trans (grown_below q8 GF Du4.size)⟩
      · obtain ⟨u2, eu2⟩ : ∃ u, u1.alloc (.cells (A8 (zeros 8 16)) 31) = u := ⟨_, rfl⟩
        obtain ⟨yfu2, du2, zu2⟩ := new1 _ _ _ _ eu2
        obtain ⟨gf, hgf⟩ : ∃ g, g = u1.heap.size := ⟨_, rfl⟩
        refine h_made (v := .pointer (some ⟨gf, 0, none⟩)) (w' := u2) rfl (by rw [← eu2, hgf]; go_simp) du2 ?_
        simp only [Act.put, List.setIfInBounds_toArray, List.set_cons_succ, List.set_cons_zero]
        rw [← hgf] at yfu2
        have GF : W5.heap.size ≤ gf := by rw [hgf]; exact Du1.size
        clear eu2 zu2 hgf
        have Du2 := Du1.trans (du2.mono Du1.size)
        have hxu2 := hxu1.below du2
        have hkk := refKeys_any (keyB K) ax (keyN K) cx u2 hxu2 (keyN_or K)
        rw [← HXX.out, ← HM.out, ← HL.out] at hkk
        (with_reducible refine h_call ?_ ?_)
        · exact rfl
        go_simp
        refine entersW_of ?_
        refine (hkk).mono ?_
        rintro e u3 ⟨vy, rfl, oy, du3⟩
        refine ⟨_, rfl, du3, ?_⟩
        try simp only [Act.put, List.setIfInBounds_toArray, List.set_cons_succ, List.set_cons_zero]
        obtain ⟨gy, cy, rfl, _, _, _, _⟩ := oy.form (by omega)
        have ryu3 := oy.rdAt
        clear hkk
        have Du3 := Du2.trans (du3.mono Du2.size)
        have yfu3 := yfu2.belowAll du3
        (with_reducible refine h_call ?_ ?_)
        · exact rfl
        go_simp
        refine entersW_of ?_
        refine (refXBlock_any X boxT backT L s gy cy m y u3 HBX.out ryu3 hs hm3 hm100).mono ?_
        rintro e u4 ⟨rfl, du4⟩
        refine ⟨_, rfl, du4, ?_⟩
        try simp only [Act.put, List.setIfInBounds_toArray, List.set_cons_succ, List.set_cons_zero]
        have Du4 := Du3.trans (du4.mono Du3.size)
        have yfu4 := yfu3.belowAll du4
        refine h_nil ?_
        refine c_act ?_
        have BD : Below W5.drew.heap.size W5.drew u4 := ⟨Du4.os, Du4.tape, Du4.output, Du4.size, Du4.block⟩
        refine z_storeRow (cs := A8 (xblock L m s y)) yfu4 rfl rfl (by rw [A8_size, A8_size, hXBl, zeros_length]) (A8_ones _) (by rw [A8_size, hXBl]; exact Tryd.sizeOf31 _) (fun w8 k8 q8 s8 => ?_)
        refine z_nil ⟨hCe _ (BD.trans (grown_below q8 GF BD.size)), ?_⟩
        refine c_nil (hK' _ _ ?_)
        go_wp2
        go_meet
        exact ⟨gf, rfl, k8, Du4.trans (grown_below q8 GF Du4.size)⟩
    · obtain ⟨u1, eu1⟩ : ∃ u, W5.drew.alloc (.cells (A8 (zeros 8 16)) 31) = u := ⟨_, rfl⟩
      obtain ⟨yfu1, du1, zu1⟩ := new1 _ _ _ _ eu1
      obtain ⟨gf, hgf⟩ : ∃ g, g = W5.drew.heap.size := ⟨_, rfl⟩
      refine h_made (v := .pointer (some ⟨gf, 0, none⟩)) (w' := u1) rfl (by rw [← eu1, hgf]; go_simp) du1 ?_
      simp only [Act.put, List.setIfInBounds_toArray, List.set_cons_succ, List.set_cons_zero]
      rw [← hgf] at yfu1
      have GF : W5.heap.size ≤ gf := by rw [hgf]; exact DW0.size
      clear eu1 zu1 hgf
      have Du1 := DW0.trans (du1.mono DW0.size)
      (with_reducible refine h_call ?_ ?_)
      · exact rfl
      go_simp
      refine entersW_of ?_
      refine (bytes13_any K u1 hK).mono ?_
      rintro e u2 ⟨vx, rfl, ox, du2⟩
      refine ⟨_, rfl, du2, ?_⟩
      try simp only [Act.put, List.setIfInBounds_toArray, List.set_cons_succ, List.set_cons_zero]
      obtain ⟨ax, cx, rfl, hxu2, _⟩ := ox.rd
      rw [keyB_length K hK] at hxu2 ⊢
      have Du2 := Du1.trans (du2.mono Du1.size)
      have yfu2 := yfu1.belowAll du2
      have hkk := refKeys_any (keyB K) ax (keyN K) cx u2 hxu2 (keyN_or K)
      rw [← HXX.out, ← HM.out, ← HL.out] at hkk
      (with_reducible refine h_call ?_ ?_)
      · exact rfl
      go_simp
      refine entersW_of ?_
      refine (hkk).mono ?_
      rintro e u3 ⟨vy, rfl, oy, du3⟩
      refine ⟨_, rfl, du3, ?_⟩
      try simp only [Act.put, List.setIfInBounds_toArray, List.set_cons_succ, List.set_cons_zero]
      obtain ⟨gy, cy, rfl, _, _, _, _⟩ := oy.form (by omega)
      have ryu3 := oy.rdAt
      clear hkk
      have Du3 := Du2.trans (du3.mono Du2.size)
      have yfu3 := yfu2.belowAll du3
      (with_reducible refine h_call ?_ ?_)
      · exact rfl
      go_simp
      refine entersW_of ?_
      refine (refXBlock_any X boxT backT L s gy cy m y u3 HBX.out ryu3 hs hm3 hm100).mono ?_
      rintro e u4 ⟨rfl, du4⟩
      refine ⟨_, rfl, du4, ?_⟩
      try simp only [Act.put, List.setIfInBounds_toArray, List.set_cons_succ, List.set_cons_zero]
      have Du4 := Du3.trans (du4.mono Du3.size)
      have yfu4 := yfu3.belowAll du4
      refine h_nil ?_
      refine c_act ?_
      have BD : Below W5.drew.heap.size W5.drew u4 := ⟨Du4.os, Du4.tape, Du4.output, Du4.size, Du4.block⟩
      refine z_storeRow (cs := A8 (xblock L m s y)) yfu4 rfl rfl (by rw [A8_size, A8_size, hXBl, zeros_length]) (A8_ones _) (by rw [A8_size, hXBl]; exact Tryd.sizeOf31 _) (fun w8 k8 q8 s8 => ?_)
      refine z_nil ⟨hCe _ (BD.trans (grown_below q8 GF BD.size)), ?_⟩
      refine c_nil (hK' _ _ ?_)
      go_wp2
      go_meet
      exact ⟨gf, rfl, k8, Du4.trans (grown_below q8 GF Du4.size)⟩
  case rest =>
    obtain ⟨g8, rfl, k8, D8⟩ := hcut
    have G8 := Lib.hid k8
    have B8 := Lib.hid (B5.out.trans (D8.mono B5.out.size))
    have K8 := Lib.hid (K5.out.belowAll D8)
    have P8 := Lib.hid (P5.out.belowAll D8)
    have T8 := Lib.hid (T5.out.below D8)
    clear k8 D8 B5 K5 P5 T5 X5
    obtain ⟨E, hE⟩ : ∃ E, E = xblock L m s y := ⟨_, rfl⟩
    rw [← hE] at hXBl G8
    have HE := Lib.hid hE
    clear hE
    go_upto_region 3 with fail
    refine wp_region_tail [5,2,5,0,2,5,0,0,5,0,2,0,0,0,0,2,0,0] (by kernel_rfl) (by kernel_rfl) (fun C hC0 hCb K' hK' => ?_)
    have R0 : ∀ w1, C w1 → rowAt w1 w.heap.size = A8 K := fun w1 h => (K8.out.drew.belowAll (hCb w1 h)).row
    have R1 : ∀ w1, C w1 → rowAt w1 (w.heap.size + 1) = A8 s := fun w1 h => (P8.out.drew.belowAll (hCb w1 h)).row
    have R2 : ∀ w1, C w1 → rowAt w1 g8 = A8 E := fun w1 h => (G8.out.drew.belowAll (hCb w1 h)).row
    repeat
      first
        | ((with_reducible refine h_pure (v := ?_) (a' := ?_) ?_ (fun _ => ?_) ?_ ?_); rotate_left; rotate_left; (focus (exact rfl)); (focus (go_simp; (try go_bits); exact rfl)); (focus (simp only [Act.put, List.setIfInBounds_toArray, List.set_cons_succ, List.set_cons_zero, Act.eval, Array.getD_eq_getD_getElem?, List.getElem?_toArray, List.getElem?_cons_succ, List.getElem?_cons_zero, Option.getD_some]; exact rfl)))
        | ((with_reducible refine h_obl (v := ?_) (a' := ?_) ?_ (fun _ hcw => ?_) ?_ ?_); rotate_left; rotate_left; (focus (exact rfl)); (focus (have f := R0 _ hcw; have f1 := R1 _ hcw; have f2 := R2 _ hcw; go_simp; (try go_bits); exact rfl)); (focus (simp only [Act.put, List.setIfInBounds_toArray, List.set_cons_succ, List.set_cons_zero, Act.eval, Array.getD_eq_getD_getElem?, List.getElem?_toArray, List.getElem?_cons_succ, List.getElem?_cons_zero, Option.getD_some]; exact rfl)))
        | ((with_reducible refine h_read (v := ?_) (a' := ?_) ?_ (fun _ hbw => ?_) ?_ ?_); rotate_left; rotate_left; (focus (exact rfl)); (focus (skip; go_simp; (try go_bits); exact rfl)); (focus (simp only [Act.put, List.setIfInBounds_toArray, List.set_cons_succ, List.set_cons_zero, Act.eval, Array.getD_eq_getD_getElem?, List.getElem?_toArray, List.getElem?_cons_succ, List.getElem?_cons_zero, Option.getD_some]; exact rfl)))
    (with_reducible refine h_call ?_ ?_)
    · exact rfl
    go_simp
    refine entersW_of ?_
    refine (key13_any K wc.drew hK (T8.out.below ((Below.refl _ wc).drew))).mono ?_
    rintro e w1 ⟨k, p, rfl, k1, d1⟩
    refine ⟨_, rfl, d1, ?_⟩
    try simp only [Act.put, List.setIfInBounds_toArray, List.set_cons_succ, List.set_cons_zero]
    rw [show mK K = m from HM.out.symm, show LK K = L from HL.out.symm] at k1
    repeat
      first
        | ((with_reducible refine h_pure (v := ?_) (a' := ?_) ?_ (fun _ => ?_) ?_ ?_); rotate_left; rotate_left; (focus (exact rfl)); (focus (go_simp; (try go_bits); exact rfl)); (focus (simp only [Act.put, List.setIfInBounds_toArray, List.set_cons_succ, List.set_cons_zero, Act.eval, Array.getD_eq_getD_getElem?, List.getElem?_toArray, List.getElem?_cons_succ, List.getElem?_cons_zero, Option.getD_some]; exact rfl)))
        | ((with_reducible refine h_obl (v := ?_) (a' := ?_) ?_ (fun _ hcw => ?_) ?_ ?_); rotate_left; rotate_left; (focus (exact rfl)); (focus (have f := R0 _ hcw; have f1 := R1 _ hcw; have f2 := R2 _ hcw; go_simp; (try go_bits); exact rfl)); (focus (simp only [Act.put, List.setIfInBounds_toArray, List.set_cons_succ, List.set_cons_zero, Act.eval, Array.getD_eq_getD_getElem?, List.getElem?_toArray, List.getElem?_cons_succ, List.getElem?_cons_zero, Option.getD_some]; exact rfl)))
        | ((with_reducible refine h_read (v := ?_) (a' := ?_) ?_ (fun _ hbw => ?_) ?_ ?_); rotate_left; rotate_left; (focus (exact rfl)); (focus (skip; go_simp; (try go_bits); exact rfl)); (focus (simp only [Act.put, List.setIfInBounds_toArray, List.set_cons_succ, List.set_cons_zero, Act.eval, Array.getD_eq_getD_getElem?, List.getElem?_toArray, List.getElem?_cons_succ, List.getElem?_cons_zero, Option.getD_some]; exact rfl)))
    (with_reducible refine h_call ?_ ?_)
    · exact rfl
    go_simp
    refine entersW_of ?_
    refine (xblock_any k p m L s y w1 k1 hs hm3 hm100).mono ?_
    rintro e w2 ⟨rfl, d2⟩
    refine ⟨_, rfl, d2, ?_⟩
    try simp only [Act.put, List.setIfInBounds_toArray, List.set_cons_succ, List.set_cons_zero]
    rw [← HE.out]
    repeat
      first
        | ((with_reducible refine h_pure (v := ?_) (a' := ?_) ?_ (fun _ => ?_) ?_ ?_); rotate_left; rotate_left; (focus (exact rfl)); (focus (go_simp; (try go_bits); exact rfl)); (focus (simp only [Act.put, List.setIfInBounds_toArray, List.set_cons_succ, List.set_cons_zero, Act.eval, Array.getD_eq_getD_getElem?, List.getElem?_toArray, List.getElem?_cons_succ, List.getElem?_cons_zero, Option.getD_some]; exact rfl)))
        | ((with_reducible refine h_obl (v := ?_) (a' := ?_) ?_ (fun _ hcw => ?_) ?_ ?_); rotate_left; rotate_left; (focus (exact rfl)); (focus (have f := R0 _ hcw; have f1 := R1 _ hcw; have f2 := R2 _ hcw; go_simp; (try go_bits); exact rfl)); (focus (simp only [Act.put, List.setIfInBounds_toArray, List.set_cons_succ, List.set_cons_zero, Act.eval, Array.getD_eq_getD_getElem?, List.getElem?_toArray, List.getElem?_cons_succ, List.getElem?_cons_zero, Option.getD_some]; exact rfl)))
        | ((with_reducible refine h_read (v := ?_) (a' := ?_) ?_ (fun _ hbw => ?_) ?_ ?_); rotate_left; rotate_left; (focus (exact rfl)); (focus (skip; go_simp; (try go_bits); exact rfl)); (focus (simp only [Act.put, List.setIfInBounds_toArray, List.set_cons_succ, List.set_cons_zero, Act.eval, Array.getD_eq_getD_getElem?, List.getElem?_toArray, List.getElem?_cons_succ, List.getElem?_cons_zero, Option.getD_some]; exact rfl)))
    (with_reducible refine h_call ?_ ?_)
    · exact rfl
    go_simp
    refine entersW_of ?_
    refine (xblock_nil s y w2 hs).mono ?_
    rintro e w3 ⟨rfl, d3⟩
    refine ⟨_, rfl, d3, ?_⟩
    try simp only [Act.put, List.setIfInBounds_toArray, List.set_cons_succ, List.set_cons_zero]
    repeat
      first
        | ((with_reducible refine h_pure (v := ?_) (a' := ?_) ?_ (fun _ => ?_) ?_ ?_); rotate_left; rotate_left; (focus (exact rfl)); (focus (go_simp; (try go_bits); exact rfl)); (focus (simp only [Act.put, List.setIfInBounds_toArray, List.set_cons_succ, List.set_cons_zero, Act.eval, Array.getD_eq_getD_getElem?, List.getElem?_toArray, List.getElem?_cons_succ, List.getElem?_cons_zero, Option.getD_some]; exact rfl)))
        | ((with_reducible refine h_obl (v := ?_) (a' := ?_) ?_ (fun _ hcw => ?_) ?_ ?_); rotate_left; rotate_left; (focus (exact rfl)); (focus (have f := R0 _ hcw; have f1 := R1 _ hcw; have f2 := R2 _ hcw; go_simp; (try go_bits); exact rfl)); (focus (simp only [Act.put, List.setIfInBounds_toArray, List.set_cons_succ, List.set_cons_zero, Act.eval, Array.getD_eq_getD_getElem?, List.getElem?_toArray, List.getElem?_cons_succ, List.getElem?_cons_zero, Option.getD_some]; exact rfl)))
        | ((with_reducible refine h_read (v := ?_) (a' := ?_) ?_ (fun _ hbw => ?_) ?_ ?_); rotate_left; rotate_left; (focus (exact rfl)); (focus (skip; go_simp; (try go_bits); exact rfl)); (focus (simp only [Act.put, List.setIfInBounds_toArray, List.set_cons_succ, List.set_cons_zero, Act.eval, Array.getD_eq_getD_getElem?, List.getElem?_toArray, List.getElem?_cons_succ, List.getElem?_cons_zero, Option.getD_some]; exact rfl)))
    have D2 := d1.trans (d2.mono d1.size)
    have D3 := D2.trans (d3.mono D2.size)
    (with_reducible refine h_call ?_ ?_)
    · exact rfl
    go_simp
    refine entersW_of ?_
    refine (awake13_any w3 (T8.out.below (((Below.refl _ wc).drew).trans D3))).mono ?_
    rintro e w4 ⟨rfl, d4⟩
    refine ⟨_, rfl, d4, ?_⟩
    try simp only [Act.put, List.setIfInBounds_toArray, List.set_cons_succ, List.set_cons_zero]
    repeat
      first
        | ((with_reducible refine h_pure (v := ?_) (a' := ?_) ?_ (fun _ => ?_) ?_ ?_); rotate_left; rotate_left; (focus (exact rfl)); (focus (go_simp; (try go_bits); exact rfl)); (focus (simp only [Act.put, List.setIfInBounds_toArray, List.set_cons_succ, List.set_cons_zero, Act.eval, Array.getD_eq_getD_getElem?, List.getElem?_toArray, List.getElem?_cons_succ, List.getElem?_cons_zero, Option.getD_some]; exact rfl)))
        | ((with_reducible refine h_obl (v := ?_) (a' := ?_) ?_ (fun _ hcw => ?_) ?_ ?_); rotate_left; rotate_left; (focus (exact rfl)); (focus (skip; go_simp; (try go_bits); exact rfl)); (focus (simp only [Act.put, List.setIfInBounds_toArray, List.set_cons_succ, List.set_cons_zero, Act.eval, Array.getD_eq_getD_getElem?, List.getElem?_toArray, List.getElem?_cons_succ, List.getElem?_cons_zero, Option.getD_some]; exact rfl)))
        | ((with_reducible refine h_read (v := ?_) (a' := ?_) ?_ (fun _ hbw => ?_) ?_ ?_); rotate_left; rotate_left; (focus (exact rfl)); (focus (skip; go_simp; (try go_bits); exact rfl)); (focus (simp only [Act.put, List.setIfInBounds_toArray, List.set_cons_succ, List.set_cons_zero, Act.eval, Array.getD_eq_getD_getElem?, List.getElem?_toArray, List.getElem?_cons_succ, List.getElem?_cons_zero, Option.getD_some]; exact rfl)))
    refine h_tail [] rfl (by simp) (z_nil (hK' _ _ ?_))
    have D4 := D3.trans (d4.mono D3.size)
    have B9 := B8.out.drew.trans (D4.mono B8.out.size)
    clear R0 R1 R2 hC0 hCb hK' d1 d2 d3 d4 D2 D3 D4 k1
    go_wp2
    go_ret
    exact ⟨rfl, B9⟩
end Go.Proofs.YtepijmidafndaaaDoor
