/- chacha: any bytes with the stream: the walk -/
import Derived.Test.YthogbbigglmapaaTx
import Derived.Test.YthogbbigglmapaaRef10
import Derived.Test.YthogbbigglmapaaGrow
namespace Go.Proofs.Ythogbbigglmapaa
open Go.RowKit
set_option linter.unusedSimpArgs false in
set_option maxRecDepth 100000 in
set_option maxHeartbeats 800000 in
theorem crypt_no (key nonce : List (BitVec 8)) (r : Int) (a : Option Addr) (n c : Nat) (w : World) (hk : key.length = 32) (hn : nonce.length = 24) (h : ¬ (r = 8 ∨ r = 12 ∨ r = 20)) :
    Calls Try.prog 39 #[.agg (A8 key), .agg (A8 nonce), .int .i64 r, .slice a n c] w fun e w' => e = .returned (.tuple #[.slice none 0 0, .int .i64 3]) ∧ Below w.heap.size w w' := by
  go_enter Try.func39, Try.ntmps39
  go_wp2
  refine wp_scope_enter 0 (fun _ _ => False) (fun a' _ => sliceLen (a'.tmps.getD 3 undef)) rfl (fun hrest => ?_) (fun _ _ h => h.elim)
  go_wp2
  obtain ⟨W, hW⟩ : ∃ W, (w.alloc (.cells (A8 key) 35)).alloc (.cells (A8 nonce) 64) = W := ⟨_, rfl⟩
  obtain ⟨b0, b1, hb, hz⟩ := new2 _ _ _ _ _ _ hW
  rw [hW]
  refine wp_region_made [1,0,0,1,0,1,0,0,0,9] [2,0] [(9, .cells (A8 (zeros 8 32)) 35)] (by kernel_rfl) (by kernel_rfl) (by kernel_rfl) (by kernel_rfl) ?_ (fun C hC0 hCb hCn K' hK' => ?_)
  · intro p hp o ho
    simp only [List.mem_singleton] at hp
    subst hp
    simp at ho
    subst ho
    exact ⟨rfl, fun a w => by go_simp⟩
  have R0 : ∀ w1, C w1 → rowAt w1 w.heap.size = A8 key := fun w1 h => (b0.drew.belowAll (hCb w1 h)).row
  have R1 : ∀ w1, C w1 → rowAt w1 (w.heap.size + 1) = A8 nonce := fun w1 h => (b1.drew.belowAll (hCb w1 h)).row
  repeat
    first
      | (with_reducible refine y_made ?_)
      | ((with_reducible refine y_obl (v := ?_) (a' := ?_) ?_ (fun _ => ?_) ?_ ?_); rotate_left; rotate_left; (focus (exact rfl)); (focus (go_simp; (try go_bits); exact rfl)); (focus (simp only [Act.put, List.setIfInBounds_toArray, List.set_cons_succ, List.set_cons_zero, Act.eval, Array.getD_eq_getD_getElem?, List.getElem?_toArray, List.getElem?_cons_succ, List.getElem?_cons_zero, Option.getD_some]; exact rfl)))
      | ((with_reducible refine y_read (v := ?_) (a' := ?_) ?_ (fun _ hcw => ?_) ?_ ?_); rotate_left; rotate_left; (focus (exact rfl)); (focus (have f := R0 _ hcw; have f' := R1 _ hcw; go_simp; (try go_bits); exact rfl)); (focus (simp only [Act.put, List.setIfInBounds_toArray, List.set_cons_succ, List.set_cons_zero, Act.eval, Array.getD_eq_getD_getElem?, List.getElem?_toArray, List.getElem?_cons_succ, List.getElem?_cons_zero, Option.getD_some]; exact rfl)))
      | ((with_reducible refine y_skip (a' := ?_) ?_ ?_ ?_); rotate_left; (focus (exact rfl)); (focus (simp only [Act.put, List.setIfInBounds_toArray, List.set_cons_succ, List.set_cons_zero, Act.eval, Array.getD_eq_getD_getElem?, List.getElem?_toArray, List.getElem?_cons_succ, List.getElem?_cons_zero, Option.getD_some]; exact rfl)))
      | ((with_reducible refine y_skip1 (a' := ?_) ?_ ?_ ?_); rotate_left; (focus (exact rfl)); (focus (simp only [Act.put, List.setIfInBounds_toArray, List.set_cons_succ, List.set_cons_zero, Act.eval, Array.getD_eq_getD_getElem?, List.getElem?_toArray, List.getElem?_cons_succ, List.getElem?_cons_zero, Option.getD_some]; exact rfl)))
  ((with_reducible refine y_call (v := ?_) (a' := ?_) ?_ (fun wq hcw => ?_) ?_ ?_); rotate_left; rotate_left)
  · exact rfl
  · go_simp
    refine entersB_of ?_
    exact short_no key (nonce.take 16) r _ h
  · (simp only [Act.put, List.setIfInBounds_toArray, List.set_cons_succ, List.set_cons_zero, Act.eval, Array.getD_eq_getD_getElem?, List.getElem?_toArray, List.getElem?_cons_succ, List.getElem?_cons_zero, Option.getD_some]; exact rfl)
  repeat
    first
      | (with_reducible refine y_made ?_)
      | ((with_reducible refine y_obl (v := ?_) (a' := ?_) ?_ (fun _ => ?_) ?_ ?_); rotate_left; rotate_left; (focus (exact rfl)); (focus (go_simp; (try go_bits); exact rfl)); (focus (simp only [Act.put, List.setIfInBounds_toArray, List.set_cons_succ, List.set_cons_zero, Act.eval, Array.getD_eq_getD_getElem?, List.getElem?_toArray, List.getElem?_cons_succ, List.getElem?_cons_zero, Option.getD_some]; exact rfl)))
      | ((with_reducible refine y_read (v := ?_) (a' := ?_) ?_ (fun _ hcw => ?_) ?_ ?_); rotate_left; rotate_left; (focus (exact rfl)); (focus (have f := R0 _ hcw; have f' := R1 _ hcw; go_simp; (try go_bits); exact rfl)); (focus (simp only [Act.put, List.setIfInBounds_toArray, List.set_cons_succ, List.set_cons_zero, Act.eval, Array.getD_eq_getD_getElem?, List.getElem?_toArray, List.getElem?_cons_succ, List.getElem?_cons_zero, Option.getD_some]; exact rfl)))
      | ((with_reducible refine y_skip (a' := ?_) ?_ ?_ ?_); rotate_left; (focus (exact rfl)); (focus (simp only [Act.put, List.setIfInBounds_toArray, List.set_cons_succ, List.set_cons_zero, Act.eval, Array.getD_eq_getD_getElem?, List.getElem?_toArray, List.getElem?_cons_succ, List.getElem?_cons_zero, Option.getD_some]; exact rfl)))
      | ((with_reducible refine y_skip1 (a' := ?_) ?_ ?_ ?_); rotate_left; (focus (exact rfl)); (focus (simp only [Act.put, List.setIfInBounds_toArray, List.set_cons_succ, List.set_cons_zero, Act.eval, Array.getD_eq_getD_getElem?, List.getElem?_toArray, List.getElem?_cons_succ, List.getElem?_cons_zero, Option.getD_some]; exact rfl)))
  refine y_nil (fin_one fun g w1 hgW hcw hg => ?_)
  simp only [Act.put, List.setIfInBounds_toArray, List.set_cons_succ, List.set_cons_zero, List.getElem?_cons_succ, List.getElem?_cons_zero, Option.bind_some]
  have hg' : Blk w1 g 35 (A8 (zeros 8 32)) := hg
  refine z_storeRow hg' rfl rfl (by rw [A8_size]) (A8_ones _) (by rw [A8_size, zeros_length]; exact Try.sizeOf35 _) (fun w2 hb2 hg2 hs2 => ?_)
  repeat
    first
      | ((with_reducible refine z_move (a' := ?_) ?_ ?_); rotate_left; · (simp only [Act.put, List.setIfInBounds_toArray, List.set_cons_succ, List.set_cons_zero, Act.eval, Array.getD_eq_getD_getElem?, List.getElem?_toArray, List.getElem?_cons_succ, List.getElem?_cons_zero, Option.getD_some]; exact rfl))
      | ((with_reducible refine z_assign (a' := ?_) ?_ ?_); rotate_left; · (simp only [Act.put, List.setIfInBounds_toArray, List.set_cons_succ, List.set_cons_zero, Act.eval, Array.getD_eq_getD_getElem?, List.getElem?_toArray, List.getElem?_cons_succ, List.getElem?_cons_zero, Option.getD_some]; exact rfl))
      | ((with_reducible refine z_obl (v := ?_) (a' := ?_) rfl (fun _ => ?_) ?_ ?_); rotate_left; rotate_left; (focus (go_simp; (try go_bits); exact rfl)); (focus (simp only [Act.put, List.setIfInBounds_toArray, List.set_cons_succ, List.set_cons_zero, Act.eval, Array.getD_eq_getD_getElem?, List.getElem?_toArray, List.getElem?_cons_succ, List.getElem?_cons_zero, Option.getD_some]; exact rfl)))
      | ((with_reducible refine z_read (v := ?_) (a' := ?_) rfl ?_ ?_ ?_); rotate_left; rotate_left; (focus (go_simp; (try go_bits); exact rfl)); (focus (simp only [Act.put, List.setIfInBounds_toArray, List.set_cons_succ, List.set_cons_zero, Act.eval, Array.getD_eq_getD_getElem?, List.getElem?_toArray, List.getElem?_cons_succ, List.getElem?_cons_zero, Option.getD_some]; exact rfl)))
  refine z_nil (hK' _ _ ?_)
  have c1 := hCb w1 hcw
  have hB2 : Below w.heap.size w w2 := (hb.drew.trans (c1.mono (by simp; omega))).trans (grown_below hg2 (by omega) (by have := hb.size; have := c1.size; simp at this; omega))
  have B := Lib.hid hB2
  clear hC0 hCb hCn R0 R1 hg hg' hg2 hs2 c1 b0 b1 hcw hb hb2 hB2
  go_wp2
  simp only [Exit.jump]
  go_ret2
  exact ⟨rfl, B.out⟩
set_option linter.unusedSimpArgs false in
set_option maxRecDepth 100000 in
set_option maxHeartbeats 800000 in
theorem ChachaCrypts_walk (T : Array Value) (k n : List (BitVec 8)) (r : Int) (a : Option Addr) (len cap : Nat) (l : List (BitVec 8)) (w : World) (h : TextAt T k n r a len cap) (hl : Rd8 w a len cap l) :
    Calls Try.prog 16 #[.agg T] w fun e w' => e = .returned (.bool true) ∧ Below w.heap.size w w' := by
  obtain ⟨W, hW⟩ : ∃ W, (w.alloc (.cells T 66)) = W := ⟨_, rfl⟩
  obtain ⟨b0, hb, hz⟩ := new1 _ _ _ _ hW
  have r0 := b0.row
  have s0 := h.size
  have B0 := Lib.hid b0
  have B := Lib.hid hb
  have LL := Lib.hid hl
  have HH := Lib.hid h
  have x0 : T.extract 0 58 = T := by rw [← s0]; simp
  have c1 := b0.cell 56
  have c2 := b0.cell 57
  rw [h.rounds] at c1
  rw [h.b] at c2
  have t0 := h.key
  have t1 := h.nonce
  clear hb hz b0 h hl
  go_enter Try.func16, Try.ntmps16
  by_cases hlen : len ≤ 300
  · have hl3 : ¬ (300 : Int) < (len : Int) := by omega
    go_wp2_with fail
    by_cases hR : r = 8 ∨ r = 12 ∨ r = 20
    · refine (crypt_yes k n l r a len cap W HH.out.lk HH.out.ln hR (LL.out.below B.out) (by omega)).mono ?_
      rintro e w2 ⟨v2, rfl, ho2, hb2⟩
      obtain ⟨c, hc⟩ : ∃ c, c = cryptOf k n r.toNat l := ⟨_, rfl⟩
      rw [← hc] at ho2
      have hcl : c.length = len := by rw [hc, cryptOf, streamOf_length, LL.out.1]
      obtain ⟨a2, c2', rfl, hr2, _⟩ := ho2.rd
      rw [hcl] at hr2 ⊢
      have R2 := Lib.hid hr2
      have B2 := Lib.hid (B0.out.belowAll hb2)
      have C2 := Lib.hid (B.out.trans (hb2.mono B.out.size))
      have HC := Lib.hid hc
      clear hW r0 c1 c2 ho2 hr2 hb2 hc
      have r0 := B2.out.row
      have c1 := B2.out.cell 56
      have c2 := B2.out.cell 57
      rw [HH.out.rounds] at c1
      rw [HH.out.b] at c2
      go_wp2_with fail
      refine (right_any r _).mono ?_
      rintro e w3 ⟨rfl, rfl⟩
      rw [decide_eq_true hR]
      clear r0 c1 c2
      go_upto_region 6 with fail
      refine wp_region_grow [0,0,0,0,0,0,0,0,0,0,2,1,0,0,0,0,0,0,2,0,0] (by kernel_rfl) (by kernel_rfl) (fun C hC0 hCb K' hK' => ?_)
      have R1 : ∀ w1, C w1 → rowAt w1 w.heap.size = T := fun w1 h => (B2.out.drew.belowAll (hCb w1 h)).row
      have R3 : ∀ w1, C w1 → w1.cell? ⟨w.heap.size, 56, none⟩ = some (.int .i64 r) := fun w1 h => by
        have c1 := (B2.out.drew.belowAll (hCb w1 h)).cell 56
        rw [HH.out.rounds] at c1
        exact c1
      have R4 : ∀ w1, C w1 → w1.cell? ⟨w.heap.size, 57, none⟩ = some (.slice a len cap) := fun w1 h => by
        have c1 := (B2.out.drew.belowAll (hCb w1 h)).cell 57
        rw [HH.out.b] at c1
        exact c1
      have S1 : ∀ w1, C w1 → (convert 22 9 (.slice a2 len c2')).run Try.prog w1 = .ok (.string (str c)) w1 := fun w1 h =>
        run_str w1 _ _ 5 _ _ _ _ Try.underlying22 Try.underlying9 Try.underlying5 (R2.out.drew.below (hCb w1 h))
      repeat
        first
          | ((with_reducible refine g_obl (v := ?_) (a' := ?_) ?_ (fun _ hcw => ?_) ?_ ?_); rotate_left; rotate_left; (focus (exact rfl)); (focus (have f1 := R1 _ hcw; have f2 := R3 _ hcw; have f3 := R4 _ hcw; have f4 := S1 _ hcw; go_simp; (try go_bits); exact rfl)); (focus (simp only [Act.put, List.setIfInBounds_toArray, List.set_cons_succ, List.set_cons_zero, Act.eval, Array.getD_eq_getD_getElem?, List.getElem?_toArray, List.getElem?_cons_succ, List.getElem?_cons_zero, Option.getD_some]; exact rfl)))
          | ((with_reducible refine g_read (v := ?_) (a' := ?_) ?_ (fun _ hbw => ?_) ?_ ?_); rotate_left; rotate_left; (focus (exact rfl)); (focus (skip; go_simp; (try go_bits); exact rfl)); (focus (simp only [Act.put, List.setIfInBounds_toArray, List.set_cons_succ, List.set_cons_zero, Act.eval, Array.getD_eq_getD_getElem?, List.getElem?_toArray, List.getElem?_cons_succ, List.getElem?_cons_zero, Option.getD_some]; exact rfl)))
          | ((with_reducible refine g_skip (a' := ?_) ?_ ?_ ?_); rotate_left; (focus (exact rfl)); (focus (simp only [Act.put, List.setIfInBounds_toArray, List.set_cons_succ, List.set_cons_zero, Act.eval, Array.getD_eq_getD_getElem?, List.getElem?_toArray, List.getElem?_cons_succ, List.getElem?_cons_zero, Option.getD_some]; exact rfl)))
      (with_reducible refine g_call ?_ ?_)
      · exact rfl
      go_simp
      refine entersW_of ?_
      refine (refCrypt_any k n l r a len cap w2.drew HH.out.lk HH.out.ln (by omega) (by omega) (LL.out.below C2.out).drew (by omega)).mono ?_
      rintro e w7 ⟨v7, rfl, o7, b7⟩
      refine ⟨_, rfl, b7, ?_⟩
      try simp only [Act.put, List.setIfInBounds_toArray, List.set_cons_succ, List.set_cons_zero]
      rw [← HC.out] at o7
      obtain ⟨a7, c7, rfl, hr7, _⟩ := o7.rd
      rw [hcl] at hr7 ⊢
      have S2 : ∀ w1, Below w7.heap.size w7 w1 → (convert 22 9 (.slice a7 len c7)).run Try.prog w1 = .ok (.string (str c)) w1 := fun w1 h =>
        run_str w1 _ _ 5 _ _ _ _ Try.underlying22 Try.underlying9 Try.underlying5 (hr7.below h)
      repeat
        first
          | ((with_reducible refine g_obl (v := ?_) (a' := ?_) ?_ (fun _ hcw => ?_) ?_ ?_); rotate_left; rotate_left; (focus (exact rfl)); (focus (skip; go_simp; (try go_bits); exact rfl)); (focus (simp only [Act.put, List.setIfInBounds_toArray, List.set_cons_succ, List.set_cons_zero, Act.eval, Array.getD_eq_getD_getElem?, List.getElem?_toArray, List.getElem?_cons_succ, List.getElem?_cons_zero, Option.getD_some]; exact rfl)))
          | ((with_reducible refine g_read (v := ?_) (a' := ?_) ?_ (fun _ hbw => ?_) ?_ ?_); rotate_left; rotate_left; (focus (exact rfl)); (focus (have f4 := S2 _ hbw; go_simp; (try go_bits); exact rfl)); (focus (simp only [Act.put, List.setIfInBounds_toArray, List.set_cons_succ, List.set_cons_zero, Act.eval, Array.getD_eq_getD_getElem?, List.getElem?_toArray, List.getElem?_cons_succ, List.getElem?_cons_zero, Option.getD_some]; exact rfl)))
          | ((with_reducible refine g_skip (a' := ?_) ?_ ?_ ?_); rotate_left; (focus (exact rfl)); (focus (simp only [Act.put, List.setIfInBounds_toArray, List.set_cons_succ, List.set_cons_zero, Act.eval, Array.getD_eq_getD_getElem?, List.getElem?_toArray, List.getElem?_cons_succ, List.getElem?_cons_zero, Option.getD_some]; exact rfl)))
      (with_reducible refine g_call ?_ ?_)
      · exact rfl
      go_simp
      refine entersW_of ?_
      refine (awake_any w7).mono ?_
      rintro e w9 ⟨rfl, b9⟩
      refine ⟨_, rfl, b9, ?_⟩
      try simp only [Act.put, List.setIfInBounds_toArray, List.set_cons_succ, List.set_cons_zero]
      repeat
        first
          | ((with_reducible refine g_obl (v := ?_) (a' := ?_) ?_ (fun _ hcw => ?_) ?_ ?_); rotate_left; rotate_left; (focus (exact rfl)); (focus (skip; go_simp; (try go_bits); exact rfl)); (focus (simp only [Act.put, List.setIfInBounds_toArray, List.set_cons_succ, List.set_cons_zero, Act.eval, Array.getD_eq_getD_getElem?, List.getElem?_toArray, List.getElem?_cons_succ, List.getElem?_cons_zero, Option.getD_some]; exact rfl)))
          | ((with_reducible refine g_read (v := ?_) (a' := ?_) ?_ (fun _ hbw => ?_) ?_ ?_); rotate_left; rotate_left; (focus (exact rfl)); (focus (skip; go_simp; (try go_bits); exact rfl)); (focus (simp only [Act.put, List.setIfInBounds_toArray, List.set_cons_succ, List.set_cons_zero, Act.eval, Array.getD_eq_getD_getElem?, List.getElem?_toArray, List.getElem?_cons_succ, List.getElem?_cons_zero, Option.getD_some]; exact rfl)))
          | ((with_reducible refine g_skip (a' := ?_) ?_ ?_ ?_); rotate_left; (focus (exact rfl)); (focus (simp only [Act.put, List.setIfInBounds_toArray, List.set_cons_succ, List.set_cons_zero, Act.eval, Array.getD_eq_getD_getElem?, List.getElem?_toArray, List.getElem?_cons_succ, List.getElem?_cons_zero, Option.getD_some]; exact rfl)))
      refine g_nil ?_
      refine hK' _ _ ?_
      have hB5 := (C2.out.drew.trans (b7.mono C2.out.size)).trans (b9.mono (Nat.le_trans C2.out.size b7.size))
      clear R1 R3 R4 S1 S2 hC0 hCb o7 hr7 b7 b9
      go_wp2
      go_ret
      exact ⟨rfl, hB5⟩
    · refine (crypt_no k n r a len cap W HH.out.lk HH.out.ln hR).mono ?_
      rintro e w2 ⟨rfl, hb2⟩
      have B2 := Lib.hid (B0.out.belowAll hb2)
      have C2 := Lib.hid (B.out.trans (hb2.mono B.out.size))
      clear hW r0 c1 c2 hb2
      have r0 := B2.out.row
      have c1 := B2.out.cell 56
      have c2 := B2.out.cell 57
      rw [HH.out.rounds] at c1
      rw [HH.out.b] at c2
      go_wp2_with fail
      refine (right_any r _).mono ?_
      rintro e w3 ⟨rfl, rfl⟩
      rw [decide_eq_false hR]
      go_wp2_with fail
      refine (awake_any _).mono ?_
      rintro e w5 ⟨rfl, hb5⟩
      go_wp2
      go_ret
      exact ⟨rfl, C2.out.trans (hb5.mono C2.out.size)⟩
  · have hl3 : (300 : Int) < (len : Int) := by omega
    have B' := B.out
    go_wp2
    go_ret
    exact ⟨rfl, B'⟩
end Go.Proofs.Ythogbbigglmapaa
