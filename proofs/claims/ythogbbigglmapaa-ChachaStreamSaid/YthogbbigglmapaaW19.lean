/- chacha: the stream is numbered blocks: the walk -/
import Derived.Test.YthogbbigglmapaaW17
import Derived.Test.YthogbbigglmapaaApp
import Derived.Test.YthogbbigglmapaaText2
import Derived.Test.YthogbbigglmapaaStill2
namespace Go.Proofs.Ythogbbigglmapaa
open Go.RowKit
theorem TextAt.rd {w : World} {b : Nat} {T : Array Value} {k n : List (BitVec 8)} {r : Int} {a : Option Addr} {len cap : Nat} (h : TextAt T k n r a len cap) (hb : Blk w b 66 T) (i j : Nat) (hj : i + j ≤ 24) :
    Rd8 w (some ⟨b, 32 + i, none⟩) j (24 - i) ((n.drop i).take j) := by
  refine ⟨by simp [h.ln]; omega, by omega, by unfold maxLen; omega, fun _ => ⟨b, 32 + i, rfl, hb.lt, fun q hq => ?_⟩⟩
  rw [hb.cell, nth_take _ _ _ hq, nth_drop]
  have e := congrArg (fun A : Array Value => A[i + q]?) h.nonce
  change (T.extract 32 56)[i + q]? = (A8 n)[i + q]? at e
  rw [A8_get n (i + q) (by rw [h.ln]; omega), Array.getElem?_extract] at e
  rw [if_pos (by have := h.size; omega)] at e
  rw [← e]
  congr 1
  omega
theorem blk_self (l : List (BitVec 8)) (h : l.length = 16) : blk l = l := by
  unfold blk
  rw [List.take_of_length_le (by omega), splc_full _ _ (by simp [h])]
set_option linter.unusedSimpArgs false in
set_option maxRecDepth 100000 in
set_option maxHeartbeats 1600000 in
theorem ChachaStream_walk (T : Array Value) (k n : List (BitVec 8)) (r : Int) (a : Option Addr) (len cap : Nat) (l : List (BitVec 8)) (w : World) (h : TextAt T k n r a len cap) (hl : Rd8 w a len cap l) :
    Calls Try.prog 19 #[.agg T] w fun e w' => e = .returned (.bool true) ∧ Below w.heap.size w w' := by
  obtain ⟨W, hW⟩ : ∃ W, (w.alloc (.cells T 66)) = W := ⟨_, rfl⟩
  obtain ⟨b0, hb, hz⟩ := new1 _ _ _ _ hW
  have r0 := b0.row
  have s0 := h.size
  have B0 := Lib.hid b0
  have B := Lib.hid hb
  have LL := Lib.hid hl
  have HH := Lib.hid h
  have x0 : T.extract 0 58 = T := by rw [← s0]; simp
  clear hb hz b0 h hl
  go_enter Try.func19, Try.ntmps19
  go_wp2_with fail
  refine (text_right W HH.out).mono ?_
  rintro e w1 ⟨rfl, hb1⟩
  clear hW r0
  have B1 := Lib.hid (B0.out.belowAll hb1)
  have C1 := Lib.hid (B.out.trans (hb1.mono B.out.size))
  have z1 := C1.out.size
  clear B0 B hb1
  by_cases hR : len ≤ 300 ∧ (r = 8 ∨ r = 12 ∨ r = 20)
  · rw [decide_eq_true hR]
    have r0 := B1.out.row
    have t0 := HH.out.key
    have t1 := HH.out.nonce
    have c1 := B1.out.cell 56
    have c2 := B1.out.cell 57
    rw [HH.out.rounds] at c1
    rw [HH.out.b] at c2
    have len2 : len ≤ 140737488355328 := by omega
    go_wp2_with fail
    refine (crypt_yes k n l r a len cap w1 HH.out.lk HH.out.ln hR.2 (LL.out.below C1.out) len2).mono ?_
    rintro e w2 ⟨v2, rfl, ho2, hb2⟩
    obtain ⟨c, hc⟩ : ∃ c, c = cryptOf k n r.toNat l := ⟨_, rfl⟩
    rw [← hc] at ho2
    have hcl : c.length = len := by rw [hc, cryptOf_length, LL.out.1]
    obtain ⟨a2, c2', rfl, hr2, _⟩ := ho2.rd
    rw [hcl] at hr2 ⊢
    have R2 := Lib.hid hr2
    have B2 := Lib.hid (B1.out.belowAll hb2)
    have C2 := Lib.hid (C1.out.trans (hb2.mono C1.out.size))
    have HC := Lib.hid hc
    clear r0 c1 c2 ho2 hr2 hb2 hc z1
    go_upto_region 4 with fail
    refine wp_region_made [0,1,0,0,1,0,1,1,0,0,0,9] [2,0] [(11, .cells (A8 (zeros 8 32)) 35)] (by kernel_rfl) (by kernel_rfl) (by kernel_rfl) (by kernel_rfl) ?_ (fun C hC0 hCb hCn K' hK' => ?_)
    · intro p hp o ho
      simp only [List.mem_singleton] at hp
      subst hp
      simp at ho
      subst ho
      exact ⟨rfl, fun a w => by go_simp⟩
    have RB : ∀ w1, C w1 → rowAt w1 w.heap.size = T := fun w1 h => (B2.out.drew.belowAll (hCb w1 h)).row
    have R56 : ∀ w1, C w1 → w1.cell? ⟨w.heap.size, 56, none⟩ = some (.int .i64 r) := fun w1 h => by rw [(B2.out.drew.belowAll (hCb w1 h)).cell, HH.out.rounds]
    have RN : ∀ w1, C w1 → Rd8 w1 (some ⟨w.heap.size, 32, none⟩) 16 24 ((n.drop 0).take 16) := fun w1 h => HH.out.rd (B2.out.drew.belowAll (hCb w1 h)) 0 16 (by omega)
    repeat
      first
        | (with_reducible refine y_made ?_)
        | ((with_reducible refine y_obl (v := ?_) (a' := ?_) ?_ (fun _ => ?_) ?_ ?_); rotate_left; rotate_left; (focus (exact rfl)); (focus (go_simp; (try go_bits); exact rfl)); (focus (simp only [Act.put, List.setIfInBounds_toArray, List.set_cons_succ, List.set_cons_zero, Act.eval, Array.getD_eq_getD_getElem?, List.getElem?_toArray, List.getElem?_cons_succ, List.getElem?_cons_zero, Option.getD_some]; exact rfl)))
        | ((with_reducible refine y_read (v := ?_) (a' := ?_) ?_ (fun _ hcw => ?_) ?_ ?_); rotate_left; rotate_left; (focus (exact rfl)); (focus (have f := RB _ hcw; have f' := R56 _ hcw; go_simp; (try go_bits); exact rfl)); (focus (simp only [Act.put, List.setIfInBounds_toArray, List.set_cons_succ, List.set_cons_zero, Act.eval, Array.getD_eq_getD_getElem?, List.getElem?_toArray, List.getElem?_cons_succ, List.getElem?_cons_zero, Option.getD_some]; exact rfl)))
        | ((with_reducible refine y_skip (a' := ?_) ?_ ?_ ?_); rotate_left; (focus (exact rfl)); (focus (simp only [Act.put, List.setIfInBounds_toArray, List.set_cons_succ, List.set_cons_zero, Act.eval, Array.getD_eq_getD_getElem?, List.getElem?_toArray, List.getElem?_cons_succ, List.getElem?_cons_zero, Option.getD_some]; exact rfl)))
        | ((with_reducible refine y_skip1 (a' := ?_) ?_ ?_ ?_); rotate_left; (focus (exact rfl)); (focus (simp only [Act.put, List.setIfInBounds_toArray, List.set_cons_succ, List.set_cons_zero, Act.eval, Array.getD_eq_getD_getElem?, List.getElem?_toArray, List.getElem?_cons_succ, List.getElem?_cons_zero, Option.getD_some]; exact rfl)))
    ((with_reducible refine y_call (v := ?_) (a' := ?_) ?_ (fun wq hcw => ?_) ?_ ?_); rotate_left; rotate_left)
    · exact rfl
    · go_simp
      refine entersB_of ?_
      exact block_any ((n.drop 0).take 16) _ 16 24 wq (RN _ hcw)
    · (simp only [Act.put, List.setIfInBounds_toArray, List.set_cons_succ, List.set_cons_zero, Act.eval, Array.getD_eq_getD_getElem?, List.getElem?_toArray, List.getElem?_cons_succ, List.getElem?_cons_zero, Option.getD_some]; exact rfl)
    rw [List.drop_zero, blk_self _ (by simp [HH.out.ln])]
    repeat
      first
        | (with_reducible refine y_made ?_)
        | ((with_reducible refine y_obl (v := ?_) (a' := ?_) ?_ (fun _ => ?_) ?_ ?_); rotate_left; rotate_left; (focus (exact rfl)); (focus (go_simp; (try go_bits); exact rfl)); (focus (simp only [Act.put, List.setIfInBounds_toArray, List.set_cons_succ, List.set_cons_zero, Act.eval, Array.getD_eq_getD_getElem?, List.getElem?_toArray, List.getElem?_cons_succ, List.getElem?_cons_zero, Option.getD_some]; exact rfl)))
        | ((with_reducible refine y_read (v := ?_) (a' := ?_) ?_ (fun _ hcw => ?_) ?_ ?_); rotate_left; rotate_left; (focus (exact rfl)); (focus (have f := RB _ hcw; have f' := R56 _ hcw; go_simp; (try go_bits); exact rfl)); (focus (simp only [Act.put, List.setIfInBounds_toArray, List.set_cons_succ, List.set_cons_zero, Act.eval, Array.getD_eq_getD_getElem?, List.getElem?_toArray, List.getElem?_cons_succ, List.getElem?_cons_zero, Option.getD_some]; exact rfl)))
        | ((with_reducible refine y_skip (a' := ?_) ?_ ?_ ?_); rotate_left; (focus (exact rfl)); (focus (simp only [Act.put, List.setIfInBounds_toArray, List.set_cons_succ, List.set_cons_zero, Act.eval, Array.getD_eq_getD_getElem?, List.getElem?_toArray, List.getElem?_cons_succ, List.getElem?_cons_zero, Option.getD_some]; exact rfl)))
        | ((with_reducible refine y_skip1 (a' := ?_) ?_ ?_ ?_); rotate_left; (focus (exact rfl)); (focus (simp only [Act.put, List.setIfInBounds_toArray, List.set_cons_succ, List.set_cons_zero, Act.eval, Array.getD_eq_getD_getElem?, List.getElem?_toArray, List.getElem?_cons_succ, List.getElem?_cons_zero, Option.getD_some]; exact rfl)))
    ((with_reducible refine y_call (v := ?_) (a' := ?_) ?_ (fun wq hcw => ?_) ?_ ?_); rotate_left; rotate_left)
    · exact rfl
    · go_simp
      refine entersB_of ?_
      exact short_yes k (n.take 16) r _ HH.out.lk (by simp [HH.out.ln]) hR.2
    · (simp only [Act.put, List.setIfInBounds_toArray, List.set_cons_succ, List.set_cons_zero, Act.eval, Array.getD_eq_getD_getElem?, List.getElem?_toArray, List.getElem?_cons_succ, List.getElem?_cons_zero, Option.getD_some]; exact rfl)
    repeat
      first
        | (with_reducible refine y_made ?_)
        | ((with_reducible refine y_obl (v := ?_) (a' := ?_) ?_ (fun _ => ?_) ?_ ?_); rotate_left; rotate_left; (focus (exact rfl)); (focus (go_simp; (try go_bits); exact rfl)); (focus (simp only [Act.put, List.setIfInBounds_toArray, List.set_cons_succ, List.set_cons_zero, Act.eval, Array.getD_eq_getD_getElem?, List.getElem?_toArray, List.getElem?_cons_succ, List.getElem?_cons_zero, Option.getD_some]; exact rfl)))
        | ((with_reducible refine y_read (v := ?_) (a' := ?_) ?_ (fun _ hcw => ?_) ?_ ?_); rotate_left; rotate_left; (focus (exact rfl)); (focus (have f := RB _ hcw; have f' := R56 _ hcw; go_simp; (try go_bits); exact rfl)); (focus (simp only [Act.put, List.setIfInBounds_toArray, List.set_cons_succ, List.set_cons_zero, Act.eval, Array.getD_eq_getD_getElem?, List.getElem?_toArray, List.getElem?_cons_succ, List.getElem?_cons_zero, Option.getD_some]; exact rfl)))
        | ((with_reducible refine y_skip (a' := ?_) ?_ ?_ ?_); rotate_left; (focus (exact rfl)); (focus (simp only [Act.put, List.setIfInBounds_toArray, List.set_cons_succ, List.set_cons_zero, Act.eval, Array.getD_eq_getD_getElem?, List.getElem?_toArray, List.getElem?_cons_succ, List.getElem?_cons_zero, Option.getD_some]; exact rfl)))
        | ((with_reducible refine y_skip1 (a' := ?_) ?_ ?_ ?_); rotate_left; (focus (exact rfl)); (focus (simp only [Act.put, List.setIfInBounds_toArray, List.set_cons_succ, List.set_cons_zero, Act.eval, Array.getD_eq_getD_getElem?, List.getElem?_toArray, List.getElem?_cons_succ, List.getElem?_cons_zero, Option.getD_some]; exact rfl)))
    refine y_nil (fin_one fun g w3 hgW hcw hg => ?_)
    simp only [Act.put, List.setIfInBounds_toArray, List.set_cons_succ, List.set_cons_zero, List.getElem?_cons_succ, List.getElem?_cons_zero, Option.bind_some]
    have hg' : Blk w3 g 35 (A8 (zeros 8 32)) := hg
    obtain ⟨own, hown⟩ : ∃ own, own = ownOf k n (r.toNat / 2) := ⟨_, rfl⟩
    have hol : own.length = 32 := by rw [hown]; exact shortOf_length _ (by rw [mixTo_length, startTo_length])
    rw [show shortOf (mixTo (startTo k (List.take 16 n) 4) (r.toNat / 2)) = own from hown.symm]
    refine z_storeRow hg' rfl rfl (by rw [A8_size, A8_size, hol, zeros_length]) (A8_ones _) (by rw [A8_size, hol]; exact Try.sizeOf35 _) (fun w4 hb4 hg4 hs4 => ?_)
    repeat
      first
        | ((with_reducible refine z_move (a' := ?_) ?_ ?_); rotate_left; · (simp only [Act.put, List.setIfInBounds_toArray, List.set_cons_succ, List.set_cons_zero, Act.eval, Array.getD_eq_getD_getElem?, List.getElem?_toArray, List.getElem?_cons_succ, List.getElem?_cons_zero, Option.getD_some]; exact rfl))
        | ((with_reducible refine z_assign (a' := ?_) ?_ ?_); rotate_left; · (simp only [Act.put, List.setIfInBounds_toArray, List.set_cons_succ, List.set_cons_zero, Act.eval, Array.getD_eq_getD_getElem?, List.getElem?_toArray, List.getElem?_cons_succ, List.getElem?_cons_zero, Option.getD_some]; exact rfl))
        | ((with_reducible refine z_obl (v := ?_) (a' := ?_) rfl (fun _ => ?_) ?_ ?_); rotate_left; rotate_left; (focus (go_simp; (try go_bits); exact rfl)); (focus (simp only [Act.put, List.setIfInBounds_toArray, List.set_cons_succ, List.set_cons_zero, Act.eval, Array.getD_eq_getD_getElem?, List.getElem?_toArray, List.getElem?_cons_succ, List.getElem?_cons_zero, Option.getD_some]; exact rfl)))
        | ((with_reducible refine z_read (v := ?_) (a' := ?_) rfl ?_ ?_ ?_); rotate_left; rotate_left; (focus (go_simp; (try go_bits); exact rfl)); (focus (simp only [Act.put, List.setIfInBounds_toArray, List.set_cons_succ, List.set_cons_zero, Act.eval, Array.getD_eq_getD_getElem?, List.getElem?_toArray, List.getElem?_cons_succ, List.getElem?_cons_zero, Option.getD_some]; exact rfl)))
    refine z_nil (hK' _ _ ?_)
    have e1 := hCb w3 hcw
    have hgb : w.heap.size < g := Nat.lt_of_lt_of_le (show w.heap.size < w2.drew.heap.size from B2.out.lt) (by simpa using hgW)
    have B4 := Lib.hid ((B2.out.drew.belowAll e1).grown hg4 (by simp; omega))
    have e2 := e1.mono (show w.heap.size ≤ w2.drew.heap.size by have := C2.out.size; simpa using this)
    have C4 := Lib.hid ((C2.out.drew.trans e2).trans (grown_below hg4 (by omega) (by have := C2.out.size; have : w2.drew.heap.size ≤ w3.heap.size := e1.size; have e : w2.drew.heap.size = w2.heap.size := rfl; omega)))
    have hgw' : w2.drew.heap.size ≤ g := by simpa using hgW
    have R4 := Lib.hid (R2.out.drew.below (e1.trans (grown_below hg4 hgw' e1.size)))
    have G4 := Lib.hid hb4
    have HO := Lib.hid hown
    have HL := Lib.hid hol
    clear hC0 hCb hCn RB R56 RN hg hg' hg4 hs4 e1 e2 hb4 hown hol hcw hgW hgw' R2 B2 C2
    have r0 := B4.out.row
    have c1 := B4.out.cell 56
    have c2 := B4.out.cell 57
    rw [HH.out.rounds] at c1
    rw [HH.out.b] at c2
    go_wp2_with fail
    go_loopw [7] (fun i wr => ∃ j : Nat, j ≤ len ∧ i = .int .i64 j ∧ Blk wr w.heap.size 66 T ∧ Blk wr g 35 (A8 own) ∧ Rd8 wr a2 len c2' c ∧ Below w.heap.size w wr) (fun i _ => len - (intOf i).toNat)
    case atStart => exact ⟨0, Nat.zero_le _, rfl, B4.out, G4.out, R4.out, C4.out⟩
    case round =>
      obtain ⟨j, hj, rfl, hB, hG, hr4, hC⟩ := hrel
      have B5 := Lib.hid hB
      have G5 := Lib.hid hG
      have R5 := Lib.hid hr4
      have C5 := Lib.hid hC
      clear r0 c1 c2 hB hG hr4 hC B4 C4 G4 R4
      have r0 := B5.out.row
      have c1 := B5.out.cell 56
      have c2 := B5.out.cell 57
      rw [HH.out.rounds] at c1
      rw [HH.out.b] at c2
      by_cases hjl : j < len
      · have j0 : (0 : Int) ≤ (j : Int) := by omega
        have j1 : (j : Int) < (len : Int) := by omega
        obtain ⟨y, hy⟩ : ∃ y : BitVec 64, y = BitVec.ofInt 64 ((j : Int) / 64) := ⟨_, rfl⟩
        have hy' : y = BitVec.ofNat 64 (j / 64) := by
          rw [hy, show ((j : Int) / 64) = ((j / 64 : Nat) : Int) by omega, BitVec.ofInt_natCast]
        have HY := Lib.hid hy'
        clear hy'
        go_wp2_with fail
        rw [← hy]
        refine (putlong_any y _).mono ?_
        rintro e w5 ⟨rfl, hb5⟩
        have B6 := Lib.hid ((B5.out.belowAll hb5).alloc (.cells (A8 (le64 y)) 72))
        have G6 := Lib.hid ((G5.out.belowAll hb5).alloc (.cells (A8 (le64 y)) 72))
        have R6 := Lib.hid ((R5.out.below hb5).alloc (.cells (A8 (le64 y)) 72))
        have P6 := Lib.hid (Blk.new w5 72 (A8 (le64 y)))
        have hC6 := C5.out.trans (hb5.mono C5.out.size)
        have C6 := Lib.hid (hC6.alloc hC6.size (.cells (A8 (le64 y)) 72))
        clear hb5 hC6 B5 G5 R5 C5 r0 c1 c2 hy
        go_upto_region 11 with fail
        generalize w5.alloc (.cells (A8 (le64 y)) 72) = W6 at *
        generalize w5.heap.size = p6 at *
        refine wp_region_text' [2,0,2,0,0,2,0] (by kernel_rfl) (by kernel_rfl) (fun ops' K7 hK7 => ?_)
        refine z_build0 (B := W6.heap.size) (Nat.le_refl _) Try.underlying22 info8 (fun w7 v7 ho7 hb7 => ?_)
        simp only [Act.put, List.setIfInBounds_toArray, List.set_cons_succ, List.set_cons_zero]
        repeat
          first
            | ((with_reducible refine z_move (a' := ?_) ?_ ?_); rotate_left; · (simp only [Act.put, List.setIfInBounds_toArray, List.set_cons_succ, List.set_cons_zero, Act.eval, Array.getD_eq_getD_getElem?, List.getElem?_toArray, List.getElem?_cons_succ, List.getElem?_cons_zero, Option.getD_some]; exact rfl))
            | ((with_reducible refine z_assign (a' := ?_) ?_ ?_); rotate_left; · (simp only [Act.put, List.setIfInBounds_toArray, List.set_cons_succ, List.set_cons_zero, Act.eval, Array.getD_eq_getD_getElem?, List.getElem?_toArray, List.getElem?_cons_succ, List.getElem?_cons_zero, Option.getD_some]; exact rfl))
            | ((with_reducible refine z_obl (v := ?_) (a' := ?_) rfl (fun _ => ?_) ?_ ?_); rotate_left; rotate_left; (focus (go_simp; (try go_bits); exact rfl)); (focus (simp only [Act.put, List.setIfInBounds_toArray, List.set_cons_succ, List.set_cons_zero, Act.eval, Array.getD_eq_getD_getElem?, List.getElem?_toArray, List.getElem?_cons_succ, List.getElem?_cons_zero, Option.getD_some]; exact rfl)))
            | ((with_reducible refine z_read (v := ?_) (a' := ?_) rfl ?_ ?_ ?_); rotate_left; rotate_left; (focus (go_simp; (try go_bits); exact rfl)); (focus (simp only [Act.put, List.setIfInBounds_toArray, List.set_cons_succ, List.set_cons_zero, Act.eval, Array.getD_eq_getD_getElem?, List.getElem?_toArray, List.getElem?_cons_succ, List.getElem?_cons_zero, Option.getD_some]; exact rfl)))
        have hp7 := ((P6.out.drew.belowAll hb7).rd8 8 (by simp) (by simp; unfold maxLen; omega))
        rw [le64_length, List.take_of_length_le (by simp)] at hp7
        refine z_append8 ho7 hp7 rfl rfl Try.underlying22 info8 (by simp) hb7.size (fun w8 v8_ o8 g8 b8 => ?_)
        simp only [Act.put, List.setIfInBounds_toArray, List.set_cons_succ, List.set_cons_zero]
        rw [List.nil_append] at o8
        have d8 := hb7.trans (b8.mono (Nat.le_refl _))
        have B8 := B6.out.drew.belowAll d8
        repeat
          first
            | ((with_reducible refine z_move (a' := ?_) ?_ ?_); rotate_left; · (simp only [Act.put, List.setIfInBounds_toArray, List.set_cons_succ, List.set_cons_zero, Act.eval, Array.getD_eq_getD_getElem?, List.getElem?_toArray, List.getElem?_cons_succ, List.getElem?_cons_zero, Option.getD_some]; exact rfl))
            | ((with_reducible refine z_assign (a' := ?_) ?_ ?_); rotate_left; · (simp only [Act.put, List.setIfInBounds_toArray, List.set_cons_succ, List.set_cons_zero, Act.eval, Array.getD_eq_getD_getElem?, List.getElem?_toArray, List.getElem?_cons_succ, List.getElem?_cons_zero, Option.getD_some]; exact rfl))
            | ((with_reducible refine z_obl (v := ?_) (a' := ?_) rfl (fun _ => ?_) ?_ ?_); rotate_left; rotate_left; (focus (go_simp; (try go_bits); exact rfl)); (focus (simp only [Act.put, List.setIfInBounds_toArray, List.set_cons_succ, List.set_cons_zero, Act.eval, Array.getD_eq_getD_getElem?, List.getElem?_toArray, List.getElem?_cons_succ, List.getElem?_cons_zero, Option.getD_some]; exact rfl)))
            | ((with_reducible refine z_read (v := ?_) (a' := ?_) rfl ?_ ?_ ?_); rotate_left; rotate_left; (focus (go_simp; (try go_bits); exact rfl)); (focus (simp only [Act.put, List.setIfInBounds_toArray, List.set_cons_succ, List.set_cons_zero, Act.eval, Array.getD_eq_getD_getElem?, List.getElem?_toArray, List.getElem?_cons_succ, List.getElem?_cons_zero, Option.getD_some]; exact rfl)))
        refine z_append8 o8 (HH.out.rd B8 16 8 (by omega)) rfl rfl Try.underlying22 info8 (by simp) d8.size (fun w9 v9 o9 g9 b9 => ?_)
        simp only [Act.put, List.setIfInBounds_toArray, List.set_cons_succ, List.set_cons_zero]
        repeat
          first
            | ((with_reducible refine z_move (a' := ?_) ?_ ?_); rotate_left; · (simp only [Act.put, List.setIfInBounds_toArray, List.set_cons_succ, List.set_cons_zero, Act.eval, Array.getD_eq_getD_getElem?, List.getElem?_toArray, List.getElem?_cons_succ, List.getElem?_cons_zero, Option.getD_some]; exact rfl))
            | ((with_reducible refine z_assign (a' := ?_) ?_ ?_); rotate_left; · (simp only [Act.put, List.setIfInBounds_toArray, List.set_cons_succ, List.set_cons_zero, Act.eval, Array.getD_eq_getD_getElem?, List.getElem?_toArray, List.getElem?_cons_succ, List.getElem?_cons_zero, Option.getD_some]; exact rfl))
            | ((with_reducible refine z_obl (v := ?_) (a' := ?_) rfl (fun _ => ?_) ?_ ?_); rotate_left; rotate_left; (focus (go_simp; (try go_bits); exact rfl)); (focus (simp only [Act.put, List.setIfInBounds_toArray, List.set_cons_succ, List.set_cons_zero, Act.eval, Array.getD_eq_getD_getElem?, List.getElem?_toArray, List.getElem?_cons_succ, List.getElem?_cons_zero, Option.getD_some]; exact rfl)))
            | ((with_reducible refine z_read (v := ?_) (a' := ?_) rfl ?_ ?_ ?_); rotate_left; rotate_left; (focus (go_simp; (try go_bits); exact rfl)); (focus (simp only [Act.put, List.setIfInBounds_toArray, List.set_cons_succ, List.set_cons_zero, Act.eval, Array.getD_eq_getD_getElem?, List.getElem?_toArray, List.getElem?_cons_succ, List.getElem?_cons_zero, Option.getD_some]; exact rfl)))
        refine z_nil (hK7 _ _ ?_)
        have en : ((n.drop 16).take 8) = n.drop 16 := List.take_of_length_le (by simp [HH.out.ln])
        rw [en] at o9
        obtain ⟨inn, hinn⟩ : ∃ inn, inn = le64 y ++ n.drop 16 := ⟨_, rfl⟩
        rw [← hinn] at o9
        have il : inn.length = 16 := by rw [hinn]; simp [HH.out.ln]
        obtain ⟨gi, capi, rfl, _, _⟩ := o9.form (by omega)
        rw [il]
        have hri := o9.rdAt
        rw [il] at hri
        have d9 := d8.trans (b9.mono (Nat.le_refl _))
        have B9 := Lib.hid (B6.out.drew.belowAll d9)
        have G9 := Lib.hid (G6.out.drew.belowAll d9)
        have R9 := Lib.hid (R6.out.drew.below d9)
        have I9 := Lib.hid hri
        have C9 := Lib.hid (C6.out.drew.trans (d9.mono C6.out.size))
        have HIN := Lib.hid hinn
        clear ho7 hb7 hp7 o8 g8 b8 d8 B8 o9 g9 b9 d9 hri hinn en B6 G6 R6 P6 C6
        have hol := HL.out
        go_upto_region 12 with fail
        refine wp_region_made [1,0,1,0,1,1,0,0,0,9] [2,0] [(9, .cells (A8 (zeros 8 64)) 54)] (by kernel_rfl) (by kernel_rfl) (by kernel_rfl) (by kernel_rfl) ?_ (fun C hC0 hCb hCn K' hK' => ?_)
        · intro p hp o ho
          simp only [List.mem_singleton] at hp
          subst hp
          simp at ho
          subst ho
          exact ⟨rfl, fun a w => by go_simp⟩
        have RB : ∀ w1, C w1 → rowAt w1 w.heap.size = T := fun w1 h => (B9.out.drew.belowAll (hCb w1 h)).row
        have RG : ∀ w1, C w1 → rowAt w1 g = A8 own := fun w1 h => (G9.out.drew.belowAll (hCb w1 h)).row
        have R56 : ∀ w1, C w1 → w1.cell? ⟨w.heap.size, 56, none⟩ = some (.int .i64 r) := fun w1 h => by rw [(B9.out.drew.belowAll (hCb w1 h)).cell, HH.out.rounds]
        have RN : ∀ w1, C w1 → Rd8 w1 (some ⟨gi, 0, none⟩) 16 capi inn := fun w1 h => I9.out.drew.below (hCb w1 h)
        repeat
          first
            | (with_reducible refine y_made ?_)
            | ((with_reducible refine y_obl (v := ?_) (a' := ?_) ?_ (fun _ => ?_) ?_ ?_); rotate_left; rotate_left; (focus (exact rfl)); (focus (go_simp; (try go_bits); exact rfl)); (focus (simp only [Act.put, List.setIfInBounds_toArray, List.set_cons_succ, List.set_cons_zero, Act.eval, Array.getD_eq_getD_getElem?, List.getElem?_toArray, List.getElem?_cons_succ, List.getElem?_cons_zero, Option.getD_some]; exact rfl)))
            | ((with_reducible refine y_read (v := ?_) (a' := ?_) ?_ (fun _ hcw => ?_) ?_ ?_); rotate_left; rotate_left; (focus (exact rfl)); (focus (have f := RB _ hcw; have f' := R56 _ hcw; have f2 := RG _ hcw; go_simp; (try go_bits); exact rfl)); (focus (simp only [Act.put, List.setIfInBounds_toArray, List.set_cons_succ, List.set_cons_zero, Act.eval, Array.getD_eq_getD_getElem?, List.getElem?_toArray, List.getElem?_cons_succ, List.getElem?_cons_zero, Option.getD_some]; exact rfl)))
            | ((with_reducible refine y_skip (a' := ?_) ?_ ?_ ?_); rotate_left; (focus (exact rfl)); (focus (simp only [Act.put, List.setIfInBounds_toArray, List.set_cons_succ, List.set_cons_zero, Act.eval, Array.getD_eq_getD_getElem?, List.getElem?_toArray, List.getElem?_cons_succ, List.getElem?_cons_zero, Option.getD_some]; exact rfl)))
            | ((with_reducible refine y_skip1 (a' := ?_) ?_ ?_ ?_); rotate_left; (focus (exact rfl)); (focus (simp only [Act.put, List.setIfInBounds_toArray, List.set_cons_succ, List.set_cons_zero, Act.eval, Array.getD_eq_getD_getElem?, List.getElem?_toArray, List.getElem?_cons_succ, List.getElem?_cons_zero, Option.getD_some]; exact rfl)))
        ((with_reducible refine y_call (v := ?_) (a' := ?_) ?_ (fun wq hcw => ?_) ?_ ?_); rotate_left; rotate_left)
        · exact rfl
        · go_simp
          refine entersB_of ?_
          exact block_any inn _ 16 capi wq (RN _ hcw)
        · (simp only [Act.put, List.setIfInBounds_toArray, List.set_cons_succ, List.set_cons_zero, Act.eval, Array.getD_eq_getD_getElem?, List.getElem?_toArray, List.getElem?_cons_succ, List.getElem?_cons_zero, Option.getD_some]; exact rfl)
        rw [blk_self _ il]
        repeat
          first
            | (with_reducible refine y_made ?_)
            | ((with_reducible refine y_obl (v := ?_) (a' := ?_) ?_ (fun _ => ?_) ?_ ?_); rotate_left; rotate_left; (focus (exact rfl)); (focus (go_simp; (try go_bits); exact rfl)); (focus (simp only [Act.put, List.setIfInBounds_toArray, List.set_cons_succ, List.set_cons_zero, Act.eval, Array.getD_eq_getD_getElem?, List.getElem?_toArray, List.getElem?_cons_succ, List.getElem?_cons_zero, Option.getD_some]; exact rfl)))
            | ((with_reducible refine y_read (v := ?_) (a' := ?_) ?_ (fun _ hcw => ?_) ?_ ?_); rotate_left; rotate_left; (focus (exact rfl)); (focus (have f := RB _ hcw; have f' := R56 _ hcw; have f2 := RG _ hcw; go_simp; (try go_bits); exact rfl)); (focus (simp only [Act.put, List.setIfInBounds_toArray, List.set_cons_succ, List.set_cons_zero, Act.eval, Array.getD_eq_getD_getElem?, List.getElem?_toArray, List.getElem?_cons_succ, List.getElem?_cons_zero, Option.getD_some]; exact rfl)))
            | ((with_reducible refine y_skip (a' := ?_) ?_ ?_ ?_); rotate_left; (focus (exact rfl)); (focus (simp only [Act.put, List.setIfInBounds_toArray, List.set_cons_succ, List.set_cons_zero, Act.eval, Array.getD_eq_getD_getElem?, List.getElem?_toArray, List.getElem?_cons_succ, List.getElem?_cons_zero, Option.getD_some]; exact rfl)))
            | ((with_reducible refine y_skip1 (a' := ?_) ?_ ?_ ?_); rotate_left; (focus (exact rfl)); (focus (simp only [Act.put, List.setIfInBounds_toArray, List.set_cons_succ, List.set_cons_zero, Act.eval, Array.getD_eq_getD_getElem?, List.getElem?_toArray, List.getElem?_cons_succ, List.getElem?_cons_zero, Option.getD_some]; exact rfl)))
        ((with_reducible refine y_call (v := ?_) (a' := ?_) ?_ (fun wq hcw => ?_) ?_ ?_); rotate_left; rotate_left)
        · exact rfl
        · go_simp
          refine entersB_of ?_
          exact blockC_yes own inn r _ HL.out il hR.2
        · (simp only [Act.put, List.setIfInBounds_toArray, List.set_cons_succ, List.set_cons_zero, Act.eval, Array.getD_eq_getD_getElem?, List.getElem?_toArray, List.getElem?_cons_succ, List.getElem?_cons_zero, Option.getD_some]; exact rfl)
        repeat
          first
            | (with_reducible refine y_made ?_)
            | ((with_reducible refine y_obl (v := ?_) (a' := ?_) ?_ (fun _ => ?_) ?_ ?_); rotate_left; rotate_left; (focus (exact rfl)); (focus (go_simp; (try go_bits); exact rfl)); (focus (simp only [Act.put, List.setIfInBounds_toArray, List.set_cons_succ, List.set_cons_zero, Act.eval, Array.getD_eq_getD_getElem?, List.getElem?_toArray, List.getElem?_cons_succ, List.getElem?_cons_zero, Option.getD_some]; exact rfl)))
            | ((with_reducible refine y_read (v := ?_) (a' := ?_) ?_ (fun _ hcw => ?_) ?_ ?_); rotate_left; rotate_left; (focus (exact rfl)); (focus (have f := RB _ hcw; have f' := R56 _ hcw; have f2 := RG _ hcw; go_simp; (try go_bits); exact rfl)); (focus (simp only [Act.put, List.setIfInBounds_toArray, List.set_cons_succ, List.set_cons_zero, Act.eval, Array.getD_eq_getD_getElem?, List.getElem?_toArray, List.getElem?_cons_succ, List.getElem?_cons_zero, Option.getD_some]; exact rfl)))
            | ((with_reducible refine y_skip (a' := ?_) ?_ ?_ ?_); rotate_left; (focus (exact rfl)); (focus (simp only [Act.put, List.setIfInBounds_toArray, List.set_cons_succ, List.set_cons_zero, Act.eval, Array.getD_eq_getD_getElem?, List.getElem?_toArray, List.getElem?_cons_succ, List.getElem?_cons_zero, Option.getD_some]; exact rfl)))
            | ((with_reducible refine y_skip1 (a' := ?_) ?_ ?_ ?_); rotate_left; (focus (exact rfl)); (focus (simp only [Act.put, List.setIfInBounds_toArray, List.set_cons_succ, List.set_cons_zero, Act.eval, Array.getD_eq_getD_getElem?, List.getElem?_toArray, List.getElem?_cons_succ, List.getElem?_cons_zero, Option.getD_some]; exact rfl)))
        refine y_nil (fin_one fun gb wa hgW hcw hg => ?_)
        simp only [Act.put, List.setIfInBounds_toArray, List.set_cons_succ, List.set_cons_zero, List.getElem?_cons_succ, List.getElem?_cons_zero, Option.bind_some]
        have hg' : Blk wa gb 54 (A8 (zeros 8 64)) := hg
        obtain ⟨blo, hblo⟩ : ∃ blo, blo = blockOf (startTo own inn 4) (r.toNat / 2) := ⟨_, rfl⟩
        rw [← hblo]
        have hbl : blo.length = 64 := by rw [hblo, blockOf_length _ _ (startTo_length _ _ _)]
        refine z_storeRow hg' rfl rfl (by rw [A8_size, A8_size, hbl, zeros_length]) (A8_ones _) (by rw [A8_size, hbl]; exact Try.sizeOf54 _) (fun wb hbb hgb' hsb => ?_)
        repeat
          first
            | ((with_reducible refine z_move (a' := ?_) ?_ ?_); rotate_left; · (simp only [Act.put, List.setIfInBounds_toArray, List.set_cons_succ, List.set_cons_zero, Act.eval, Array.getD_eq_getD_getElem?, List.getElem?_toArray, List.getElem?_cons_succ, List.getElem?_cons_zero, Option.getD_some]; exact rfl))
            | ((with_reducible refine z_assign (a' := ?_) ?_ ?_); rotate_left; · (simp only [Act.put, List.setIfInBounds_toArray, List.set_cons_succ, List.set_cons_zero, Act.eval, Array.getD_eq_getD_getElem?, List.getElem?_toArray, List.getElem?_cons_succ, List.getElem?_cons_zero, Option.getD_some]; exact rfl))
            | ((with_reducible refine z_obl (v := ?_) (a' := ?_) rfl (fun _ => ?_) ?_ ?_); rotate_left; rotate_left; (focus (go_simp; (try go_bits); exact rfl)); (focus (simp only [Act.put, List.setIfInBounds_toArray, List.set_cons_succ, List.set_cons_zero, Act.eval, Array.getD_eq_getD_getElem?, List.getElem?_toArray, List.getElem?_cons_succ, List.getElem?_cons_zero, Option.getD_some]; exact rfl)))
            | ((with_reducible refine z_read (v := ?_) (a' := ?_) rfl ?_ ?_ ?_); rotate_left; rotate_left; (focus (go_simp; (try go_bits); exact rfl)); (focus (simp only [Act.put, List.setIfInBounds_toArray, List.set_cons_succ, List.set_cons_zero, Act.eval, Array.getD_eq_getD_getElem?, List.getElem?_toArray, List.getElem?_cons_succ, List.getElem?_cons_zero, Option.getD_some]; exact rfl)))
        refine z_nil (hK' _ _ ?_)
        have e1 := hCb wa hcw
        have hgw' : w9.drew.heap.size ≤ gb := by simpa using hgW
        have e2 : Below w9.drew.heap.size w9.drew wb := e1.trans (grown_below hgb' hgw' e1.size)
        have B10 := Lib.hid (B9.out.drew.belowAll e2)
        have G10 := Lib.hid (G9.out.drew.belowAll e2)
        have R10 := Lib.hid (R9.out.drew.below e2)
        have C10 := Lib.hid (C9.out.drew.trans (e2.mono C9.out.size))
        have Q10 := Lib.hid hbb
        have HB := Lib.hid hblo
        clear hC0 hCb hCn RB RG R56 RN hg hg' hgb' hsb e1 e2 hgw' hgW hbb hblo hcw B9 G9 R9 I9 C9 hol
        have hlaw : nth c j = nth l j ^^^ nth blo (j % 64) := by
          rw [HC.out, cryptOf, nth_streamOf _ _ _ (by rw [LL.out.1]; exact hjl), HB.out, HIN.out, HO.out, HY.out]; rfl
        obtain ⟨b2, o2, rfl, hb2, hcc⟩ := R10.out.2.2.2 (by omega)
        obtain ⟨ba, oa, rfl, hba, hca⟩ := LL.out.2.2.2 (by omega)
        have k2 := hcc j hjl
        rw [hlaw] at k2
        have k1 : wb.cell? ⟨ba, oa + j, none⟩ = some (v8 (nth l j)) := (C10.out.cell hba).trans (hca j hjl)
        have k3 : wb.cell? ⟨gb, j % 64, none⟩ = some (v8 (nth blo (j % 64))) := Q10.out.cell8 hbl _ (Nat.mod_lt _ (by omega))
        have r0 := B10.out.row
        have c2 := B10.out.cell 57
        rw [HH.out.b] at c2
        have m2 : ((j : Int) % 64).toNat = j % 64 := by rw [show ((j : Int) % 64) = ((j % 64 : Nat) : Int) by omega, Int.toNat_natCast]
        have m0 : (0 : Int) ≤ (j : Int) % 64 := by omega
        have m1 : (j : Int) % 64 < 64 := by omega
        clear hcc hca hlaw hb2 hba
        go_upto_region 13 with fail
        refine wp_region_text2 [0,0,0,0,0,0,1,0,1,0,0,1,0,0,0,1,0,0,0] (by kernel_rfl) (by kernel_rfl) (fun K9 hK9 => ?_)
        repeat
          first
            | ((with_reducible refine z_move (a' := ?_) ?_ ?_); rotate_left; · (simp only [Act.put, List.setIfInBounds_toArray, List.set_cons_succ, List.set_cons_zero, Act.eval, Array.getD_eq_getD_getElem?, List.getElem?_toArray, List.getElem?_cons_succ, List.getElem?_cons_zero, Option.getD_some]; exact rfl))
            | ((with_reducible refine z_assign (a' := ?_) ?_ ?_); rotate_left; · (simp only [Act.put, List.setIfInBounds_toArray, List.set_cons_succ, List.set_cons_zero, Act.eval, Array.getD_eq_getD_getElem?, List.getElem?_toArray, List.getElem?_cons_succ, List.getElem?_cons_zero, Option.getD_some]; exact rfl))
            | ((with_reducible refine z_obl (v := ?_) (a' := ?_) rfl (fun _ => ?_) ?_ ?_); rotate_left; rotate_left; (focus (go_simp; (try go_bits); exact rfl)); (focus (simp only [Act.put, List.setIfInBounds_toArray, List.set_cons_succ, List.set_cons_zero, Act.eval, Array.getD_eq_getD_getElem?, List.getElem?_toArray, List.getElem?_cons_succ, List.getElem?_cons_zero, Option.getD_some]; exact rfl)))
            | ((with_reducible refine z_read (v := ?_) (a' := ?_) rfl ?_ ?_ ?_); rotate_left; rotate_left; (focus (go_simp; (try go_bits); exact rfl)); (focus (simp only [Act.put, List.setIfInBounds_toArray, List.set_cons_succ, List.set_cons_zero, Act.eval, Array.getD_eq_getD_getElem?, List.getElem?_toArray, List.getElem?_cons_succ, List.getElem?_cons_zero, Option.getD_some]; exact rfl)))
            | ((with_reducible refine z_oblG (v := ?_) (a' := ?_) ?_ (fun _ => ?_) ?_ ?_); rotate_left; rotate_left; (focus (exact rfl)); (focus (go_simp; (try go_bits); exact rfl)); (focus (simp only [Act.put, List.setIfInBounds_toArray, List.set_cons_succ, List.set_cons_zero, Act.eval, Array.getD_eq_getD_getElem?, List.getElem?_toArray, List.getElem?_cons_succ, List.getElem?_cons_zero, Option.getD_some]; exact rfl)))
            | ((with_reducible refine z_readG (v := ?_) (a' := ?_) ?_ ?_ ?_ ?_); rotate_left; rotate_left; (focus (exact rfl)); (focus (go_simp; (try go_bits); exact rfl)); (focus (simp only [Act.put, List.setIfInBounds_toArray, List.set_cons_succ, List.set_cons_zero, Act.eval, Array.getD_eq_getD_getElem?, List.getElem?_toArray, List.getElem?_cons_succ, List.getElem?_cons_zero, Option.getD_some]; exact rfl)))
        refine z_nil (hK9 _ _ ?_)
        clear k1 k2 k3 r0 c2 m0 m1 m2
        go_wp2
        exact ⟨⟨j + 1, by omega, by go_num, B10.out.drew, G10.out.drew, R10.out.drew, C10.out.drew⟩, by simp [intOf]; omega⟩
      · have j1 : ¬ (j : Int) < (len : Int) := by omega
        go_wp2_with fail
        refine (awake_any _).mono ?_
        rintro e w5 ⟨rfl, hb5⟩
        go_wp2
        go_ret
        exact ⟨rfl, C5.out.trans (hb5.mono C5.out.size)⟩
  · rw [decide_eq_false hR]
    go_wp2
    go_ret
    exact ⟨rfl, C1.out⟩
end Go.Proofs.Ythogbbigglmapaa
