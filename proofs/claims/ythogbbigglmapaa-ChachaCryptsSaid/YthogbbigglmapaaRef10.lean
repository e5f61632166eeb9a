/- chacha by definition: Crypt -/
import Derived.Test.YthogbbigglmapaaRef9
import Derived.Test.YthogbbigglmapaaApp3
import Derived.Test.YthogbbigglmapaaCha8
import Derived.Test.YthogbbigglmapaaStill2
namespace Go.Proofs.Ythogbbigglmapaa
open Go.RowKit
theorem putR_le64 (x : BitVec 64) : putR x 8 = le64 x := by
  show [_, _, _, _, _, _, _, _] = [_, _, _, _, _, _, _, _]
  simp
theorem numbered_length (own nonce : List (BitVec 8)) (n m : Nat) : (numbered own nonce n m).length = 64 := by
  rw [numbered, blockOf_length _ _ (startTo_length _ _ _)]
theorem blk_same (l : List (BitVec 8)) (h : l.length = 16) : blk l = l := by
  unfold blk
  rw [List.take_of_length_le (by omega), splc_full _ _ (by simp [h])]
set_option linter.unusedSimpArgs false in
set_option maxRecDepth 100000 in
set_option maxHeartbeats 1600000 in
theorem refCrypt_any (key nonce l : List (BitVec 8)) (r : Int) (a : Option Addr) (n c : Nat) (w : World) (hk : key.length = 32) (hn : nonce.length = 24) (hr0 : 0 ≤ r) (hr20 : r ≤ 20) (hr : Rd8 w a n c l) (hsz : n ≤ 1000) :
    Calls Try.prog 40 #[.agg (A8 key), .agg (A8 nonce), .int .i64 r, .slice a n c] w fun e w' => ∃ v, e = .returned v ∧ Own8 w' w.heap.size 5 v (cryptOf key nonce r.toNat l) ∧ Below w.heap.size w w' := by
  obtain ⟨W, hW⟩ : ∃ W, (w.alloc (.cells (A8 key) 35)).alloc (.cells (A8 nonce) 64) = W := ⟨_, rfl⟩
  obtain ⟨b0, b1, hb, hz⟩ := new2 _ _ _ _ _ _ hW
  have HR := Lib.hid hr
  obtain ⟨OUT, hOUT⟩ : ∃ OUT, OUT = cryptOf key nonce r.toNat l := ⟨_, rfl⟩
  rw [← hOUT]
  have HU := Lib.hid hOUT
  clear hOUT
  go_enter Try.func40, Try.ntmps40
  go_upto_region 1 with fail
  clear hW
  refine wp_region_made [1,0,1,0,1,9] [2] [(5, .cells (A8 (zeros 8 32)) 35)] (by kernel_rfl) (by kernel_rfl) (by kernel_rfl) (by kernel_rfl) ?_ (fun C hC0 hCb hCn K' hK' => ?_)
  · intro p hp o ho
    simp only [List.mem_singleton] at hp
    subst hp
    simp at ho
    subst ho
    exact ⟨rfl, fun a w => by go_simp⟩
  have R0 : ∀ w1, C w1 → rowAt w1 w.heap.size = A8 key := fun w1 h => (b0.drew.belowAll (hCb w1 h)).row
  have R1 : ∀ w1, C w1 → Rd8 w1 (some ⟨w.heap.size + 1, 0, none⟩) 16 24 (nonce.take 16) := fun w1 h => by
    have rn := ((b1.drew.belowAll (hCb w1 h)).rd8 24 (by omega) (by rw [hn]; unfold maxLen; omega)).pre (j := 16) (by omega)
    rw [List.take_take, hn] at rn
    exact rn
  repeat
    first
      | (with_reducible refine y_made ?_)
      | ((with_reducible refine y_obl (v := ?_) (a' := ?_) ?_ (fun _ => ?_) ?_ ?_); rotate_left; rotate_left; (focus (exact rfl)); (focus (go_simp; (try go_bits); exact rfl)); (focus (simp only [Act.put, List.setIfInBounds_toArray, List.set_cons_succ, List.set_cons_zero, Act.eval, Array.getD_eq_getD_getElem?, List.getElem?_toArray, List.getElem?_cons_succ, List.getElem?_cons_zero, Option.getD_some]; exact rfl)))
      | ((with_reducible refine y_read (v := ?_) (a' := ?_) ?_ (fun _ hcw => ?_) ?_ ?_); rotate_left; rotate_left; (focus (exact rfl)); (focus (have f := R0 _ hcw; go_simp; (try go_bits); exact rfl)); (focus (simp only [Act.put, List.setIfInBounds_toArray, List.set_cons_succ, List.set_cons_zero, Act.eval, Array.getD_eq_getD_getElem?, List.getElem?_toArray, List.getElem?_cons_succ, List.getElem?_cons_zero, Option.getD_some]; exact rfl)))
      | ((with_reducible refine y_skip (a' := ?_) ?_ ?_ ?_); rotate_left; (focus (exact rfl)); (focus (simp only [Act.put, List.setIfInBounds_toArray, List.set_cons_succ, List.set_cons_zero, Act.eval, Array.getD_eq_getD_getElem?, List.getElem?_toArray, List.getElem?_cons_succ, List.getElem?_cons_zero, Option.getD_some]; exact rfl)))
      | ((with_reducible refine y_skip1 (a' := ?_) ?_ ?_ ?_); rotate_left; (focus (exact rfl)); (focus (simp only [Act.put, List.setIfInBounds_toArray, List.set_cons_succ, List.set_cons_zero, Act.eval, Array.getD_eq_getD_getElem?, List.getElem?_toArray, List.getElem?_cons_succ, List.getElem?_cons_zero, Option.getD_some]; exact rfl)))
  ((with_reducible refine y_call (v := ?_) (a' := ?_) ?_ (fun wq hcw => ?_) ?_ ?_); rotate_left; rotate_left)
  · exact rfl
  · go_simp
    refine entersB_of ?_
    exact refBlock16_any (nonce.take 16) _ 16 24 _ (R1 _ hcw) (by omega)
  · (simp only [Act.put, List.setIfInBounds_toArray, List.set_cons_succ, List.set_cons_zero, Act.eval, Array.getD_eq_getD_getElem?, List.getElem?_toArray, List.getElem?_cons_succ, List.getElem?_cons_zero, Option.getD_some]; exact rfl)
  have hbk : blk (nonce.take 16) = nonce.take 16 := blk_same _ (by simp [hn])
  rw [hbk]
  repeat
    first
      | (with_reducible refine y_made ?_)
      | ((with_reducible refine y_obl (v := ?_) (a' := ?_) ?_ (fun _ => ?_) ?_ ?_); rotate_left; rotate_left; (focus (exact rfl)); (focus (go_simp; (try go_bits); exact rfl)); (focus (simp only [Act.put, List.setIfInBounds_toArray, List.set_cons_succ, List.set_cons_zero, Act.eval, Array.getD_eq_getD_getElem?, List.getElem?_toArray, List.getElem?_cons_succ, List.getElem?_cons_zero, Option.getD_some]; exact rfl)))
      | ((with_reducible refine y_read (v := ?_) (a' := ?_) ?_ (fun _ hcw => ?_) ?_ ?_); rotate_left; rotate_left; (focus (exact rfl)); (focus (have f := R0 _ hcw; go_simp; (try go_bits); exact rfl)); (focus (simp only [Act.put, List.setIfInBounds_toArray, List.set_cons_succ, List.set_cons_zero, Act.eval, Array.getD_eq_getD_getElem?, List.getElem?_toArray, List.getElem?_cons_succ, List.getElem?_cons_zero, Option.getD_some]; exact rfl)))
      | ((with_reducible refine y_skip (a' := ?_) ?_ ?_ ?_); rotate_left; (focus (exact rfl)); (focus (simp only [Act.put, List.setIfInBounds_toArray, List.set_cons_succ, List.set_cons_zero, Act.eval, Array.getD_eq_getD_getElem?, List.getElem?_toArray, List.getElem?_cons_succ, List.getElem?_cons_zero, Option.getD_some]; exact rfl)))
      | ((with_reducible refine y_skip1 (a' := ?_) ?_ ?_ ?_); rotate_left; (focus (exact rfl)); (focus (simp only [Act.put, List.setIfInBounds_toArray, List.set_cons_succ, List.set_cons_zero, Act.eval, Array.getD_eq_getD_getElem?, List.getElem?_toArray, List.getElem?_cons_succ, List.getElem?_cons_zero, Option.getD_some]; exact rfl)))
  ((with_reducible refine y_call (v := ?_) (a' := ?_) ?_ (fun wq hcw => ?_) ?_ ?_); rotate_left; rotate_left)
  · exact rfl
  · go_simp
    refine entersB_of ?_
    exact refShort_any key (nonce.take 16) r _ hk (by simp [hn]) hr0 hr20
  · (simp only [Act.put, List.setIfInBounds_toArray, List.set_cons_succ, List.set_cons_zero, Act.eval, Array.getD_eq_getD_getElem?, List.getElem?_toArray, List.getElem?_cons_succ, List.getElem?_cons_zero, Option.getD_some]; exact rfl)
  repeat
    first
      | (with_reducible refine y_made ?_)
      | ((with_reducible refine y_obl (v := ?_) (a' := ?_) ?_ (fun _ => ?_) ?_ ?_); rotate_left; rotate_left; (focus (exact rfl)); (focus (go_simp; (try go_bits); exact rfl)); (focus (simp only [Act.put, List.setIfInBounds_toArray, List.set_cons_succ, List.set_cons_zero, Act.eval, Array.getD_eq_getD_getElem?, List.getElem?_toArray, List.getElem?_cons_succ, List.getElem?_cons_zero, Option.getD_some]; exact rfl)))
      | ((with_reducible refine y_read (v := ?_) (a' := ?_) ?_ (fun _ hcw => ?_) ?_ ?_); rotate_left; rotate_left; (focus (exact rfl)); (focus (have f := R0 _ hcw; go_simp; (try go_bits); exact rfl)); (focus (simp only [Act.put, List.setIfInBounds_toArray, List.set_cons_succ, List.set_cons_zero, Act.eval, Array.getD_eq_getD_getElem?, List.getElem?_toArray, List.getElem?_cons_succ, List.getElem?_cons_zero, Option.getD_some]; exact rfl)))
      | ((with_reducible refine y_skip (a' := ?_) ?_ ?_ ?_); rotate_left; (focus (exact rfl)); (focus (simp only [Act.put, List.setIfInBounds_toArray, List.set_cons_succ, List.set_cons_zero, Act.eval, Array.getD_eq_getD_getElem?, List.getElem?_toArray, List.getElem?_cons_succ, List.getElem?_cons_zero, Option.getD_some]; exact rfl)))
      | ((with_reducible refine y_skip1 (a' := ?_) ?_ ?_ ?_); rotate_left; (focus (exact rfl)); (focus (simp only [Act.put, List.setIfInBounds_toArray, List.set_cons_succ, List.set_cons_zero, Act.eval, Array.getD_eq_getD_getElem?, List.getElem?_toArray, List.getElem?_cons_succ, List.getElem?_cons_zero, Option.getD_some]; exact rfl)))
  refine y_nil (fin_one fun g w1 hgW hcw hg => ?_)
  simp only [Act.put, List.setIfInBounds_toArray, List.set_cons_succ, List.set_cons_zero, List.getElem?_cons_succ, List.getElem?_cons_zero, Option.bind_some]
  have hg' : Blk w1 g 35 (A8 (zeros 8 32)) := hg
  obtain ⟨own, hown⟩ : ∃ own, own = ownOf key nonce (r.toNat / 2) := ⟨_, rfl⟩
  have hol : own.length = 32 := by rw [hown]; exact shortOf_length _ (by rw [mixTo_length, startTo_length])
  rw [show shortOf (mixTo (startTo key (List.take 16 nonce) 4) (r.toNat / 2)) = own from hown.symm]
  refine z_storeRow hg' rfl rfl (by rw [A8_size, A8_size, hol, zeros_length]) (A8_ones _) (by rw [A8_size, hol]; exact Try.sizeOf35 _) (fun w2 hb2 hg2 hs2 => ?_)
  refine z_nil (hK' _ _ ?_)
  have c1 := hCb w1 hcw
  have n0 := (b1.drew.belowAll c1).grown hg2 (by simp; omega)
  have hB2 : Below w.heap.size w w2 := (hb.drew.trans (c1.mono (by simp; omega))).trans (grown_below hg2 (by omega) (by have := hb.size; have := c1.size; simp at this; omega))
  have G2 := Lib.hid hb2
  have N2 := Lib.hid n0
  have B2 := Lib.hid hB2
  have hgl : w.heap.size + 1 < g := by omega
  have hgz := hb2.lt
  have HO := Lib.hid hown
  have HL := Lib.hid hol
  clear hC0 hCb hCn R0 R1 hg hg' hg2 hs2 c1 b0 b1 hcw hb hb2 n0 hB2 hown hol hbk
  have hln := hr.1
  clear hr
  go_wp2_with fail
  have hOUT := HU.out
  have hOl : OUT.length = n := by rw [hOUT, cryptOf, streamOf_length]; exact hln
  have hON : ∀ j, j < n → nth OUT j = nth l j ^^^ nth (numbered own nonce (r.toNat / 2) (j / 64)) (j % 64) := fun j hj => by
    rw [hOUT, HO.out, cryptOf, nth_streamOf _ _ _ (by omega)]
  have OL := Lib.hid hOl
  have ON := Lib.hid hON
  clear hOUT hOl hON
  go_loopw [10, 11, 12] (fun v bv i wr => ∃ j : Nat, j ≤ n ∧ i = .int .i64 j ∧ Blk wr (w.heap.size + 1) 64 (A8 nonce) ∧ Blk wr g 35 (A8 own) ∧ Own8 wr (g + 1) 5 v (OUT.take j) ∧ (j % 64 ≠ 0 → Own8 wr (g + 1) 5 bv (numbered own nonce (r.toNat / 2) (j / 64)) ∧ ∀ k, v.ownBlock = some k → bv.ownBlock ≠ some k) ∧ Below w.heap.size w wr) (fun _ _ i _ => n - (intOf i).toNat)
  case atStart => exact ⟨0, Nat.zero_le _, rfl, N2.out, G2.out, Own8.nil_ _ _ _, fun h => absurd rfl h, B2.out⟩
  case round =>
    obtain ⟨j, hj, rfl, hN, hG, hO, hV, hB⟩ := hrel
    have N3 := Lib.hid hN
    have G3 := Lib.hid hG
    have O3 := Lib.hid hO
    have V3 := Lib.hid hV
    have B3 := Lib.hid hB
    clear hN hG hO hV hB N2 G2 B2
    by_cases hjn : j < n
    · have j0 : (0 : Int) ≤ (j : Int) := by omega
      have j1 : (j : Int) < n := by omega
      obtain ⟨Q, hQ⟩ : ∃ Q, Q = j / 64 := ⟨_, rfl⟩
      have q1 : (j : Int) / 64 = (Q : Int) := by omega
      have HQ := Lib.hid hQ
      clear hQ
      by_cases hm : (j : Int) % 64 = 0
      · go_upto_region 7 with fail
        refine wp_region_text3' [0,0,0,2,0,2,0] (by kernel_rfl) (by kernel_rfl) (fun ops' K2 hK2 => ?_)
        repeat
          first
            | ((with_reducible refine z_move (a' := ?_) ?_ ?_); rotate_left; · (simp only [Act.put, List.setIfInBounds_toArray, List.set_cons_succ, List.set_cons_zero, Act.eval, Array.getD_eq_getD_getElem?, List.getElem?_toArray, List.getElem?_cons_succ, List.getElem?_cons_zero, Option.getD_some]; exact rfl))
            | ((with_reducible refine z_assign (a' := ?_) ?_ ?_); rotate_left; · (simp only [Act.put, List.setIfInBounds_toArray, List.set_cons_succ, List.set_cons_zero, Act.eval, Array.getD_eq_getD_getElem?, List.getElem?_toArray, List.getElem?_cons_succ, List.getElem?_cons_zero, Option.getD_some]; exact rfl))
            | ((with_reducible refine z_obl (v := ?_) (a' := ?_) rfl (fun _ => ?_) ?_ ?_); rotate_left; rotate_left; (focus (go_simp; (try go_bits); exact rfl)); (focus (simp only [Act.put, List.setIfInBounds_toArray, List.set_cons_succ, List.set_cons_zero, Act.eval, Array.getD_eq_getD_getElem?, List.getElem?_toArray, List.getElem?_cons_succ, List.getElem?_cons_zero, Option.getD_some]; exact rfl)))
            | ((with_reducible refine z_read (v := ?_) (a' := ?_) rfl ?_ ?_ ?_); rotate_left; rotate_left; (focus (go_simp; (try go_bits); exact rfl)); (focus (simp only [Act.put, List.setIfInBounds_toArray, List.set_cons_succ, List.set_cons_zero, Act.eval, Array.getD_eq_getD_getElem?, List.getElem?_toArray, List.getElem?_cons_succ, List.getElem?_cons_zero, Option.getD_some]; exact rfl)))
        (with_reducible refine z_callw rfl ?_)
        go_simp
        refine entersW_of ?_
        refine (refPut_any (BitVec.ofNat 64 Q) 8 wr.drew (by omega)).mono ?_
        rintro e w3 ⟨v3, rfl, ho3, hb3⟩
        refine ⟨_, rfl, ?_⟩
        try simp only [Act.put, List.setIfInBounds_toArray, List.set_cons_succ, List.set_cons_zero]
        rw [putR_le64] at ho3
        repeat
          first
            | ((with_reducible refine z_move (a' := ?_) ?_ ?_); rotate_left; · (simp only [Act.put, List.setIfInBounds_toArray, List.set_cons_succ, List.set_cons_zero, Act.eval, Array.getD_eq_getD_getElem?, List.getElem?_toArray, List.getElem?_cons_succ, List.getElem?_cons_zero, Option.getD_some]; exact rfl))
            | ((with_reducible refine z_assign (a' := ?_) ?_ ?_); rotate_left; · (simp only [Act.put, List.setIfInBounds_toArray, List.set_cons_succ, List.set_cons_zero, Act.eval, Array.getD_eq_getD_getElem?, List.getElem?_toArray, List.getElem?_cons_succ, List.getElem?_cons_zero, Option.getD_some]; exact rfl))
            | ((with_reducible refine z_obl (v := ?_) (a' := ?_) rfl (fun _ => ?_) ?_ ?_); rotate_left; rotate_left; (focus (go_simp; (try go_bits); exact rfl)); (focus (simp only [Act.put, List.setIfInBounds_toArray, List.set_cons_succ, List.set_cons_zero, Act.eval, Array.getD_eq_getD_getElem?, List.getElem?_toArray, List.getElem?_cons_succ, List.getElem?_cons_zero, Option.getD_some]; exact rfl)))
            | ((with_reducible refine z_read (v := ?_) (a' := ?_) rfl ?_ ?_ ?_); rotate_left; rotate_left; (focus (go_simp; (try go_bits); exact rfl)); (focus (simp only [Act.put, List.setIfInBounds_toArray, List.set_cons_succ, List.set_cons_zero, Act.eval, Array.getD_eq_getD_getElem?, List.getElem?_toArray, List.getElem?_cons_succ, List.getElem?_cons_zero, Option.getD_some]; exact rfl)))
        have rn := ((N3.out.drew.belowAll hb3).rd8 24 (by omega) (by rw [hn]; unfold maxLen; omega)).cut (j := 16) (k := 24) (by omega) (by omega)
        rw [hn, if_neg (by omega)] at rn
        have rn2 : Rd8 w3 (some ⟨w.heap.size + 1, 16, none⟩) 8 8 (nonce.drop 16) := by
          rw [List.take_of_length_le (l := nonce) (by omega), List.take_of_length_le (l := nonce) (by omega)] at rn
          exact rn
        refine z_append8 ho3 rn2 rfl rfl Try.underlying22 info8 (by simp) hb3.size (fun w4 v4 o4 g4 b4 => ?_)
        simp only [Act.put, List.setIfInBounds_toArray, List.set_cons_succ, List.set_cons_zero]
        repeat
          first
            | ((with_reducible refine z_move (a' := ?_) ?_ ?_); rotate_left; · (simp only [Act.put, List.setIfInBounds_toArray, List.set_cons_succ, List.set_cons_zero, Act.eval, Array.getD_eq_getD_getElem?, List.getElem?_toArray, List.getElem?_cons_succ, List.getElem?_cons_zero, Option.getD_some]; exact rfl))
            | ((with_reducible refine z_assign (a' := ?_) ?_ ?_); rotate_left; · (simp only [Act.put, List.setIfInBounds_toArray, List.set_cons_succ, List.set_cons_zero, Act.eval, Array.getD_eq_getD_getElem?, List.getElem?_toArray, List.getElem?_cons_succ, List.getElem?_cons_zero, Option.getD_some]; exact rfl))
            | ((with_reducible refine z_obl (v := ?_) (a' := ?_) rfl (fun _ => ?_) ?_ ?_); rotate_left; rotate_left; (focus (go_simp; (try go_bits); exact rfl)); (focus (simp only [Act.put, List.setIfInBounds_toArray, List.set_cons_succ, List.set_cons_zero, Act.eval, Array.getD_eq_getD_getElem?, List.getElem?_toArray, List.getElem?_cons_succ, List.getElem?_cons_zero, Option.getD_some]; exact rfl)))
            | ((with_reducible refine z_read (v := ?_) (a' := ?_) rfl ?_ ?_ ?_); rotate_left; rotate_left; (focus (go_simp; (try go_bits); exact rfl)); (focus (simp only [Act.put, List.setIfInBounds_toArray, List.set_cons_succ, List.set_cons_zero, Act.eval, Array.getD_eq_getD_getElem?, List.getElem?_toArray, List.getElem?_cons_succ, List.getElem?_cons_zero, Option.getD_some]; exact rfl)))
        refine z_nil (hK2 _ _ ?_)
        have b34 := hb3.trans (b4.mono (by simp))
        have N4 := Lib.hid (N3.out.drew.belowAll b34)
        have G4 := Lib.hid (G3.out.drew.belowAll b34)
        have O4 := Lib.hid (O3.out.drew.below b34)
        have B4 := Lib.hid (B3.out.drew.trans (b34.mono B3.out.size))
        have hlt3 := b34.size
        have hlw : g < wr.heap.size := G3.out.lt
        have W4 := Lib.hid o4
        clear rn rn2 b34 o4 g4 b4 ho3 hb3 hK2 N3 G3 B3 V3
        have gr := G4.out.drew.row
        have hol := HL.out
        have il : (le64 (BitVec.ofNat 64 Q) ++ nonce.drop 16).length = 16 := by simp [hn]
        obtain ⟨inn, hin⟩ : ∃ inn, inn = le64 (BitVec.ofNat 64 Q) ++ nonce.drop 16 := ⟨_, rfl⟩
        rw [← hin] at W4 il
        obtain ⟨a4, c4, rfl, hr4, _⟩ := W4.out.rd
        rw [il] at hr4 ⊢
        have HIN := Lib.hid hin
        clear hin hm
        go_upto_region 8 with fail
        refine wp_region_made [1,0,1,0] [2,0] [] (by kernel_rfl) (by kernel_rfl) (by kernel_rfl) (by kernel_rfl) (fun p hp => by cases hp) (fun C hC0 hCb hCn K2 hK2 => ?_)
        have RB : ∀ w1, C w1 → rowAt w1 g = A8 own := fun w1 h => (G4.out.drew.belowAll (hCb w1 h)).row
        have hbk : blk inn = inn := blk_same _ il
        repeat
          first
            | (with_reducible refine y_made ?_)
            | ((with_reducible refine y_obl (v := ?_) (a' := ?_) ?_ (fun _ => ?_) ?_ ?_); rotate_left; rotate_left; (focus (exact rfl)); (focus (go_simp; (try go_bits); exact rfl)); (focus (simp only [Act.put, List.setIfInBounds_toArray, List.set_cons_succ, List.set_cons_zero, Act.eval, Array.getD_eq_getD_getElem?, List.getElem?_toArray, List.getElem?_cons_succ, List.getElem?_cons_zero, Option.getD_some]; exact rfl)))
            | ((with_reducible refine y_read (v := ?_) (a' := ?_) ?_ (fun _ hcw => ?_) ?_ ?_); rotate_left; rotate_left; (focus (exact rfl)); (focus (have f := RB _ hcw; go_simp; (try go_bits); exact rfl)); (focus (simp only [Act.put, List.setIfInBounds_toArray, List.set_cons_succ, List.set_cons_zero, Act.eval, Array.getD_eq_getD_getElem?, List.getElem?_toArray, List.getElem?_cons_succ, List.getElem?_cons_zero, Option.getD_some]; exact rfl)))
            | ((with_reducible refine y_skip (a' := ?_) ?_ ?_ ?_); rotate_left; (focus (exact rfl)); (focus (simp only [Act.put, List.setIfInBounds_toArray, List.set_cons_succ, List.set_cons_zero, Act.eval, Array.getD_eq_getD_getElem?, List.getElem?_toArray, List.getElem?_cons_succ, List.getElem?_cons_zero, Option.getD_some]; exact rfl)))
            | ((with_reducible refine y_skip1 (a' := ?_) ?_ ?_ ?_); rotate_left; (focus (exact rfl)); (focus (simp only [Act.put, List.setIfInBounds_toArray, List.set_cons_succ, List.set_cons_zero, Act.eval, Array.getD_eq_getD_getElem?, List.getElem?_toArray, List.getElem?_cons_succ, List.getElem?_cons_zero, Option.getD_some]; exact rfl)))
        ((with_reducible refine y_call (v := ?_) (a' := ?_) ?_ (fun wq hcw => ?_) ?_ ?_); rotate_left; rotate_left)
        · exact rfl
        · go_simp
          refine entersB_of ?_
          exact refBlock16_any inn a4 16 c4 _ (hr4.drew.below (hCb _ hcw)) (by omega)
        · (simp only [Act.put, List.setIfInBounds_toArray, List.set_cons_succ, List.set_cons_zero, Act.eval, Array.getD_eq_getD_getElem?, List.getElem?_toArray, List.getElem?_cons_succ, List.getElem?_cons_zero, Option.getD_some]; exact rfl)
        rw [hbk]
        repeat
          first
            | (with_reducible refine y_made ?_)
            | ((with_reducible refine y_obl (v := ?_) (a' := ?_) ?_ (fun _ => ?_) ?_ ?_); rotate_left; rotate_left; (focus (exact rfl)); (focus (go_simp; (try go_bits); exact rfl)); (focus (simp only [Act.put, List.setIfInBounds_toArray, List.set_cons_succ, List.set_cons_zero, Act.eval, Array.getD_eq_getD_getElem?, List.getElem?_toArray, List.getElem?_cons_succ, List.getElem?_cons_zero, Option.getD_some]; exact rfl)))
            | ((with_reducible refine y_read (v := ?_) (a' := ?_) ?_ (fun _ hcw => ?_) ?_ ?_); rotate_left; rotate_left; (focus (exact rfl)); (focus (have f := RB _ hcw; go_simp; (try go_bits); exact rfl)); (focus (simp only [Act.put, List.setIfInBounds_toArray, List.set_cons_succ, List.set_cons_zero, Act.eval, Array.getD_eq_getD_getElem?, List.getElem?_toArray, List.getElem?_cons_succ, List.getElem?_cons_zero, Option.getD_some]; exact rfl)))
            | ((with_reducible refine y_skip (a' := ?_) ?_ ?_ ?_); rotate_left; (focus (exact rfl)); (focus (simp only [Act.put, List.setIfInBounds_toArray, List.set_cons_succ, List.set_cons_zero, Act.eval, Array.getD_eq_getD_getElem?, List.getElem?_toArray, List.getElem?_cons_succ, List.getElem?_cons_zero, Option.getD_some]; exact rfl)))
            | ((with_reducible refine y_skip1 (a' := ?_) ?_ ?_ ?_); rotate_left; (focus (exact rfl)); (focus (simp only [Act.put, List.setIfInBounds_toArray, List.set_cons_succ, List.set_cons_zero, Act.eval, Array.getD_eq_getD_getElem?, List.getElem?_toArray, List.getElem?_cons_succ, List.getElem?_cons_zero, Option.getD_some]; exact rfl)))
        refine y_nil (show fin _ _ _ [] _ _ from fun w5 hc5 _ => ?_)
        have hb5 := hCb _ hc5
        (with_reducible refine z_callw rfl ?_)
        go_simp
        refine entersW_of ?_
        refine (refBlock_any own inn r w5 HL.out il hr0 hr20).mono ?_
        rintro e w6 ⟨v6, rfl, o6, b6⟩
        refine ⟨_, rfl, ?_⟩
        try simp only [Act.put, List.setIfInBounds_toArray, List.set_cons_succ, List.set_cons_zero]
        repeat
          first
            | ((with_reducible refine z_move (a' := ?_) ?_ ?_); rotate_left; · (simp only [Act.put, List.setIfInBounds_toArray, List.set_cons_succ, List.set_cons_zero, Act.eval, Array.getD_eq_getD_getElem?, List.getElem?_toArray, List.getElem?_cons_succ, List.getElem?_cons_zero, Option.getD_some]; exact rfl))
            | ((with_reducible refine z_assign (a' := ?_) ?_ ?_); rotate_left; · (simp only [Act.put, List.setIfInBounds_toArray, List.set_cons_succ, List.set_cons_zero, Act.eval, Array.getD_eq_getD_getElem?, List.getElem?_toArray, List.getElem?_cons_succ, List.getElem?_cons_zero, Option.getD_some]; exact rfl))
            | ((with_reducible refine z_obl (v := ?_) (a' := ?_) rfl (fun _ => ?_) ?_ ?_); rotate_left; rotate_left; (focus (go_simp; (try go_bits); exact rfl)); (focus (simp only [Act.put, List.setIfInBounds_toArray, List.set_cons_succ, List.set_cons_zero, Act.eval, Array.getD_eq_getD_getElem?, List.getElem?_toArray, List.getElem?_cons_succ, List.getElem?_cons_zero, Option.getD_some]; exact rfl)))
            | ((with_reducible refine z_read (v := ?_) (a' := ?_) rfl ?_ ?_ ?_); rotate_left; rotate_left; (focus (go_simp; (try go_bits); exact rfl)); (focus (simp only [Act.put, List.setIfInBounds_toArray, List.set_cons_succ, List.set_cons_zero, Act.eval, Array.getD_eq_getD_getElem?, List.getElem?_toArray, List.getElem?_cons_succ, List.getElem?_cons_zero, Option.getD_some]; exact rfl)))
        refine z_nil (hK2 _ _ ?_)
        have b56 := hb5.trans (b6.mono hb5.size)
        have ev : blockOf (startTo own inn 4) (r.toNat / 2) = numbered own nonce (r.toNat / 2) (j / 64) := by rw [HIN.out, HQ.out]; rfl
        rw [ev] at o6
        have hl5 := hb5.size
        have hl4 : w4.drew.heap.size = w4.heap.size := rfl
        have N9 := Lib.hid (N4.out.drew.belowAll b56)
        have G9 := Lib.hid (G4.out.drew.belowAll b56)
        have O9 := Lib.hid (O4.out.drew.below b56)
        have V9 := Lib.hid (o6.base (show g + 1 ≤ w5.heap.size by simp at hl5 hlt3; omega))
        have S9 := Lib.hid (show ∀ k, u10.ownBlock = some k → v6.ownBlock ≠ some k from fun k h1 h2 => by
          have h3 := (World.ownsRow.lt O3.out k h1).2
          have h4 := (World.ownsRow.lt o6 k h2).1
          simp at hl5 hlt3
          omega)
        have B9 := Lib.hid (B4.out.drew.trans (b56.mono B4.out.size))
        clear b56 o6 b6 hb5 hr4 hC0 hCb hCn RB hc5 hK2 N4 G4 O4 B4 W4 O3 hbk ev
        obtain ⟨R, hR⟩ : ∃ R, R = j % 64 := ⟨_, rfl⟩
        have rr : (j : Int) % 64 = (R : Int) := by omega
        have r64 : (R : Int) < 64 := by omega
        have r00 : (0 : Int) ≤ (R : Int) := by omega
        obtain ⟨b', o', rfl, hlt', hc'⟩ := (HR.out.below B9.out).2.2.2 (by omega)
        have cc1 : w6.drew.cell? ⟨b', o' + j, none⟩ = some (v8 (nth l j)) := hc' j hjn
        have hnl := numbered_length own nonce (r.toNat / 2) (j / 64)
        obtain ⟨g9, c9, rfl, hg9, hlt9⟩ := V9.out.form (by rw [hnl]; omega)
        have cc2 : w6.drew.cell? ⟨g9, R, none⟩ = some (v8 (nth (numbered own nonce (r.toNat / 2) (j / 64)) R)) := V9.out.drew.cell R (by rw [hnl]; omega)
        rw [hnl]
        have HR9 := Lib.hid hR
        obtain ⟨BL, hBL⟩ : ∃ BL, BL = numbered own nonce (r.toNat / 2) (j / 64) := ⟨_, rfl⟩
        rw [← hBL] at cc2
        have HBL := Lib.hid hBL
        have HNL := Lib.hid hnl
        clear hc' hR hBL hnl q1
        go_upto_region 9 with fail
        refine wp_region_text3' [0,0,0,0,1,0,0,0,0,1,0,2,2,0] (by kernel_rfl) (by kernel_rfl) (fun ops' K2 hK2 => ?_)
        repeat
          first
            | ((with_reducible refine z_move (a' := ?_) ?_ ?_); rotate_left; · (simp only [Act.put, List.setIfInBounds_toArray, List.set_cons_succ, List.set_cons_zero, Act.eval, Array.getD_eq_getD_getElem?, List.getElem?_toArray, List.getElem?_cons_succ, List.getElem?_cons_zero, Option.getD_some]; exact rfl))
            | ((with_reducible refine z_assign (a' := ?_) ?_ ?_); rotate_left; · (simp only [Act.put, List.setIfInBounds_toArray, List.set_cons_succ, List.set_cons_zero, Act.eval, Array.getD_eq_getD_getElem?, List.getElem?_toArray, List.getElem?_cons_succ, List.getElem?_cons_zero, Option.getD_some]; exact rfl))
            | ((with_reducible refine z_obl (v := ?_) (a' := ?_) rfl (fun _ => ?_) ?_ ?_); rotate_left; rotate_left; (focus (go_simp; (try go_bits); exact rfl)); (focus (simp only [Act.put, List.setIfInBounds_toArray, List.set_cons_succ, List.set_cons_zero, Act.eval, Array.getD_eq_getD_getElem?, List.getElem?_toArray, List.getElem?_cons_succ, List.getElem?_cons_zero, Option.getD_some]; exact rfl)))
            | ((with_reducible refine z_read (v := ?_) (a' := ?_) rfl ?_ ?_ ?_); rotate_left; rotate_left; (focus (go_simp; (try go_bits); exact rfl)); (focus (simp only [Act.put, List.setIfInBounds_toArray, List.set_cons_succ, List.set_cons_zero, Act.eval, Array.getD_eq_getD_getElem?, List.getElem?_toArray, List.getElem?_cons_succ, List.getElem?_cons_zero, Option.getD_some]; exact rfl)))
        refine z_build1 rfl Try.underlying22 info8 (fun w7 b7 hr7 hb7 => ?_)
        simp only [Act.put, List.setIfInBounds_toArray, List.set_cons_succ, List.set_cons_zero]
        refine z_append8p (O9.out.drew.below hb7) hr7 rfl rfl Try.underlying22 info8 (by rw [List.length_take, OL.out]; omega) (by have h1 : g < w6.drew.heap.size := G9.out.lt; have h2 := hb7.size; omega) (fun w8 v8' o8 g8 b8 p8 => ?_)
        simp only [Act.put, List.setIfInBounds_toArray, List.set_cons_succ, List.set_cons_zero]
        repeat
          first
            | ((with_reducible refine z_move (a' := ?_) ?_ ?_); rotate_left; · (simp only [Act.put, List.setIfInBounds_toArray, List.set_cons_succ, List.set_cons_zero, Act.eval, Array.getD_eq_getD_getElem?, List.getElem?_toArray, List.getElem?_cons_succ, List.getElem?_cons_zero, Option.getD_some]; exact rfl))
            | ((with_reducible refine z_assign (a' := ?_) ?_ ?_); rotate_left; · (simp only [Act.put, List.setIfInBounds_toArray, List.set_cons_succ, List.set_cons_zero, Act.eval, Array.getD_eq_getD_getElem?, List.getElem?_toArray, List.getElem?_cons_succ, List.getElem?_cons_zero, Option.getD_some]; exact rfl))
            | ((with_reducible refine z_obl (v := ?_) (a' := ?_) rfl (fun _ => ?_) ?_ ?_); rotate_left; rotate_left; (focus (go_simp; (try go_bits); exact rfl)); (focus (simp only [Act.put, List.setIfInBounds_toArray, List.set_cons_succ, List.set_cons_zero, Act.eval, Array.getD_eq_getD_getElem?, List.getElem?_toArray, List.getElem?_cons_succ, List.getElem?_cons_zero, Option.getD_some]; exact rfl)))
            | ((with_reducible refine z_read (v := ?_) (a' := ?_) rfl ?_ ?_ ?_); rotate_left; rotate_left; (focus (go_simp; (try go_bits); exact rfl)); (focus (simp only [Act.put, List.setIfInBounds_toArray, List.set_cons_succ, List.set_cons_zero, Act.eval, Array.getD_eq_getD_getElem?, List.getElem?_toArray, List.getElem?_cons_succ, List.getElem?_cons_zero, Option.getD_some]; exact rfl)))
        refine z_nil (hK2 _ _ ?_)
        have e8 : OUT.take j ++ [nth l j ^^^ nth BL R] = OUT.take (j + 1) := by
          rw [take_succ_nth OUT j (by rw [OL.out]; exact hjn), ON.out j hjn, HBL.out, HR9.out]
        rw [e8] at o8
        have V10 : (j + 1) % 64 ≠ 0 → Own8 w8 (g + 1) 5 (.slice (some ⟨g9, 0, none⟩) 64 c9) (numbered own nonce (r.toNat / 2) ((j + 1) / 64)) ∧ ∀ k, v8'.ownBlock = some k → Value.ownBlock (.slice (some ⟨g9, 0, none⟩) 64 c9) ≠ some k := by
          intro hmod
          have hq : (j + 1) / 64 = j / 64 := by omega
          rw [hq]
          have hv := V9.out
          rw [HNL.out] at hv
          refine ⟨(hv.drew.below hb7).kept g8 ?_, fun k hk => ?_⟩
          · refine .inr fun e => ?_
            have h1 := S9.out g9 e.symm
            exact h1 rfl
          · rcases p8 k hk with h1 | h1
            · have := S9.out k h1
              rw [HNL.out] at this
              exact this
            · intro h2
              have h3 : g9 = k := by simpa [Value.ownBlock] using h2
              have h4 := hb7.size
              have h5 : g9 < w6.drew.heap.size := hlt9
              omega
        have N10 := Lib.hid ((N9.out.drew.belowAll hb7).grown g8 ((O9.out.drew.below hb7).apart (by omega)))
        have G10 := Lib.hid ((G9.out.drew.belowAll hb7).grown g8 ((O9.out.drew.below hb7).apart (by omega)))
        have O10 := Lib.hid o8
        have VV := Lib.hid V10
        have d10 := B9.out.drew.trans (hb7.mono B9.out.size)
        have B10 := Lib.hid (d10.trans (b8.mono (by omega)))
        clear o8 g8 b8 p8 e8 V10 hb7 hr7 cc1 cc2 d10 hK2 hlt' hlt9
        go_wp2
        exact ⟨⟨j + 1, by omega, by go_num, N10.out, G10.out, O10.out, VV.out, B10.out⟩, by simp [intOf]; omega⟩
      · have hm' : j % 64 ≠ 0 := by omega
        obtain ⟨hv9, hs9⟩ := V3.out hm'
        have N9 := N3
        have G9 := G3
        have O9 := O3
        have V9 := Lib.hid hv9
        have S9 := Lib.hid hs9
        have B9 := B3
        clear hm' hv9 hs9 N3 G3 O3 V3 B3
        go_upto_region 9 with fail
        clear hm
        obtain ⟨R, hR⟩ : ∃ R, R = j % 64 := ⟨_, rfl⟩
        have rr : (j : Int) % 64 = (R : Int) := by omega
        have r64 : (R : Int) < 64 := by omega
        have r00 : (0 : Int) ≤ (R : Int) := by omega
        obtain ⟨b', o', rfl, hlt', hc'⟩ := (HR.out.below B9.out).2.2.2 (by omega)
        have cc1 : wr.drew.cell? ⟨b', o' + j, none⟩ = some (v8 (nth l j)) := hc' j hjn
        have hnl := numbered_length own nonce (r.toNat / 2) (j / 64)
        obtain ⟨g9, c9, rfl, hg9, hlt9⟩ := V9.out.form (by rw [hnl]; omega)
        have cc2 : wr.drew.cell? ⟨g9, R, none⟩ = some (v8 (nth (numbered own nonce (r.toNat / 2) (j / 64)) R)) := V9.out.drew.cell R (by rw [hnl]; omega)
        rw [hnl]
        have HR9 := Lib.hid hR
        obtain ⟨BL, hBL⟩ : ∃ BL, BL = numbered own nonce (r.toNat / 2) (j / 64) := ⟨_, rfl⟩
        rw [← hBL] at cc2
        have HBL := Lib.hid hBL
        have HNL := Lib.hid hnl
        clear hc' hR hBL hnl q1
        go_upto_region 9 with fail
        refine wp_region_text3' [0,0,0,0,1,0,0,0,0,1,0,2,2,0] (by kernel_rfl) (by kernel_rfl) (fun ops' K2 hK2 => ?_)
        repeat
          first
            | ((with_reducible refine z_move (a' := ?_) ?_ ?_); rotate_left; · (simp only [Act.put, List.setIfInBounds_toArray, List.set_cons_succ, List.set_cons_zero, Act.eval, Array.getD_eq_getD_getElem?, List.getElem?_toArray, List.getElem?_cons_succ, List.getElem?_cons_zero, Option.getD_some]; exact rfl))
            | ((with_reducible refine z_assign (a' := ?_) ?_ ?_); rotate_left; · (simp only [Act.put, List.setIfInBounds_toArray, List.set_cons_succ, List.set_cons_zero, Act.eval, Array.getD_eq_getD_getElem?, List.getElem?_toArray, List.getElem?_cons_succ, List.getElem?_cons_zero, Option.getD_some]; exact rfl))
            | ((with_reducible refine z_obl (v := ?_) (a' := ?_) rfl (fun _ => ?_) ?_ ?_); rotate_left; rotate_left; (focus (go_simp; (try go_bits); exact rfl)); (focus (simp only [Act.put, List.setIfInBounds_toArray, List.set_cons_succ, List.set_cons_zero, Act.eval, Array.getD_eq_getD_getElem?, List.getElem?_toArray, List.getElem?_cons_succ, List.getElem?_cons_zero, Option.getD_some]; exact rfl)))
            | ((with_reducible refine z_read (v := ?_) (a' := ?_) rfl ?_ ?_ ?_); rotate_left; rotate_left; (focus (go_simp; (try go_bits); exact rfl)); (focus (simp only [Act.put, List.setIfInBounds_toArray, List.set_cons_succ, List.set_cons_zero, Act.eval, Array.getD_eq_getD_getElem?, List.getElem?_toArray, List.getElem?_cons_succ, List.getElem?_cons_zero, Option.getD_some]; exact rfl)))
        refine z_build1 rfl Try.underlying22 info8 (fun w7 b7 hr7 hb7 => ?_)
        simp only [Act.put, List.setIfInBounds_toArray, List.set_cons_succ, List.set_cons_zero]
        refine z_append8p (O9.out.drew.below hb7) hr7 rfl rfl Try.underlying22 info8 (by rw [List.length_take, OL.out]; omega) (by have h1 : g < wr.drew.heap.size := G9.out.lt; have h2 := hb7.size; omega) (fun w8 v8' o8 g8 b8 p8 => ?_)
        simp only [Act.put, List.setIfInBounds_toArray, List.set_cons_succ, List.set_cons_zero]
        repeat
          first
            | ((with_reducible refine z_move (a' := ?_) ?_ ?_); rotate_left; · (simp only [Act.put, List.setIfInBounds_toArray, List.set_cons_succ, List.set_cons_zero, Act.eval, Array.getD_eq_getD_getElem?, List.getElem?_toArray, List.getElem?_cons_succ, List.getElem?_cons_zero, Option.getD_some]; exact rfl))
            | ((with_reducible refine z_assign (a' := ?_) ?_ ?_); rotate_left; · (simp only [Act.put, List.setIfInBounds_toArray, List.set_cons_succ, List.set_cons_zero, Act.eval, Array.getD_eq_getD_getElem?, List.getElem?_toArray, List.getElem?_cons_succ, List.getElem?_cons_zero, Option.getD_some]; exact rfl))
            | ((with_reducible refine z_obl (v := ?_) (a' := ?_) rfl (fun _ => ?_) ?_ ?_); rotate_left; rotate_left; (focus (go_simp; (try go_bits); exact rfl)); (focus (simp only [Act.put, List.setIfInBounds_toArray, List.set_cons_succ, List.set_cons_zero, Act.eval, Array.getD_eq_getD_getElem?, List.getElem?_toArray, List.getElem?_cons_succ, List.getElem?_cons_zero, Option.getD_some]; exact rfl)))
            | ((with_reducible refine z_read (v := ?_) (a' := ?_) rfl ?_ ?_ ?_); rotate_left; rotate_left; (focus (go_simp; (try go_bits); exact rfl)); (focus (simp only [Act.put, List.setIfInBounds_toArray, List.set_cons_succ, List.set_cons_zero, Act.eval, Array.getD_eq_getD_getElem?, List.getElem?_toArray, List.getElem?_cons_succ, List.getElem?_cons_zero, Option.getD_some]; exact rfl)))
        refine z_nil (hK2 _ _ ?_)
        have e8 : OUT.take j ++ [nth l j ^^^ nth BL R] = OUT.take (j + 1) := by
          rw [take_succ_nth OUT j (by rw [OL.out]; exact hjn), ON.out j hjn, HBL.out, HR9.out]
        rw [e8] at o8
        have V10 : (j + 1) % 64 ≠ 0 → Own8 w8 (g + 1) 5 (.slice (some ⟨g9, 0, none⟩) 64 c9) (numbered own nonce (r.toNat / 2) ((j + 1) / 64)) ∧ ∀ k, v8'.ownBlock = some k → Value.ownBlock (.slice (some ⟨g9, 0, none⟩) 64 c9) ≠ some k := by
          intro hmod
          have hq : (j + 1) / 64 = j / 64 := by omega
          rw [hq]
          have hv := V9.out
          rw [HNL.out] at hv
          refine ⟨(hv.drew.below hb7).kept g8 ?_, fun k hk => ?_⟩
          · refine .inr fun e => ?_
            have h1 := S9.out g9 e.symm
            exact h1 rfl
          · rcases p8 k hk with h1 | h1
            · have := S9.out k h1
              rw [HNL.out] at this
              exact this
            · intro h2
              have h3 : g9 = k := by simpa [Value.ownBlock] using h2
              have h4 := hb7.size
              have h5 : g9 < wr.drew.heap.size := hlt9
              omega
        have N10 := Lib.hid ((N9.out.drew.belowAll hb7).grown g8 ((O9.out.drew.below hb7).apart (by omega)))
        have G10 := Lib.hid ((G9.out.drew.belowAll hb7).grown g8 ((O9.out.drew.below hb7).apart (by omega)))
        have O10 := Lib.hid o8
        have VV := Lib.hid V10
        have d10 := B9.out.drew.trans (hb7.mono B9.out.size)
        have B10 := Lib.hid (d10.trans (b8.mono (by omega)))
        clear o8 g8 b8 p8 e8 V10 hb7 hr7 cc1 cc2 d10 hK2 hlt' hlt9
        go_wp2
        exact ⟨⟨j + 1, by omega, by go_num, N10.out, G10.out, O10.out, VV.out, B10.out⟩, by simp [intOf]; omega⟩
    · obtain rfl : j = n := by omega
      have hO := O3.out
      rw [List.take_of_length_le (by rw [OL.out]; omega)] at hO
      have O4 := Lib.hid (hO.base (show w.heap.size ≤ g + 1 by omega))
      clear hO O3
      go_wp2
      go_ret
      exact ⟨_, rfl, O4.out, B3.out⟩
end Go.Proofs.Ythogbbigglmapaa
