/- chacha: Crypt -/
import Derived.Test.YthogbbigglmapaaCha6
import Derived.Test.YthogbbigglmapaaStr
import Derived.Test.YthogbbigglmapaaJump
import Derived.WalkMore
import Derived.Test.YthogbbigglmapaaStill2
namespace Go.Proofs.Ythogbbigglmapaa
open Go.RowKit
/-- bytes with a stream, given by its blocks -/
def streamOf (f : Nat → List (BitVec 8)) (b : List (BitVec 8)) : List (BitVec 8) := (List.range b.length).map fun i => nth b i ^^^ nth (f (i / 64)) (i % 64)
/-- the short key of a key and a nonce -/
def ownOf (key nonce : List (BitVec 8)) (n : Nat) : List (BitVec 8) := shortOf (mixTo (startTo key (nonce.take 16) 4) n)
/-- the block numbered so -/
def numbered (own nonce : List (BitVec 8)) (n : Nat) (m : Nat) : List (BitVec 8) := blockOf (startTo own (le64 (BitVec.ofNat 64 m) ++ nonce.drop 16) 4) n
def cryptOf (key nonce : List (BitVec 8)) (r : Nat) (b : List (BitVec 8)) : List (BitVec 8) := streamOf (numbered (ownOf key nonce (r / 2)) nonce (r / 2)) b
/-- how long a slice is -/
def sliceLen : Value → Nat
  | .slice _ n _ => n
  | _ => 0
theorem streamOf_length (f : Nat → List (BitVec 8)) (b : List (BitVec 8)) : (streamOf f b).length = b.length := by simp [streamOf]
theorem nth_streamOf (f : Nat → List (BitVec 8)) (b : List (BitVec 8)) (i : Nat) (h : i < b.length) : nth (streamOf f b) i = nth b i ^^^ nth (f (i / 64)) (i % 64) := by
  simp [nth, streamOf, List.getD_eq_getElem?_getD, h]
theorem streamOf_step (f : Nat → List (BitVec 8)) (b : List (BitVec 8)) (m : Nat) (hf : (f m).length = 64) : (streamOf f b).take (64 * m) ++ xorl (b.drop (64 * m)) (f m) = (streamOf f b).take (64 * (m + 1)) := by
  have hl := streamOf_length f b
  have hx := xorl_length (b.drop (64 * m)) (f m)
  rw [hf, List.length_drop] at hx
  apply ext_nth
  · simp [hl, hx]; omega
  · intro i hi
    simp [hl, hx] at hi
    rw [nth_append, List.length_take, hl, nth_take (streamOf f b) _ _ (show i < 64 * (m + 1) by omega), nth_streamOf f b i (by omega)]
    by_cases h : i < 64 * m
    · rw [if_pos (by omega), nth_take _ _ _ h, nth_streamOf f b i (by omega)]
    · have e1 : i / 64 = m := by omega
      have e2 : i % 64 = i - 64 * m := by omega
      rw [if_neg (by omega), show min (64 * m) b.length = 64 * m by omega, nth_xorl _ _ _ (by rw [hf, List.length_drop]; omega), nth_drop, show 64 * m + (i - 64 * m) = i by omega, e1, e2]
def CryptJ (w : World) (key nonce own l : List (BitVec 8)) (r : Int) (a' : Act) (w' : World) : Prop :=
  ∃ (m n : Nat) (y : BitVec 64) (a : Option Addr) (c : Nat) (v : Value) (x : List (BitVec 8)) (g gi : Nat), (∃ u : Nat → Value, a' = { tmps := (fun u : Nat → Value => #[.agg (A8 key), .agg (A8 nonce), .int .i64 r, .slice a n c, .pointer (some ⟨w.heap.size, 0, none⟩), .pointer (some ⟨w.heap.size + 1, 0, none⟩), u 6, u 7, .slice none 0 0, .int .i64 0, .pointer (some ⟨g, 0, none⟩), .int .i64 0, .pointer (some ⟨gi, 0, none⟩), v, v64 y, u 15, u 16, u 17, u 18, u 19, u 20, u 21, u 22, u 23, u 24, u 25, u 26, u 27, u 28, u 29, u 30, u 31, u 32, u 33, u 34, u 35, u 36, u 37, u 38, u 39, u 40, u 41, u 42, u 43, u 44, u 45, u 46, u 47, u 48, u 49, u 50, u 51, u 52, u 53, u 54, u 55, u 56, u 57, u 58, u 59, u 60, u 61, u 62, u 63, u 64]) u, defers := [] }) ∧
    y = BitVec.ofNat 64 m ∧ n = l.length - 64 * m ∧ Rd8 w a n c (l.drop (64 * m)) ∧ x.length = 8 ∧ Blk w' g 35 (A8 own) ∧ Blk w' gi 36 (A8 (x ++ nonce.drop 16)) ∧ Own8 w' (gi + 1) 5 v ((cryptOf key nonce r.toNat l).take (64 * m)) ∧ Below w.heap.size w w' ∧ w.heap.size + 1 < g ∧ g < gi
set_option linter.unusedSimpArgs false in
set_option maxRecDepth 100000 in
set_option maxHeartbeats 800000 in
theorem crypt_yes (key nonce l : List (BitVec 8)) (r : Int) (a : Option Addr) (n c : Nat) (w : World) (hk : key.length = 32) (hn : nonce.length = 24) (h : r = 8 ∨ r = 12 ∨ r = 20) (hr : Rd8 w a n c l) (hsz : n ≤ 140737488355328) :
    Calls Try.prog 39 #[.agg (A8 key), .agg (A8 nonce), .int .i64 r, .slice a n c] w fun e w' => ∃ v, e = .returned (.tuple #[v, .int .i64 0]) ∧ Own8 w' w.heap.size 5 v (cryptOf key nonce r.toNat l) ∧ Below w.heap.size w w' := by
  go_enter Try.func39, Try.ntmps39
  go_wp2
  have Hr := Lib.hid hr
  refine wp_scope_enter 0 (CryptJ w key nonce (ownOf key nonce (r.toNat / 2)) l r) (fun a' _ => sliceLen (a'.tmps.getD 3 undef)) rfl (fun hrest => ?_) ?_
  · go_wp2
    obtain ⟨W, hW⟩ : ∃ W, (w.alloc (.cells (A8 key) 35)).alloc (.cells (A8 nonce) 64) = W := ⟨_, rfl⟩
    obtain ⟨b0, b1, hb, hz⟩ := new2 _ _ _ _ _ _ hW
    rw [hW]
    refine wp_region_made [1,0,0,1,0,1,0,0,0,9] [2,0] [(9, .cells (A8 (zeros 8 32)) 35)] (by kernel_rfl) (by kernel_rfl) (by kernel_rfl) (by kernel_rfl) ?_ (fun C hC0 hCb hCn K' hK' => ?_)
    · intro p hp o ho
      simp only [List.mem_singleton] at hp
      subst hp
      simp at ho
      subst ho
      exact ⟨rfl, fun a w => by go_simp⟩
    have R0 : ∀ w1, C w1 → rowAt w1 w.heap.size = A8 key := fun w1 h => (b0.drew.belowAll (hCb w1 h)).row
    have R1 : ∀ w1, C w1 → rowAt w1 (w.heap.size + 1) = A8 nonce := fun w1 h => (b1.drew.belowAll (hCb w1 h)).row
    repeat
      first
        | (with_reducible refine y_made ?_)
        | ((with_reducible refine y_obl (v := ?_) (a' := ?_) ?_ (fun _ => ?_) ?_ ?_); rotate_left; rotate_left; (focus (exact rfl)); (focus (go_simp; (try go_bits); exact rfl)); (focus (simp only [Act.put, List.setIfInBounds_toArray, List.set_cons_succ, List.set_cons_zero, Act.eval, Array.getD_eq_getD_getElem?, List.getElem?_toArray, List.getElem?_cons_succ, List.getElem?_cons_zero, Option.getD_some]; exact rfl)))
        | ((with_reducible refine y_read (v := ?_) (a' := ?_) ?_ (fun _ hcw => ?_) ?_ ?_); rotate_left; rotate_left; (focus (exact rfl)); (focus (have f := R0 _ hcw; have f' := R1 _ hcw; go_simp; (try go_bits); exact rfl)); (focus (simp only [Act.put, List.setIfInBounds_toArray, List.set_cons_succ, List.set_cons_zero, Act.eval, Array.getD_eq_getD_getElem?, List.getElem?_toArray, List.getElem?_cons_succ, List.getElem?_cons_zero, Option.getD_some]; exact rfl)))
        | ((with_reducible refine y_skip (a' := ?_) ?_ ?_ ?_); rotate_left; (focus (exact rfl)); (focus (simp only [Act.put, List.setIfInBounds_toArray, List.set_cons_succ, List.set_cons_zero, Act.eval, Array.getD_eq_getD_getElem?, List.getElem?_toArray, List.getElem?_cons_succ, List.getElem?_cons_zero, Option.getD_some]; exact rfl)))
        | ((with_reducible refine y_skip1 (a' := ?_) ?_ ?_ ?_); rotate_left; (focus (exact rfl)); (focus (simp only [Act.put, List.setIfInBounds_toArray, List.set_cons_succ, List.set_cons_zero, Act.eval, Array.getD_eq_getD_getElem?, List.getElem?_toArray, List.getElem?_cons_succ, List.getElem?_cons_zero, Option.getD_some]; exact rfl)))
    ((with_reducible refine y_call (v := ?_) (a' := ?_) ?_ (fun wq hcw => ?_) ?_ ?_); rotate_left; rotate_left)
    · exact rfl
    · go_simp
      refine entersB_of ?_
      exact short_yes key (nonce.take 16) r _ hk (by simp [hn]) h
    · (simp only [Act.put, List.setIfInBounds_toArray, List.set_cons_succ, List.set_cons_zero, Act.eval, Array.getD_eq_getD_getElem?, List.getElem?_toArray, List.getElem?_cons_succ, List.getElem?_cons_zero, Option.getD_some]; exact rfl)
    repeat
      first
        | (with_reducible refine y_made ?_)
        | ((with_reducible refine y_obl (v := ?_) (a' := ?_) ?_ (fun _ => ?_) ?_ ?_); rotate_left; rotate_left; (focus (exact rfl)); (focus (go_simp; (try go_bits); exact rfl)); (focus (simp only [Act.put, List.setIfInBounds_toArray, List.set_cons_succ, List.set_cons_zero, Act.eval, Array.getD_eq_getD_getElem?, List.getElem?_toArray, List.getElem?_cons_succ, List.getElem?_cons_zero, Option.getD_some]; exact rfl)))
        | ((with_reducible refine y_read (v := ?_) (a' := ?_) ?_ (fun _ hcw => ?_) ?_ ?_); rotate_left; rotate_left; (focus (exact rfl)); (focus (have f := R0 _ hcw; have f' := R1 _ hcw; go_simp; (try go_bits); exact rfl)); (focus (simp only [Act.put, List.setIfInBounds_toArray, List.set_cons_succ, List.set_cons_zero, Act.eval, Array.getD_eq_getD_getElem?, List.getElem?_toArray, List.getElem?_cons_succ, List.getElem?_cons_zero, Option.getD_some]; exact rfl)))
        | ((with_reducible refine y_skip (a' := ?_) ?_ ?_ ?_); rotate_left; (focus (exact rfl)); (focus (simp only [Act.put, List.setIfInBounds_toArray, List.set_cons_succ, List.set_cons_zero, Act.eval, Array.getD_eq_getD_getElem?, List.getElem?_toArray, List.getElem?_cons_succ, List.getElem?_cons_zero, Option.getD_some]; exact rfl)))
        | ((with_reducible refine y_skip1 (a' := ?_) ?_ ?_ ?_); rotate_left; (focus (exact rfl)); (focus (simp only [Act.put, List.setIfInBounds_toArray, List.set_cons_succ, List.set_cons_zero, Act.eval, Array.getD_eq_getD_getElem?, List.getElem?_toArray, List.getElem?_cons_succ, List.getElem?_cons_zero, Option.getD_some]; exact rfl)))
    refine y_nil (fin_one fun g w1 hgW hcw hg => ?_)
    simp only [Act.put, List.setIfInBounds_toArray, List.set_cons_succ, List.set_cons_zero, List.getElem?_cons_succ, List.getElem?_cons_zero, Option.bind_some]
    have hg' : Blk w1 g 35 (A8 (zeros 8 32)) := hg
    obtain ⟨own, hown⟩ : ∃ own, own = ownOf key nonce (r.toNat / 2) := ⟨_, rfl⟩
    have hol : own.length = 32 := by rw [hown]; exact shortOf_length _ (by rw [mixTo_length, startTo_length])
    rw [show shortOf (mixTo (startTo key (List.take 16 nonce) 4) (r.toNat / 2)) = own from hown.symm]
    refine z_storeRow hg' rfl rfl (by rw [A8_size, A8_size, hol, zeros_length]) (A8_ones _) (by rw [A8_size, hol]; exact Try.sizeOf35 _) (fun w2 hb2 hg2 hs2 => ?_)
    repeat
      first
        | ((with_reducible refine z_move (a' := ?_) ?_ ?_); rotate_left; · (simp only [Act.put, List.setIfInBounds_toArray, List.set_cons_succ, List.set_cons_zero, Act.eval, Array.getD_eq_getD_getElem?, List.getElem?_toArray, List.getElem?_cons_succ, List.getElem?_cons_zero, Option.getD_some]; exact rfl))
        | ((with_reducible refine z_assign (a' := ?_) ?_ ?_); rotate_left; · (simp only [Act.put, List.setIfInBounds_toArray, List.set_cons_succ, List.set_cons_zero, Act.eval, Array.getD_eq_getD_getElem?, List.getElem?_toArray, List.getElem?_cons_succ, List.getElem?_cons_zero, Option.getD_some]; exact rfl))
        | ((with_reducible refine z_obl (v := ?_) (a' := ?_) rfl (fun _ => ?_) ?_ ?_); rotate_left; rotate_left; (focus (go_simp; (try go_bits); exact rfl)); (focus (simp only [Act.put, List.setIfInBounds_toArray, List.set_cons_succ, List.set_cons_zero, Act.eval, Array.getD_eq_getD_getElem?, List.getElem?_toArray, List.getElem?_cons_succ, List.getElem?_cons_zero, Option.getD_some]; exact rfl)))
        | ((with_reducible refine z_read (v := ?_) (a' := ?_) rfl ?_ ?_ ?_); rotate_left; rotate_left; (focus (go_simp; (try go_bits); exact rfl)); (focus (simp only [Act.put, List.setIfInBounds_toArray, List.set_cons_succ, List.set_cons_zero, Act.eval, Array.getD_eq_getD_getElem?, List.getElem?_toArray, List.getElem?_cons_succ, List.getElem?_cons_zero, Option.getD_some]; exact rfl)))
    refine z_nil (hK' _ _ ?_)
    have c1 := hCb w1 hcw
    have n0 := (b1.drew.belowAll c1).grown hg2 (by simp; omega)
    have hB2 : Below w.heap.size w w2 := (hb.drew.trans (c1.mono (by simp; omega))).trans (grown_below hg2 (by omega) (by have := hb.size; have := c1.size; simp at this; omega))
    clear hC0 hCb hCn R0 R1 hg hg' hg2 hs2 c1 b0 b1 hcw hb
    go_wp2_with fail
    obtain ⟨gi, hgi⟩ : ∃ gi, gi = w2.heap.size := ⟨_, rfl⟩
    have hBi := hB2.alloc hB2.size (.cells (A8 (zeros 8 16)) 36)
    have m0 := (n0.alloc (.cells (A8 (zeros 8 16)) 36))
    have mo := (hb2.alloc (.cells (A8 (zeros 8 16)) 36))
    have mi := Blk.new w2 36 (A8 (zeros 8 16))
    have hlg := hb2.lt
    have hln := n0.lt
    rw [← hgi] at mi hlg hln
    rw [← hgi]
    generalize (w2.alloc (.cells (A8 (zeros 8 16)) 36)) = w3 at *
    have hgl : w.heap.size + 1 < g := by omega
    clear hgi hgW hW hz hB2 n0 hb2
    refine wp_region_text' [0,0,2] (by kernel_rfl) (by kernel_rfl) (fun ops' K2 hK2 => ?_)
    repeat
      first
        | ((with_reducible refine z_move (a' := ?_) ?_ ?_); rotate_left; · (simp only [Act.put, List.setIfInBounds_toArray, List.set_cons_succ, List.set_cons_zero, Act.eval, Array.getD_eq_getD_getElem?, List.getElem?_toArray, List.getElem?_cons_succ, List.getElem?_cons_zero, Option.getD_some]; exact rfl))
        | ((with_reducible refine z_assign (a' := ?_) ?_ ?_); rotate_left; · (simp only [Act.put, List.setIfInBounds_toArray, List.set_cons_succ, List.set_cons_zero, Act.eval, Array.getD_eq_getD_getElem?, List.getElem?_toArray, List.getElem?_cons_succ, List.getElem?_cons_zero, Option.getD_some]; exact rfl))
        | ((with_reducible refine z_obl (v := ?_) (a' := ?_) rfl (fun _ => ?_) ?_ ?_); rotate_left; rotate_left; (focus (go_simp; (try go_bits); exact rfl)); (focus (simp only [Act.put, List.setIfInBounds_toArray, List.set_cons_succ, List.set_cons_zero, Act.eval, Array.getD_eq_getD_getElem?, List.getElem?_toArray, List.getElem?_cons_succ, List.getElem?_cons_zero, Option.getD_some]; exact rfl)))
        | ((with_reducible refine z_read (v := ?_) (a' := ?_) rfl ?_ ?_ ?_); rotate_left; rotate_left; (focus (go_simp; (try go_bits); exact rfl)); (focus (simp only [Act.put, List.setIfInBounds_toArray, List.set_cons_succ, List.set_cons_zero, Act.eval, Array.getD_eq_getD_getElem?, List.getElem?_toArray, List.getElem?_cons_succ, List.getElem?_cons_zero, Option.getD_some]; exact rfl)))
    have rn := ((m0.drew.rd8 24 (by omega) (by rw [hn]; unfold maxLen; omega)).cut (j := 16) (k := 24) (by omega) (by omega))
    rw [hn, if_neg (by omega)] at rn
    refine z_copy8 mi.drew rn rfl rfl Try.underlying22 size8 (by simp) (fun w4 v4 k4 g4 s4 => ?_)
    refine z_nil (hK2 _ _ ?_)
    have e4 : splc (zeros 8 16) 8 ((((nonce.take 24).take 24).drop 16).take (min (24 - 16) 8)) = zeros 8 8 ++ nonce.drop 16 := by
      rw [List.take_of_length_le (l := nonce) (by omega), List.take_of_length_le (l := nonce) (by omega), List.take_of_length_le (by simp; omega)]
      apply ext_nth
      · rw [splc_length _ _ _ (by simp [hn])]; simp [hn]
      · intro i hi
        rw [nth_splc _ _ _ (by simp [hn]), nth_append]
        simp [hn, nth_zeros]
        by_cases h8 : i < 8
        · rw [if_neg (by omega), if_pos h8]
        · rw [splc_length _ _ _ (by simp [hn])] at hi
          simp at hi
          rw [if_pos (by omega), if_neg h8]
    rw [e4] at k4
    have mo4 := mo.drew.grown g4 (by simp; omega)
    have hB4 := hBi.drew.trans (grown_below g4 (by omega) hBi.size)
    have hmk := run_make8 (P := Try.prog) w4 22 5 0 n Try.underlying22 info8 (by omega) (by omega) (by omega)
    rw [Int.toNat_natCast, Int.toNat_zero] at hmk
    have hln := hr.1
    have h4 := k4.lt
    clear e4 g4 s4 rn m0 mo mi hBi
    go_wp2
    go_step3
    obtain ⟨W4, hW4⟩ : ∃ W4, W4 = w4.alloc (.cells (A8 (zeros 8 n)) 5) := ⟨_, rfl⟩
    have q1 := k4.alloc (.cells (A8 (zeros 8 n)) 5)
    have q2 := mo4.alloc (.cells (A8 (zeros 8 n)) 5)
    have q3 := Own8.made w4 (gi + 1) 5 (zeros 8 n) 0 (by omega) (by simp) (by rw [zeros_length]; unfold maxLen; omega)
    have q4 := hB4.alloc hB4.size (.cells (A8 (zeros 8 n)) 5)
    rw [← hW4] at q1 q2 q3 q4 ⊢
    rw [zeros_length] at q3
    refine ‹∀ (a : Act) (w_1 : World), Code.wp _ _ _ a w_1 → _› _ _ (hrest _ _ ?_)
    refine ⟨0, n, _, a, c, _, zeros 8 8, g, gi, ex_frame _ rfl, rfl, by omega, ?_, by simp, ?_, q1, q3, q4, hgl, hlg⟩
    · rw [Nat.mul_zero, List.drop_zero]; exact hr
    · rw [← hown]; exact q2
  · rintro a' w' ⟨m, n, y, a, c, v, x, g, gi, ⟨u, rfl⟩, hy, hn', hr, hx, hkg, hki, hov, hB, h1, h2⟩
    generalize hown : ownOf key nonce (r.toNat / 2) = own at *
    have hol : own.length = 32 := by rw [← hown]; exact shortOf_length _ (by rw [mixTo_length, startTo_length])
    by_cases hn0 : n = 0
    · have hfin : (cryptOf key nonce r.toNat l).take (64 * m) = cryptOf key nonce r.toNat l := List.take_of_length_le (by rw [cryptOf, streamOf_length]; omega)
      rw [hfin] at hov
      have O := Lib.hid (hov.base (show w.heap.size ≤ gi + 1 by omega))
      have B := Lib.hid hB
      clear hown hol hr hkg hki hov hB hx hn' hfin
      subst hn0
      go_wp2
      simp only [Exit.jump]
      go_ret2
      exact ⟨_, rfl, O.out, B.out⟩
    · have O := Lib.hid hov
      have B := Lib.hid hB
      have R := Lib.hid hr
      have G := Lib.hid hkg
      have I := Lib.hid hki
      have N0 := Lib.hid hn'
      have HO := Lib.hid hown
      have HL := Lib.hid hol
      clear hown hol hr hkg hki hov hB hn'
      have n0 : ¬ (n : Int) = 0 := by omega
      have HY := Lib.hid hy
      clear hy
      go_wp2_with fail
      refine (putlong_any y _).mono ?_
      rintro e w1 ⟨rfl, hb1⟩
      have O1 := Lib.hid ((O.out.below hb1).alloc (.cells (A8 (le64 y)) 72))
      have G1 := Lib.hid ((G.out.belowAll hb1).alloc (.cells (A8 (le64 y)) 72))
      have I1 := Lib.hid ((I.out.belowAll hb1).alloc (.cells (A8 (le64 y)) 72))
      have P1 := Lib.hid (Blk.new w1 72 (A8 (le64 y)))
      have hB1 := B.out.trans (hb1.mono B.out.size)
      have B1 := Lib.hid (hB1.alloc hB1.size (.cells (A8 (le64 y)) 72))
      have hgw := (I.out.belowAll hb1).lt
      clear hb1 hB1 O B G I
      go_wp2_with fail
      generalize w1.alloc (.cells (A8 (le64 y)) 72) = W1 at *
      generalize w1.heap.size = p1 at *
      refine wp_region_text' [0,0,2] (by kernel_rfl) (by kernel_rfl) (fun ops' K2 hK2 => ?_)
      repeat
        first
          | ((with_reducible refine z_move (a' := ?_) ?_ ?_); rotate_left; · (simp only [Act.put, List.setIfInBounds_toArray, List.set_cons_succ, List.set_cons_zero, Act.eval, Array.getD_eq_getD_getElem?, List.getElem?_toArray, List.getElem?_cons_succ, List.getElem?_cons_zero, Option.getD_some]; exact rfl))
          | ((with_reducible refine z_assign (a' := ?_) ?_ ?_); rotate_left; · (simp only [Act.put, List.setIfInBounds_toArray, List.set_cons_succ, List.set_cons_zero, Act.eval, Array.getD_eq_getD_getElem?, List.getElem?_toArray, List.getElem?_cons_succ, List.getElem?_cons_zero, Option.getD_some]; exact rfl))
          | ((with_reducible refine z_obl (v := ?_) (a' := ?_) rfl (fun _ => ?_) ?_ ?_); rotate_left; rotate_left; (focus (go_simp; (try go_bits); exact rfl)); (focus (simp only [Act.put, List.setIfInBounds_toArray, List.set_cons_succ, List.set_cons_zero, Act.eval, Array.getD_eq_getD_getElem?, List.getElem?_toArray, List.getElem?_cons_succ, List.getElem?_cons_zero, Option.getD_some]; exact rfl)))
          | ((with_reducible refine z_read (v := ?_) (a' := ?_) rfl ?_ ?_ ?_); rotate_left; rotate_left; (focus (go_simp; (try go_bits); exact rfl)); (focus (simp only [Act.put, List.setIfInBounds_toArray, List.set_cons_succ, List.set_cons_zero, Act.eval, Array.getD_eq_getD_getElem?, List.getElem?_toArray, List.getElem?_cons_succ, List.getElem?_cons_zero, Option.getD_some]; exact rfl)))
      have rn := P1.out.drew.rd8 8 (by simp) (by simp; unfold maxLen; omega)
      refine z_copy8 I1.out.drew rn rfl rfl Try.underlying22 size8 (by simp [hx]) (fun w2 v2 k2 g2 s2 => ?_)
      refine z_nil (hK2 _ _ ?_)
      have e2 : splc (x ++ nonce.drop 16) 0 (((le64 y).take 8).take (min 8 8)) = le64 y ++ nonce.drop 16 := by
        rw [List.take_of_length_le (l := le64 y) (by simp), List.take_of_length_le (by simp)]
        unfold splc
        rw [List.take_zero, List.nil_append, le64_length, Nat.zero_add, List.drop_left' hx]
      have e2' : splc (x ++ nonce.drop 16) 0 (((le64 y).take 8).take (min 8 8)) = splc (x ++ nonce.drop 16) 0 ((((le64 y)).take 8).take (min 8 8)) := rfl
      rw [List.take_take] at k2
      rw [List.take_take] at e2
      rw [e2] at k2
      have il : (le64 y ++ nonce.drop 16).length = 16 := by simp [hn]
      obtain ⟨inn, hin⟩ : ∃ inn, inn = le64 y ++ nonce.drop 16 := ⟨_, rfl⟩
      rw [← hin] at k2 il
      have O2 := Lib.hid (O1.out.drew.grown g2 (by omega))
      have G2 := Lib.hid (G1.out.drew.grown g2 (by simp; omega))
      have I2 := Lib.hid k2
      have B2 := Lib.hid (B1.out.drew.trans (grown_below g2 (by omega) B1.out.size))
      have r1 := G2.out.row
      have r2 := I2.out.row
      have hol := HL.out
      have HIN := Lib.hid hin
      clear k2 g2 s2 rn e2 e2' hin O1 G1 I1 P1 B1
      go_wp2_with fail
      refine (blockC_yes own inn r _ HL.out il h).mono ?_
      rintro e w3 ⟨rfl, hb3⟩
      obtain ⟨blo, hblo⟩ : ∃ blo, blo = blockOf (startTo own inn 4) (r.toNat / 2) := ⟨_, rfl⟩
      rw [← hblo]
      have hbl : blo.length = 64 := by rw [hblo, blockOf_length _ _ (startTo_length _ _ _)]
      have O3 := Lib.hid ((O2.out.below hb3).alloc (.cells (A8 blo) 54))
      have G3 := Lib.hid ((G2.out.belowAll hb3).alloc (.cells (A8 blo) 54))
      have I3 := Lib.hid ((I2.out.belowAll hb3).alloc (.cells (A8 blo) 54))
      have P3 := Lib.hid (Blk.new w3 54 (A8 blo))
      have hB3 := B2.out.trans (hb3.mono B2.out.size)
      have B3 := Lib.hid (hB3.alloc hB3.size (.cells (A8 blo) 54))
      have HB := Lib.hid hblo
      clear hb3 hB3 O2 G2 I2 B2 r1 r2 hblo hol
      go_wp2_with fail
      generalize w3.alloc (.cells (A8 blo) 54) = W3 at *
      generalize w3.heap.size = p3 at *
      have R3 := Lib.hid (P3.out.rd8 64 (by omega) (by rw [hbl]; unfold maxLen; omega))
      rw [hbl, List.take_of_length_le (by omega)] at R3
      refine (xor_any _ _ _ _ _ _ _ _ W3 (R.out.below B3.out) R3.out (by omega)).mono ?_
      rintro e w4 ⟨pv, rfl, hpo, hb4⟩
      obtain ⟨pa, pc, hpv, hpr, hpl⟩ := hpo.rd
      subst hpv
      have hxl : (xorl (l.drop (64 * m)) blo).length = min n 64 := by rw [xorl_length, hbl, R.out.1]
      rw [hxl] at hpr ⊢
      obtain ⟨k, hk'⟩ : ∃ k, k = min n 64 := ⟨_, rfl⟩
      rw [← hk'] at hpr ⊢
      have hcl : (cryptOf key nonce r.toNat l).length = l.length := by rw [cryptOf, streamOf_length]
      have hcut := N0.out
      have hll := Hr.out.1
      have O4 := Lib.hid (O3.out.below hb4)
      have G4 := Lib.hid (G3.out.belowAll hb4)
      have I4 := Lib.hid (I3.out.belowAll hb4)
      have hB4 := B3.out.trans (hb4.mono B3.out.size)
      have B4 := Lib.hid hB4
      have PR := Lib.hid hpr
      have hlen : ((cryptOf key nonce r.toNat l).take (64 * m)).length + k ≤ 140737488355328 := by simp [hcl]; omega
      have HLEN := Lib.hid hlen
      have hkn : k ≤ n := by omega
      have HKN := Lib.hid hkn
      have KK := Lib.hid hk'
      have LL := Lib.hid hll
      clear hb4 hpr hpl hpo hB4 hxl hcl hcut hll hk' hlen hkn O3 G3 I3 P3 R3 B3
      go_upto_region 14 with fail
      refine wp_region_plain [0,0,2,0] rfl (fun ops' K2 hK2 => ?_)
      repeat
        first
          | ((with_reducible refine z_move (a' := ?_) ?_ ?_); rotate_left; · (simp only [Act.put, List.setIfInBounds_toArray, List.set_cons_succ, List.set_cons_zero, Act.eval, Array.getD_eq_getD_getElem?, List.getElem?_toArray, List.getElem?_cons_succ, List.getElem?_cons_zero, Option.getD_some]; exact rfl))
          | ((with_reducible refine z_assign (a' := ?_) ?_ ?_); rotate_left; · (simp only [Act.put, List.setIfInBounds_toArray, List.set_cons_succ, List.set_cons_zero, Act.eval, Array.getD_eq_getD_getElem?, List.getElem?_toArray, List.getElem?_cons_succ, List.getElem?_cons_zero, Option.getD_some]; exact rfl))
          | ((with_reducible refine z_obl (v := ?_) (a' := ?_) rfl (fun _ => ?_) ?_ ?_); rotate_left; rotate_left; (focus (go_simp; (try go_bits); exact rfl)); (focus (simp only [Act.put, List.setIfInBounds_toArray, List.set_cons_succ, List.set_cons_zero, Act.eval, Array.getD_eq_getD_getElem?, List.getElem?_toArray, List.getElem?_cons_succ, List.getElem?_cons_zero, Option.getD_some]; exact rfl)))
          | ((with_reducible refine z_read (v := ?_) (a' := ?_) rfl ?_ ?_ ?_); rotate_left; rotate_left; (focus (go_simp; (try go_bits); exact rfl)); (focus (simp only [Act.put, List.setIfInBounds_toArray, List.set_cons_succ, List.set_cons_zero, Act.eval, Array.getD_eq_getD_getElem?, List.getElem?_toArray, List.getElem?_cons_succ, List.getElem?_cons_zero, Option.getD_some]; exact rfl)))
      refine z_append8 O4.out PR.out rfl rfl Try.underlying22 info8 HLEN.out (by have := I4.out.lt; omega) (fun w5 v5 o5 g5 b5 => ?_)
      simp only [Act.put, List.setIfInBounds_toArray, List.set_cons_succ, List.set_cons_zero]
      repeat
        first
          | ((with_reducible refine z_move (a' := ?_) ?_ ?_); rotate_left; · (simp only [Act.put, List.setIfInBounds_toArray, List.set_cons_succ, List.set_cons_zero, Act.eval, Array.getD_eq_getD_getElem?, List.getElem?_toArray, List.getElem?_cons_succ, List.getElem?_cons_zero, Option.getD_some]; exact rfl))
          | ((with_reducible refine z_assign (a' := ?_) ?_ ?_); rotate_left; · (simp only [Act.put, List.setIfInBounds_toArray, List.set_cons_succ, List.set_cons_zero, Act.eval, Array.getD_eq_getD_getElem?, List.getElem?_toArray, List.getElem?_cons_succ, List.getElem?_cons_zero, Option.getD_some]; exact rfl))
          | ((with_reducible refine z_obl (v := ?_) (a' := ?_) rfl (fun _ => ?_) ?_ ?_); rotate_left; rotate_left; (focus (go_simp; (try go_bits); exact rfl)); (focus (simp only [Act.put, List.setIfInBounds_toArray, List.set_cons_succ, List.set_cons_zero, Act.eval, Array.getD_eq_getD_getElem?, List.getElem?_toArray, List.getElem?_cons_succ, List.getElem?_cons_zero, Option.getD_some]; exact rfl)))
          | ((with_reducible refine z_read (v := ?_) (a' := ?_) rfl ?_ ?_ ?_); rotate_left; rotate_left; (focus (go_simp; (try go_bits); exact rfl)); (focus (simp only [Act.put, List.setIfInBounds_toArray, List.set_cons_succ, List.set_cons_zero, Act.eval, Array.getD_eq_getD_getElem?, List.getElem?_toArray, List.getElem?_cons_succ, List.getElem?_cons_zero, Option.getD_some]; exact rfl)))
      refine z_nil (hK2 _ _ ?_)
      rw [show cryptOf key nonce r.toNat l = streamOf (numbered (ownOf key nonce (r.toNat / 2)) nonce (r.toNat / 2)) l from rfl] at o5
      rw [show xorl (l.drop (64 * m)) blo = xorl (l.drop (64 * m)) (numbered (ownOf key nonce (r.toNat / 2)) nonce (r.toNat / 2) m) by rw [HB.out, HIN.out, HO.out, numbered, HY.out], streamOf_step _ _ _ (by rw [HO.out, numbered, ← HY.out, ← HIN.out, ← HB.out]; exact hbl)] at o5
      have O5 := Lib.hid o5
      have G5 := Lib.hid (G4.out.grown g5 (O4.out.apart (by omega)))
      have I5 := Lib.hid (I4.out.grown g5 (O4.out.apart (by omega)))
      have B5 := Lib.hid (B4.out.trans (b5.mono (by omega)))
      have R5 := Lib.hid (R.out.cut (j := k) (k := n) HKN.out (Nat.le_refl _))
      have nc : (n : Int) ≤ (c : Int) := by have := R.out.2.1; omega
      have kn : (k : Int) ≤ (n : Int) := by have := HKN.out; omega
      have k0 : (0 : Int) ≤ (k : Int) := by omega
      clear o5 g5 b5 O4 G4 I4 B4 R PR
      go_wp2
      all_goals
        go_step3
        refine ⟨rfl, ⟨m + 1, n - k, y + 1#64, _, _, v5, le64 y, g, gi, ex_frame _ rfl, by rw [HY.out]; simp [BitVec.ofNat_add], by have := N0.out; have := KK.out; omega, ?_, le64_length y, G5.out, by rw [← HIN.out]; exact I5.out, O5.out, B5.out, h1, h2⟩, ?_⟩
        · have h5 := R5.out
          have e5 : (List.drop (64 * m) l).length = n := by rw [List.length_drop, N0.out]
          rw [List.take_of_length_le (by omega), List.drop_drop] at h5
          have e6 : (l.drop (64 * m + k)) = l.drop (64 * (m + 1)) := by
            have := N0.out
            have := KK.out
            by_cases h6 : n ≤ 64
            · rw [List.drop_eq_nil_of_le (by omega), List.drop_eq_nil_of_le (by omega)]
            · rw [show 64 * m + k = 64 * (m + 1) by omega]
          rw [e6] at h5
          by_cases hck : c = k
          · first | (exfalso; exact ‹¬ c = k› hck) | simpa [hck] using h5
          · first | (exfalso; exact hck ‹c = k›) | simpa [hck] using h5
        · simp [sliceLen]
          have := KK.out
          omega
end Go.Proofs.Ythogbbigglmapaa
