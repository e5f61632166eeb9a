/- xctr by definition: Crypt -/
import Derived.Test.YtfdkmjegcghieaaGreatDoorIf
import Derived.Test.YtfdkmjegcghieaaGreatDoorIi
import Derived.Test.YtfdkmjegcghieaaGreatDoorGo
import Derived.Test.YtfdkmjegcghieaaGreatDoorIj
import Derived.Deep.CutRange
namespace Go.Proofs.YtfdkmjegcghieaaGreatDoor
open Go.RowKit
/-- the block that lies ready ahead of a byte -/
def bkN (L : List (BitVec 8)) (m : Nat) (s : List (BitVec 8)) (j : Nat) : List (BitVec 8) := if j = 0 then zeros 8 16 else xnum L m s ((j - 1) / 16)
theorem bkN_length (L : List (BitVec 8)) (m : Nat) (s : List (BitVec 8)) (j : Nat) : (bkN L m s j).length = 16 := by
  unfold bkN; split
  · simp
  · exact xblock_length _ _ _ _
theorem take_succ_nthx {n : Nat} (l : List (BitVec n)) (j : Nat) (h : j < l.length) : l.take j ++ [nth l j] = l.take (j + 1) := by
  rw [List.take_succ_eq_append_getElem h, nth_get h]
set_option linter.unusedSimpArgs false in
set_option maxRecDepth 100000 in
set_option maxHeartbeats 3200000 in
theorem refXCrypt_any (X TT KK L s l : List (BitVec 8)) (a : Option Addr) (g c m n cap : Nat) (w : World) (hX : BoxL X TT KK) (hR : RdS w 16 (some ⟨g, 0, none⟩) m c L) (hs : s.length = 16) (hm : 3 ≤ m) (hm2 : m ≤ 100) (hl : Rd8 w a n cap l) (hn : n ≤ 1000) :
    Calls Tryz.prog 36 #[.agg (A8 X), .slice (some ⟨g, 0, none⟩) m c, .agg (A8 s), .slice a n cap] w fun e w' => ∃ v, e = .returned v ∧ Own8 w' w.heap.size 5 v (xcrypt L m s l) ∧ Below w.heap.size w w' := by
  obtain ⟨W, hW⟩ : ∃ W, ((w.alloc (.cells (A8 X) 35)).alloc (.cells (A8 s) 37)).alloc (.cells (A8 (zeros 8 16)) 37) = W := ⟨_, rfl⟩
  obtain ⟨b0, b1, b2, hb, hz⟩ := new3 _ _ _ _ _ _ _ _ hW
  have X0 := Lib.hid b0
  have P0 := Lib.hid b1
  have Z0 := Lib.hid b2
  have B0 := Lib.hid hb
  have HX := Lib.hid hX
  have x3 := hX.len
  have RW := Lib.hid hR
  have LW := Lib.hid hl
  have HZ := Lib.hid hz
  have hll := hl.1
  obtain ⟨OUT, hOUT⟩ : ∃ OUT, OUT = xcrypt L m s l := ⟨_, rfl⟩
  have hOl : OUT.length = n := by rw [hOUT, xcrypt_length, hll]
  have HO := Lib.hid hOUT
  have HOL := Lib.hid hOl
  rw [← hOUT]
  clear b0 b1 b2 hb hz hX hR hl hOUT hOl
  go_enter Tryz.func36, Tryz.ntmps36
  go_wp2_with fail
  clear hW
  go_loopw [9, 11] (fun v s11 wr => ∃ j : Nat, j ≤ n ∧ s11 = .int .i64 j ∧ Blk wr w.heap.size 35 (A8 X) ∧ Blk wr (w.heap.size + 1) 37 (A8 s) ∧ Blk wr (w.heap.size + 2) 37 (A8 (bkN L m s j)) ∧ Own8 wr (w.heap.size + 3) 5 v (OUT.take j) ∧ Below w.heap.size w wr) (fun _ s11 _ => n - (intOf s11).toNat)
  case atStart => exact ⟨0, by omega, rfl, X0.out, P0.out, Z0.out, by rw [List.take_zero]; exact Own8.nil_ _ _ _, B0.out⟩
  case round =>
    obtain ⟨j, hj, rfl, hX, hP, hK, hO, hB⟩ := hrel
    have X1 := Lib.hid hX
    have P1 := Lib.hid hP
    have K1 := Lib.hid hK
    have O1 := Lib.hid hO
    have B1 := Lib.hid hB
    clear hX hP hK hO hB X0 P0 Z0 B0
    by_cases hjn : j < n
    · have j1 : (j : Int) < (n : Int) := by omega
      have j0 : (0 : Int) ≤ (j : Int) := by omega
      obtain ⟨r, hr⟩ : ∃ r, r = j % 16 := ⟨_, rfl⟩
      have r1 : (j : Int) % 16 = (r : Int) := by omega
      have r2 : (r : Int) < 16 := by omega
      have r3 : (0 : Int) ≤ (r : Int) := by omega
      have hr16 : r < 16 := by omega
      obtain ⟨q, hq⟩ : ∃ q, q = j / 16 := ⟨_, rfl⟩
      obtain ⟨q', hq'⟩ : ∃ q', q' = q + 1 := ⟨_, rfl⟩
      have q1 : (j : Int) / 16 = (q : Int) := by omega
      have q2 : IntKind.i64.wrap (q : Int) = (q : Int) := by rw [IntKind.wrap_i64]; omega
      have q3 : (q : Int) + 1 = (q' : Int) := by omega
      have q4 : IntKind.i64.wrap (q' : Int) = (q' : Int) := by rw [IntKind.wrap_i64]; omega
      have HRR := Lib.hid hr
      have HQ := Lib.hid hq
      have HQ' := Lib.hid hq'
      clear hr hq hq'
      obtain ⟨Wi, rfl⟩ : ∃ Wi : World, Wi = wr := ⟨_, rfl⟩
      go_upto_if 20 with fail
      go_cut [9] from 18 to 28 (fun s9 wx => s9 = u9 ∧ Blk wx w.heap.size 35 (A8 X) ∧ Blk wx (w.heap.size + 1) 37 (A8 s) ∧ Blk wx (w.heap.size + 2) 37 (A8 (xnum L m s q)) ∧ Own8 wx (w.heap.size + 3) 5 u9 (OUT.take j) ∧ Below w.heap.size w wx)
      case first =>
        by_cases hr0 : r = 0
        · have z0 : ((r : Int) == 0) = true := by rw [hr0]; rfl
          have g0 := X1.out.row
          have g1 := P1.out.row
          go_wp2_with fail
          refine (refXBlock_any X TT KK L s g c m (BitVec.ofNat 64 q') Wi HX.out (RW.out.below B1.out) hs hm hm2).mono ?_
          rintro e w4 ⟨rfl, d4⟩
          have hNl := xblock_length L m s (BitVec.ofNat 64 q')
          have hN : xblock L m s (BitVec.ofNat 64 q') = xnum L m s q := by rw [xnum, HQ'.out]
          obtain ⟨N, hNe⟩ : ∃ N, N = xblock L m s (BitVec.ofNat 64 q') := ⟨_, rfl⟩
          rw [← hNe] at hNl hN ⊢
          have HN := Lib.hid hN
          have z4 := K1.out.belowAll d4
          have r5 := z4.row
          have r6 := z4.whole
          have bl := bkN_length L m s j
          have K4 := Lib.hid (z4.put (A8 N))
          have X4 := Lib.hid ((X1.out.belowAll d4).farRow (k := w.heap.size + 2) (by omega) (A8 N))
          have P4 := Lib.hid ((P1.out.belowAll d4).farRow (k := w.heap.size + 2) (by omega) (A8 N))
          have O4 := Lib.hid ((O1.out.below d4).grown (grown_setRow w4 (w.heap.size + 2) (A8 N)) (by omega))
          have B4 := Lib.hid (below_setRow (B1.out.trans (d4.mono B1.out.size)) (show w.heap.size ≤ w.heap.size + 2 by omega) (A8 N))
          clear hNe hN g0 g1 z4 d4 X1 P1 K1 O1 B1
          go_wp2
          go_meet
          exact ⟨rfl, X4.out, P4.out, by rw [← HN.out]; exact K4.out, O4.out, B4.out⟩
        · have z0 : ((r : Int) == 0) = false := by simp; omega
          have hk : bkN L m s j = xnum L m s q := by
            unfold bkN
            rw [if_neg (by have := HRR.out; omega), HQ.out]
            congr 1; have := HRR.out; omega
          have hK := K1.out
          rw [hk] at hK
          have K4 := Lib.hid hK
          clear hK hk
          go_wp2
          go_meet
          exact ⟨rfl, X1.out, P1.out, K4.out, O1.out, B1.out⟩
      case rest =>
        obtain ⟨rfl, hX, hP, hK, hO, hB⟩ := hcut
        have X2 := Lib.hid hX
        have P2 := Lib.hid hP
        have K2 := Lib.hid hK
        have O2 := Lib.hid hO
        have B2 := Lib.hid hB
        clear hX hP hK hO hB X1 P1 K1 O1 B1
        obtain ⟨N, hN⟩ : ∃ N, N = xnum L m s q := ⟨_, rfl⟩
        have hNl : N.length = 16 := by rw [hN]; exact xblock_length _ _ _ _
        obtain ⟨b', o', rfl, hlt', hc'⟩ := (LW.out.below B2.out).drew.2.2.2 (by omega)
        have c1 := hc' j hjn
        have c2 := K2.out.drew.cell8 (xblock_length _ _ _ _) r hr16
        rw [← hN] at c2
        have hv : nth l j ^^^ nth N r = nth OUT j := by
          rw [HO.out, xcrypt, nth_str16 _ _ _ (by rw [hll]; exact hjn), hN, HRR.out, HQ.out]
        have HV := Lib.hid hv
        have HN := Lib.hid hN
        have hlt2 := K2.out.lt
        clear hv hN hc'
        go_upto_region 8 with fail
        refine wp_region_text3' [0,0,0,0,1,0,0,0,1,0,2,2,0] (by kernel_rfl) (by kernel_rfl) (fun ops' K9 hK9 => ?_)
        repeat
          first
            | ((with_reducible refine z_move (a' := ?_) ?_ ?_); rotate_left; · (simp only [Act.put, List.setIfInBounds_toArray, List.set_cons_succ, List.set_cons_zero, Act.eval, Array.getD_eq_getD_getElem?, List.getElem?_toArray, List.getElem?_cons_succ, List.getElem?_cons_zero, Option.getD_some]; exact rfl))
            | ((with_reducible refine z_assign (a' := ?_) ?_ ?_); rotate_left; · (simp only [Act.put, List.setIfInBounds_toArray, List.set_cons_succ, List.set_cons_zero, Act.eval, Array.getD_eq_getD_getElem?, List.getElem?_toArray, List.getElem?_cons_succ, List.getElem?_cons_zero, Option.getD_some]; exact rfl))
            | ((with_reducible refine z_obl (v := ?_) (a' := ?_) rfl (fun _ => ?_) ?_ ?_); rotate_left; rotate_left; (focus (go_simp; (try go_bits); exact rfl)); (focus (simp only [Act.put, List.setIfInBounds_toArray, List.set_cons_succ, List.set_cons_zero, Act.eval, Array.getD_eq_getD_getElem?, List.getElem?_toArray, List.getElem?_cons_succ, List.getElem?_cons_zero, Option.getD_some]; exact rfl)))
            | ((with_reducible refine z_read (v := ?_) (a' := ?_) rfl ?_ ?_ ?_); rotate_left; rotate_left; (focus (go_simp; (try go_bits); exact rfl)); (focus (simp only [Act.put, List.setIfInBounds_toArray, List.set_cons_succ, List.set_cons_zero, Act.eval, Array.getD_eq_getD_getElem?, List.getElem?_toArray, List.getElem?_cons_succ, List.getElem?_cons_zero, Option.getD_some]; exact rfl)))
        refine z_build1 rfl Tryz.underlying23 info8 (fun w7 b7 hr7 hb7 => ?_)
        simp only [Act.put, List.setIfInBounds_toArray, List.set_cons_succ, List.set_cons_zero]
        refine z_append8 (O2.out.drew.below hb7) hr7 rfl rfl Tryz.underlying23 info8 (by rw [List.length_take, HOL.out]; omega) (by have := hb7.size; simp at this; omega) (fun w8 v8' o8 g8 b8 => ?_)
        simp only [Act.put, List.setIfInBounds_toArray, List.set_cons_succ, List.set_cons_zero]
        repeat
          first
            | ((with_reducible refine z_move (a' := ?_) ?_ ?_); rotate_left; · (simp only [Act.put, List.setIfInBounds_toArray, List.set_cons_succ, List.set_cons_zero, Act.eval, Array.getD_eq_getD_getElem?, List.getElem?_toArray, List.getElem?_cons_succ, List.getElem?_cons_zero, Option.getD_some]; exact rfl))
            | ((with_reducible refine z_assign (a' := ?_) ?_ ?_); rotate_left; · (simp only [Act.put, List.setIfInBounds_toArray, List.set_cons_succ, List.set_cons_zero, Act.eval, Array.getD_eq_getD_getElem?, List.getElem?_toArray, List.getElem?_cons_succ, List.getElem?_cons_zero, Option.getD_some]; exact rfl))
            | ((with_reducible refine z_obl (v := ?_) (a' := ?_) rfl (fun _ => ?_) ?_ ?_); rotate_left; rotate_left; (focus (go_simp; (try go_bits); exact rfl)); (focus (simp only [Act.put, List.setIfInBounds_toArray, List.set_cons_succ, List.set_cons_zero, Act.eval, Array.getD_eq_getD_getElem?, List.getElem?_toArray, List.getElem?_cons_succ, List.getElem?_cons_zero, Option.getD_some]; exact rfl)))
            | ((with_reducible refine z_read (v := ?_) (a' := ?_) rfl ?_ ?_ ?_); rotate_left; rotate_left; (focus (go_simp; (try go_bits); exact rfl)); (focus (simp only [Act.put, List.setIfInBounds_toArray, List.set_cons_succ, List.set_cons_zero, Act.eval, Array.getD_eq_getD_getElem?, List.getElem?_toArray, List.getElem?_cons_succ, List.getElem?_cons_zero, Option.getD_some]; exact rfl)))
        refine z_nil (hK9 _ _ ?_)
        have e8 : OUT.take j ++ [nth l j ^^^ nth N r] = OUT.take (j + 1) := by
          rw [HV.out, take_succ_nthx OUT j (by rw [HOL.out]; exact hjn)]
        rw [e8] at o8
        have ap := (O2.out.drew.below hb7)
        have X3 := Lib.hid ((X2.out.drew.belowAll hb7).grown g8 (ap.apart (by omega)))
        have P3 := Lib.hid ((P2.out.drew.belowAll hb7).grown g8 (ap.apart (by omega)))
        have hbk : bkN L m s (j + 1) = xnum L m s q := by
          unfold bkN
          rw [if_neg (by omega), Nat.add_sub_cancel, HQ.out]
        have K3 : Hid (Blk w8 (w.heap.size + 2) 37 (A8 (bkN L m s (j + 1)))) := Lib.hid (by rw [hbk]; exact (K2.out.drew.belowAll hb7).grown g8 (ap.apart (by omega)))
        have O3 := Lib.hid o8
        have d8 := B2.out.drew.trans (hb7.mono B2.out.size)
        have B3 := Lib.hid (d8.trans (b8.mono (by omega)))
        clear o8 g8 b8 e8 ap hbk d8 hb7 hr7 c1 c2 hK9 hlt'
        go_wp2
        exact ⟨⟨j + 1, by omega, by go_num, X3.out, P3.out, K3.out, O3.out, B3.out⟩, by simp [intOf]; omega⟩
    · obtain rfl : j = n := by omega
      have hO := O1.out
      rw [List.take_of_length_le (by rw [HOL.out]; omega)] at hO
      have O2 := Lib.hid (hO.base (show w.heap.size ≤ w.heap.size + 3 by omega))
      clear hO
      go_wp2
      go_ret
      exact ⟨_, rfl, O2.out, B1.out⟩
end Go.Proofs.YtfdkmjegcghieaaGreatDoor
