/- names by definition: Padded -/
import Derived.Test.YtpifdkkhdgbcdaaGreatDoorMNq1
import Derived.Test.YtpifdkkhdgbcdaaGreatDoorMNmR
import Derived.Test.YtpifdkkhdgbcdaaGreatDoorMByt
import Derived.Test.YtpifdkkhdgbcdaaGreatDoorMGn
import Derived.Test.YtpifdkkhdgbcdaaGreatDoorMGe
namespace Go.Proofs.YtpifdkkhdgbcdaaGreatDoor
open Lib (hid)
set_option linter.unusedSimpArgs false
set_option maxRecDepth 100000
set_option maxHeartbeats 1600000
open Go.RowKit
theorem refPadN_any (l : List (BitVec 8)) (a : Option Addr) (n c q : Nat) (w : World) (hr : Rd8 w a n c l) (hn : n ≤ 1000000) (hq : padOk q) :
  Calls Tryz.prog 29 #[.slice a n c, .int .i64 q] w fun e w' => ∃ v, e = .returned v ∧ Own8 w' w.heap.size 5 v (l ++ zeros 8 (rupN l.length q)) ∧ Below w.heap.size w w' := by
 rcases hq with rfl | rfl | rfl
 ·exact refPadN16_any l a n c w hr hn
 ·exact refPadN32_any l a n c w hr hn
 ·exact refPadN64_any l a n c w hr hn
theorem refPadded27_any (l : List (BitVec 8)) (q : Nat) (w : World) (hq : padOk q) (h1 : 1 ≤ l.length) (h2 : l.length ≤ 255) :
  Calls Tryz.prog 15 #[.string (str l), .int .i64 q] w fun e w' => ∃ a m c, e = .returned (.slice a m c) ∧ m = (rpadN l q).length ∧ Rd8 w' a m c (rpadN l q) ∧ Below w.heap.size w w' := by
 obtain ⟨X, hX⟩ : ∃ X, X = l ++ zeros 8 (rupN l.length q) := ⟨_, rfl⟩
 have hXl : X.length = l.length + rupN l.length q := by rw [hX, List.length_append, zeros_length]
 have hXb : X.length ≤ 256 ∧ 1 ≤ X.length := by rw [hXl]; unfold rupN; rcases hq with rfl | rfl | rfl <;> omega
 have hrp : rpadN l q = if X.length = 256 then X.take 255 else X := by rw [rpadN, hX]
 have hpn := fun a c (w1 : World) (h : Rd8 w1 a l.length c l) => refPadN_any l a l.length c q w1 h (by omega) hq
 rw [← hX] at hpn
 obtain ⟨R, hR⟩ : ∃ R, R = rpadN l q := ⟨_, rfl⟩
 rw [← hR] at hrp ⊢
 have PN := hid hpn
 have HRP := hid hrp
 obtain ⟨m, hm⟩ : ∃ m, m = X.length := ⟨_, rfl⟩
 rw [← hm] at hXb
 have HM := hid hm
 have hll : l.length ≤ maxLen := by unfold maxLen; omega
 clear hX hXl hpn hR hrp hm
 go_enter Tryz.func15, Tryz.ntmps15
 go_upto_region 1 with fail
 refine wp_region_plain [0,2,0,2,0] rfl (fun ops' K2 hK2 => ?_)
 repeat
  (first
   | (with_reducible refine z_move (a' := ?_) ?_ ?_); rotate_left
   | (with_reducible refine z_assign (a' := ?_) ?_ ?_); rotate_left
   | (with_reducible refine z_obl (v := ?_) (a' := ?_) rfl (fun _ => ?_) ?_ ?_); rotate_left 2; (focus (go_simp; (try go_bits); exact rfl))
   | (with_reducible refine z_read (v := ?_) (a' := ?_) rfl ?_ ?_ ?_); rotate_left 2; (focus (go_simp; (try go_bits); exact rfl)))
  focus (simp only [Act.put, zz1, zz2, zz3, Act.eval, zz4, zz5, zz6, zz7, zz8]; exact rfl)
 refine z_bytes (l := l) rfl Tryz.underlying9 Tryz.underlying22 Tryz.underlying5 hll (fun w1 g cap r1 hg _ d1 => ?_)
 simp only [Act.put, zz1, zz2, zz3]
 repeat
  (first
   | (with_reducible refine z_move (a' := ?_) ?_ ?_); rotate_left
   | (with_reducible refine z_assign (a' := ?_) ?_ ?_); rotate_left
   | (with_reducible refine z_obl (v := ?_) (a' := ?_) rfl (fun _ => ?_) ?_ ?_); rotate_left 2; (focus (go_simp; (try go_bits); exact rfl))
   | (with_reducible refine z_read (v := ?_) (a' := ?_) rfl ?_ ?_ ?_); rotate_left 2; (focus (go_simp; (try go_bits); exact rfl)))
  focus (simp only [Act.put, zz1, zz2, zz3, Act.eval, zz4, zz5, zz6, zz7, zz8]; exact rfl)
 (with_reducible refine z_callw rfl ?_)
 go_simp
 refine entersW_of ?_
 refine (PN.out (some ⟨g, 0, none⟩) cap w1 r1).mono ?_
 rintro e w2 ⟨v2, rfl, o2, d2⟩
 refine ⟨_, rfl, ?_⟩
 try simp only [Act.put, zz1, zz2, zz3]
 obtain ⟨a2, c2, rfl, r2, _⟩ := o2.rd
 rw [show X.length = m from HM.out.symm] at r2 ⊢
 repeat
  (first
   | (with_reducible refine z_move (a' := ?_) ?_ ?_); rotate_left
   | (with_reducible refine z_assign (a' := ?_) ?_ ?_); rotate_left
   | (with_reducible refine z_obl (v := ?_) (a' := ?_) rfl (fun _ => ?_) ?_ ?_); rotate_left 2; (focus (go_simp; (try go_bits); exact rfl))
   | (with_reducible refine z_read (v := ?_) (a' := ?_) rfl ?_ ?_ ?_); rotate_left 2; (focus (go_simp; (try go_bits); exact rfl)))
  focus (simp only [Act.put, zz1, zz2, zz3, Act.eval, zz4, zz5, zz6, zz7, zz8]; exact rfl)
 refine z_nil (hK2 _ _ ?_)
 have R2 := hid r2
 have D2 := hid (d1.trans (d2.mono d1.size))
 clear hK2 r1 hg d1 o2 r2 d2
 by_cases h256 : m = 256
 ·have e1 : ((m : Int) == 256) = true := by simp; omega
  have e2 : (m : Int) = 256 := by omega
  have e3 : (255 : Int) ≤ (c2 : Int) := by have := R2.out.2.1; omega
  have hrr := R2.out.pre (j := 255) (by omega)
  have hR : R = X.take 255 := by rw [HRP.out, if_pos (by rw [← HM.out]; exact h256)]
  rw [← hR] at hrr
  have RR := hid hrr
  have hl5 : 255 = R.length := hrr.1.symm
  subst h256
  have HL5 := hid hl5
  clear hrr hR hl5
  go_wp2
  go_ret
  exact ⟨_, _, _, rfl, HL5.out, RR.out, D2.out⟩
 ·have e1 : ((m : Int) == 256) = false := by simp; omega
  have e2 : ¬ (m : Int) = 256 := by omega
  have hR : R = X := by rw [HRP.out, if_neg (by rw [← HM.out]; exact h256)]
  have hl5 : m = R.length := by rw [hR]; exact HM.out
  have rr := R2.out
  rw [← hR] at rr
  have RR := hid rr
  have HL5 := hid hl5
  clear hR rr hl5
  go_wp2
  go_ret
  exact ⟨_, _, _, rfl, HL5.out, RR.out, D2.out⟩
section
variable {P : Program} {ops : Array Oper} {C : World → Prop} {K : Act → World → Prop} {ks : List Nat} {l : List Oper} {o : Oper} {a a' : Act} {w : World}
theorem h_skip0 (hw : Region.wanted o (yielded ops a.tmps) = false) (ha : a.put o.dst undef = a') (h : wpH P ops C K ks l a' w) : wpH P ops C K (0 :: ks) (o :: l) a w := by
 subst ha; exact ⟨undef, .inr ⟨hw, rfl⟩, h⟩
theorem h_skip5 (hw : Region.wanted o (yielded ops a.tmps) = false) (ha : a.put o.dst undef = a') (h : wpH P ops C K ks l a' w) : wpH P ops C K (5 :: ks) (o :: l) a w := by
 subst ha; exact ⟨undef, .inr ⟨hw, rfl⟩, h⟩
theorem h_skip1 (hw : Region.wanted o (yielded ops a.tmps) = false) (ha : a.put o.dst undef = a') (h : wpH P ops C K ks l a' w) : wpH P ops C K (1 :: ks) (o :: l) a w := by
 subst ha; exact ⟨undef, .inr ⟨hw, rfl⟩, h⟩
theorem h_skip2 (hw : Region.wanted o (yielded ops a.tmps) = false) (ha : a.put o.dst undef = a') (h : wpH P ops C K ks l a' w) : wpH P ops C K (2 :: ks) (o :: l) a w := by
 subst ha
 show (if Region.wanted o (yielded ops a.tmps) then _ else _)
 rw [hw]
 exact h
end
open Go.RowKit
theorem refPlain27_any (b : List (BitVec 8)) (q : Nat) (a : Option Addr) (n c : Nat) (w : World) (hr : Rd8 w a n c b) (hn : n ≤ 1000000) (hq : padOk q) :
  Calls Tryz.prog 13 #[.slice a n c, .int .i64 q] w fun e w' => e = .returned (.tuple #[.string (str (plainS b (q : Int))), .int .i64 (plainE b (q : Int))]) ∧ Below w.heap.size w w' := by
 have hbl := hr.1
 have R0 := hid hr
 have hk : knownN (q : Int) = 0 := by unfold knownN padOk at *; rw [if_pos (by omega)]
 have hPE : plainE b (q : Int) = if ¬ nlongN n q then 4 else if plainOk b q then 0 else 14 := by rw [plainE, hk, if_neg (by simp), Int.toNat_natCast, hbl]
 have HPE := hid hPE
 have hlo := refLong27_any n q w hq hn
 have LO := hid hlo
 clear hr hk hPE hlo
 go_enter Tryz.func13, Tryz.ntmps13
 go_wp2_with fail
 refine LO.out.mono ?_
 rintro e w1 ⟨rfl, rfl⟩
 by_cases hl : nlongN n q
 rotate_left
 ·have ed : decide (nlongN n q) = false := decide_eq_false hl
  have hE : plainE b (q : Int) = 4 := by rw [HPE.out, if_pos hl]
  have hS : plainS b (q : Int) = [] := by rw [plainS, hE]; rfl
  rw [ed]
  clear hl ed
  go_wp2
  go_ret2
  rw [hE, hS]
  exact ⟨rfl, Below.refl _ _⟩
 have ed : decide (nlongN n q) = true := decide_eq_true hl
 have HLO := hid hl
 rw [ed]
 clear hl ed
 go_wp2_with fail
 go_loopw [6] (fun i wr => ∃ k : Nat, k ≤ n ∧ i = .int .i64 k ∧ lastN b k = lastN b n ∧ w = wr) (fun i _ => (intOf i).toNat)
 case atStart => exact ⟨n, Nat.le_refl _, rfl, rfl, rfl⟩
 case round =>
  obtain ⟨k, hk, rfl, hl, rfl⟩ := hrel
  have HL := hid hl
  clear hl
  by_cases hgo : ∃ j, k = j + 1 ∧ nth b j = 0#8
  ·obtain ⟨j, rfl, hj⟩ := hgo
   obtain ⟨ba, bo, rfl, hbb, hc⟩ := R0.out.2.2.2 (by omega)
   have c1 := hc j (by omega)
   rw [hj] at c1
   have e1 : ((j + 1 : Nat) : Int) - 1 = (j : Int) := by omega
   obtain ⟨J, hJ⟩ : ∃ J, J = j + 1 := ⟨_, rfl⟩
   rw [← hJ] at e1 hk ⊢
   have e2 : (0 : Int) < (J : Int) := by omega
   have e3 : IntKind.i64.wrap (j : Int) = (j : Int) := by rw [IntKind.wrap_i64]; omega
   have e4 : (0 : Int) ≤ (j : Int) := by omega
   have e5 : (j : Int) < (n : Int) := by omega
   have hst : lastN b j = lastN b n := by rw [← HL.out, lastN, if_pos hj]
   have HST := hid hst
   have HJ := hid hJ
   clear hJ hst hc hj
   go_wp2
   exact ⟨⟨j, by have := HJ.out; omega, rfl, HST.out, trivial⟩, by have := HJ.out; simp only [intOf, Int.toNat_natCast]; omega⟩
  ·have hkl : lastN b k = k := by
    cases k with
    | zero => rfl
    | succ j =>
     rw [lastN, if_neg (fun h => hgo ⟨j, rfl, h⟩)]
   have hcut : b.take k = cutN b := by rw [cutN, hbl, ← HL.out, hkl]
   have hcl : (cutN b).length = k := by rw [← hcut, List.length_take]; omega
   have hcond : k = 0 ∨ ∃ (j : Nat) (x : BitVec 8) (ba bo : Nat), k = j + 1 ∧ a = some ⟨ba, bo, none⟩ ∧ w.cell? ⟨ba, bo + j, none⟩ = some (v8 x) ∧ x ≠ 0#8 := by
    cases k with
    | zero => exact .inl rfl
    | succ j =>
     obtain ⟨ba, bo, e, hbb, hc⟩ := R0.out.2.2.2 (by omega)
     exact .inr ⟨j, nth b j, ba, bo, rfl, e, hc j (by omega), fun h => hgo ⟨j, rfl, h⟩⟩
   have rp := R0.out.pre hk
   rw [hcut] at rp
   have hs1 := run_str (P := Tryz.prog) w 22 9 5 a k c (cutN b) Tryz.underlying22 Tryz.underlying9 Tryz.underlying5 rp
   have hrr := fun w1 => refRight27_any (cutN b) w1 (by omega)
   have hpp := fun w1 (h1 : 1 ≤ (cutN b).length) (h2 : (cutN b).length ≤ 255) => refPadded27_any (cutN b) q w1 hq h1 h2
   have hok : plainOk b q ↔ (nrightN (cutN b) ∧ rpadN (cutN b) q = b) := by
    constructor
    ·intro h
     exact ⟨h.1, by rw [rpadN_eq _ _ hq h.1.1 h.1.2.1]; exact plain_pad b q h⟩
    ·rintro ⟨h1, h2⟩
     refine ⟨h1, ?_⟩
     rw [rpadN_eq _ _ hq h1.1 h1.2.1] at h2
     have := congrArg List.length h2
     rw [npadN_length _ _ hq h1.2.1] at this
     exact this
   obtain ⟨C, hC⟩ : ∃ z, z = cutN b := ⟨_, rfl⟩
   rw [← hC] at hs1 hrr hpp hok hcl
   have hcb : (k : Int) ≤ (c : Int) := by have := R0.out.2.1; omega
   have hk0 : (0 : Int) ≤ (k : Int) := by omega
   have RR := hid hrr
   have PP := hid hpp
   have OK_ := hid hok
   have HC := hid hC
   have HCL := hid hcl
   have CO := hid hcond
   clear hgo hkl hcut hcond rp hrr hpp hok hC hcl
   obtain hz | ⟨j, x, ba, bo, hj, ha, hc, hx⟩ := CO.out
   ·subst hz
    go_upto_region 7 with fail
    refine wp_region_tail [0,2,0,0,0,0,2,1,0,5,0,0] (by kernel_rfl) (by kernel_rfl) (fun C0 hC0 hCb K' hK' => ?_)
    repeat
     (first
      | (with_reducible refine h_pure (v := ?_) (a' := ?_) ?_ (fun _ => ?_) ?_ ?_); rotate_left 2; (focus (exact rfl)); (focus (go_simp; (try go_bits); exact rfl))
      | (with_reducible refine h_obl (v := ?_) (a' := ?_) ?_ (fun _ hcw => ?_) ?_ ?_); rotate_left 2; (focus (exact rfl)); (focus (go_simp; (try go_bits); exact rfl))
      | (with_reducible refine h_read (v := ?_) (a' := ?_) ?_ (fun _ hbw => ?_) ?_ ?_); rotate_left 2; (focus (exact rfl)); (focus (go_simp; (try go_bits); exact rfl)))
     focus (simp only [Act.put, zz1, zz2, zz3, Act.eval, zz4, zz5, zz6, zz7, zz8]; exact rfl)
    (with_reducible refine h_call ?_ ?_)
    ·exact rfl
    go_simp
    refine entersW_of ?_
    refine (RR.out w.drew).mono ?_
    rintro e w3 ⟨rfl, rfl⟩
    refine ⟨_, rfl, (Below.refl _ _), ?_⟩
    try simp only [Act.put, zz1, zz2, zz3]
    by_cases hri : nrightN C
    ·have er : decide (nrightN C) = true := decide_eq_true hri
     rw [er]
     clear er
     repeat
      (first
       | (with_reducible refine h_pure (v := ?_) (a' := ?_) ?_ (fun _ => ?_) ?_ ?_); rotate_left 2; (focus (exact rfl)); (focus (go_simp; (try go_bits); exact rfl))
       | (with_reducible refine h_obl (v := ?_) (a' := ?_) ?_ (fun _ hcw => ?_) ?_ ?_); rotate_left 2; (focus (exact rfl)); (focus (go_simp; (try go_bits); exact rfl))
       | (with_reducible refine h_read (v := ?_) (a' := ?_) ?_ (fun _ hbw => ?_) ?_ ?_); rotate_left 2; (focus (exact rfl)); (focus (go_simp; (try go_bits); exact rfl)))
      focus (simp only [Act.put, zz1, zz2, zz3, Act.eval, zz4, zz5, zz6, zz7, zz8]; exact rfl)
     (with_reducible refine h_call ?_ ?_)
     ·exact rfl
     go_simp
     refine entersW_of ?_
     refine (PP.out w.drew hri.1 hri.2.1).mono ?_
     rintro e w4 ⟨a4, m4, c4, rfl, hm4, r4, d4⟩
     refine ⟨_, rfl, d4, ?_⟩
     try simp only [Act.put, zz1, zz2, zz3]
     obtain ⟨X, hX⟩ : ∃ X, X = rpadN C q := ⟨_, rfl⟩
     rw [← hX] at r4
     have S4 : ∀ w1, Below w4.heap.size w4 w1 → (convert 22 9 (.slice a4 m4 c4)).run Tryz.prog w1 = .ok (.string (str X)) w1 := fun w1 hw => run_str (P := Tryz.prog) w1 22 9 5 a4 m4 c4 X Tryz.underlying22 Tryz.underlying9 Tryz.underlying5 (r4.below hw)
     have Q1 : ∀ w1, C0 w1 → (convert 22 9 (.slice a n c)).run Tryz.prog w1 = .ok (.string (str b)) w1 := fun w1 hw => run_str (P := Tryz.prog) w1 22 9 5 a n c b Tryz.underlying22 Tryz.underlying9 Tryz.underlying5 (R0.out.drew.below (hCb w1 hw))
     have D4 := hid ((Below.refl w.heap.size w).drew.trans d4)
     have sb := str_beq X b
     have HX := hid hX
     by_cases hxb : X = b
     ·have eb : ((str X).toList == (str b).toList) = true := by rw [sb]; simpa using hxb
      have hE : plainE b (q : Int) = 0 := by rw [HPE.out, if_neg (by simpa using HLO.out), if_pos (OK_.out.2 ⟨hri, by rw [← HX.out]; exact hxb⟩)]
      have hS : plainS b (q : Int) = C := by rw [plainS, if_pos hE, HC.out]
      have HE := hid hE
      have HS := hid hS
      clear hE hS hX sb hxb hm4 r4 d4 hri
      have eb2 : (str X).toList = (str b).toList := by simpa using eb
      repeat
       (first
        | (with_reducible refine h_pure (v := ?_) (a' := ?_) ?_ (fun _ => ?_) ?_ ?_); rotate_left 2; (focus (exact rfl)); (focus (go_simp; (try go_bits); exact rfl))
        | (with_reducible refine h_obl (v := ?_) (a' := ?_) ?_ (fun _ hcw => ?_) ?_ ?_); rotate_left 2; (focus (exact rfl)); (focus (have f1 := Q1 _ hcw; go_simp; (try go_bits); exact rfl))
        | (with_reducible refine h_read (v := ?_) (a' := ?_) ?_ (fun _ hbw => ?_) ?_ ?_); rotate_left 2; (focus (exact rfl)); (focus (have g1 := S4 _ hbw; go_simp; (try go_bits); exact rfl)))
       focus (simp only [Act.put, zz1, zz2, zz3, Act.eval, zz4, zz5, zz6, zz7, zz8]; exact rfl)
      refine h_tail [] rfl (by simp) (z_nil (hK' _ _ ?_))
      clear Q1 S4 hC0 hCb hK'
      go_wp2
      go_ret2
      rw [HE.out, HS.out]
      exact ⟨rfl, D4.out⟩
     ·have eb : ((str X).toList == (str b).toList) = false := by rw [sb]; simpa using hxb
      have hE : plainE b (q : Int) = 14 := by rw [HPE.out, if_neg (by simpa using HLO.out), if_neg (fun h => hxb (by rw [HX.out]; exact (OK_.out.1 h).2))]
      have hS : plainS b (q : Int) = [] := by rw [plainS, hE]; rfl
      have HE := hid hE
      have HS := hid hS
      clear hE hS hX sb hxb hm4 r4 d4 hri
      have eb2 : ¬ (str X).toList = (str b).toList := by simpa using eb
      repeat
       (first
        | (with_reducible refine h_pure (v := ?_) (a' := ?_) ?_ (fun _ => ?_) ?_ ?_); rotate_left 2; (focus (exact rfl)); (focus (go_simp; (try go_bits); exact rfl))
        | (with_reducible refine h_obl (v := ?_) (a' := ?_) ?_ (fun _ hcw => ?_) ?_ ?_); rotate_left 2; (focus (exact rfl)); (focus (have f1 := Q1 _ hcw; go_simp; (try go_bits); exact rfl))
        | (with_reducible refine h_read (v := ?_) (a' := ?_) ?_ (fun _ hbw => ?_) ?_ ?_); rotate_left 2; (focus (exact rfl)); (focus (have g1 := S4 _ hbw; go_simp; (try go_bits); exact rfl)))
       focus (simp only [Act.put, zz1, zz2, zz3, Act.eval, zz4, zz5, zz6, zz7, zz8]; exact rfl)
      refine h_tail [] rfl (by simp) (z_nil (hK' _ _ ?_))
      clear Q1 S4 hC0 hCb hK'
      go_wp2
      go_ret2
      rw [HE.out, HS.out]
      exact ⟨rfl, D4.out⟩
    ·have er : decide (nrightN C) = false := decide_eq_false hri
     rw [er]
     have hE : plainE b (q : Int) = 14 := by rw [HPE.out, if_neg (by simpa using HLO.out), if_neg (fun h => hri (OK_.out.1 h).1)]
     have hS : plainS b (q : Int) = [] := by rw [plainS, hE]; rfl
     have HE := hid hE
     have HS := hid hS
     clear er hE hS hri
     repeat
      (first
       | (with_reducible refine h_pure (v := ?_) (a' := ?_) ?_ (fun _ => ?_) ?_ ?_); rotate_left 2; (focus (exact rfl)); (focus (go_simp; (try go_bits); exact rfl))
       | (with_reducible refine h_obl (v := ?_) (a' := ?_) ?_ (fun _ hcw => ?_) ?_ ?_); rotate_left 2; (focus (exact rfl)); (focus (go_simp; (try go_bits); exact rfl))
       | (with_reducible refine h_read (v := ?_) (a' := ?_) ?_ (fun _ hbw => ?_) ?_ ?_); rotate_left 2; (focus (exact rfl)); (focus (go_simp; (try go_bits); exact rfl)))
      focus (simp only [Act.put, zz1, zz2, zz3, Act.eval, zz4, zz5, zz6, zz7, zz8]; exact rfl)
     repeat
      (first
       | (with_reducible refine h_skip0 (a' := ?_) ?_ ?_ ?_); rotate_left; (focus (exact rfl))
       | (with_reducible refine h_skip5 (a' := ?_) ?_ ?_ ?_); rotate_left; (focus (exact rfl))
       | (with_reducible refine h_skip1 (a' := ?_) ?_ ?_ ?_); rotate_left; (focus (exact rfl))
       | (with_reducible refine h_skip2 (a' := ?_) ?_ ?_ ?_); rotate_left; (focus (exact rfl)))
      focus (simp only [Act.put, zz1, zz2, zz3, Act.eval, zz4, zz5, zz6, zz7, zz8]; exact rfl)
     repeat
      (first
       | (with_reducible refine h_pure (v := ?_) (a' := ?_) ?_ (fun _ => ?_) ?_ ?_); rotate_left 2; (focus (exact rfl)); (focus (go_simp; (try go_bits); exact rfl))
       | (with_reducible refine h_obl (v := ?_) (a' := ?_) ?_ (fun _ hcw => ?_) ?_ ?_); rotate_left 2; (focus (exact rfl)); (focus (go_simp; (try go_bits); exact rfl))
       | (with_reducible refine h_read (v := ?_) (a' := ?_) ?_ (fun _ hbw => ?_) ?_ ?_); rotate_left 2; (focus (exact rfl)); (focus (go_simp; (try go_bits); exact rfl)))
      focus (simp only [Act.put, zz1, zz2, zz3, Act.eval, zz4, zz5, zz6, zz7, zz8]; exact rfl)
     refine h_tail [] rfl (by simp) (z_nil (hK' _ _ ?_))
     clear hC0 hCb hK'
     have D4 := hid ((Below.refl w.heap.size w).drew)
     go_wp2
     go_ret2
     rw [HE.out, HS.out]
     exact ⟨rfl, D4.out⟩
   ·subst ha
    have e0 : (0 : Int) < (k : Int) := by omega
    have e1 : (k : Int) - 1 = (j : Int) := by omega
    have e2 : IntKind.i64.wrap (j : Int) = (j : Int) := by rw [IntKind.wrap_i64]; omega
    have e3 : (0 : Int) ≤ (j : Int) := by omega
    have e4 : (j : Int) < (n : Int) := by omega
    have e5 : (x == 0#8) = false := by simpa using hx
    have e6 : ¬ x = 0#8 := hx
    clear hj
    go_upto_region 7 with fail
    refine wp_region_tail [0,2,0,0,0,0,2,1,0,5,0,0] (by kernel_rfl) (by kernel_rfl) (fun C0 hC0 hCb K' hK' => ?_)
    repeat
     (first
      | (with_reducible refine h_pure (v := ?_) (a' := ?_) ?_ (fun _ => ?_) ?_ ?_); rotate_left 2; (focus (exact rfl)); (focus (go_simp; (try go_bits); exact rfl))
      | (with_reducible refine h_obl (v := ?_) (a' := ?_) ?_ (fun _ hcw => ?_) ?_ ?_); rotate_left 2; (focus (exact rfl)); (focus (go_simp; (try go_bits); exact rfl))
      | (with_reducible refine h_read (v := ?_) (a' := ?_) ?_ (fun _ hbw => ?_) ?_ ?_); rotate_left 2; (focus (exact rfl)); (focus (go_simp; (try go_bits); exact rfl)))
     focus (simp only [Act.put, zz1, zz2, zz3, Act.eval, zz4, zz5, zz6, zz7, zz8]; exact rfl)
    (with_reducible refine h_call ?_ ?_)
    ·exact rfl
    go_simp
    refine entersW_of ?_
    refine (RR.out w.drew).mono ?_
    rintro e w3 ⟨rfl, rfl⟩
    refine ⟨_, rfl, (Below.refl _ _), ?_⟩
    try simp only [Act.put, zz1, zz2, zz3]
    by_cases hri : nrightN C
    ·have er : decide (nrightN C) = true := decide_eq_true hri
     rw [er]
     clear er
     repeat
      (first
       | (with_reducible refine h_pure (v := ?_) (a' := ?_) ?_ (fun _ => ?_) ?_ ?_); rotate_left 2; (focus (exact rfl)); (focus (go_simp; (try go_bits); exact rfl))
       | (with_reducible refine h_obl (v := ?_) (a' := ?_) ?_ (fun _ hcw => ?_) ?_ ?_); rotate_left 2; (focus (exact rfl)); (focus (go_simp; (try go_bits); exact rfl))
       | (with_reducible refine h_read (v := ?_) (a' := ?_) ?_ (fun _ hbw => ?_) ?_ ?_); rotate_left 2; (focus (exact rfl)); (focus (go_simp; (try go_bits); exact rfl)))
      focus (simp only [Act.put, zz1, zz2, zz3, Act.eval, zz4, zz5, zz6, zz7, zz8]; exact rfl)
     (with_reducible refine h_call ?_ ?_)
     ·exact rfl
     go_simp
     refine entersW_of ?_
     refine (PP.out w.drew hri.1 hri.2.1).mono ?_
     rintro e w4 ⟨a4, m4, c4, rfl, hm4, r4, d4⟩
     refine ⟨_, rfl, d4, ?_⟩
     try simp only [Act.put, zz1, zz2, zz3]
     obtain ⟨X, hX⟩ : ∃ X, X = rpadN C q := ⟨_, rfl⟩
     rw [← hX] at r4
     have S4 : ∀ w1, Below w4.heap.size w4 w1 → (convert 22 9 (.slice a4 m4 c4)).run Tryz.prog w1 = .ok (.string (str X)) w1 := fun w1 hw => run_str (P := Tryz.prog) w1 22 9 5 a4 m4 c4 X Tryz.underlying22 Tryz.underlying9 Tryz.underlying5 (r4.below hw)
     have Q1 : ∀ w1, C0 w1 → (convert 22 9 (.slice (some ⟨ba, bo, none⟩) n c)).run Tryz.prog w1 = .ok (.string (str b)) w1 := fun w1 hw => run_str (P := Tryz.prog) w1 22 9 5 (some ⟨ba, bo, none⟩) n c b Tryz.underlying22 Tryz.underlying9 Tryz.underlying5 (R0.out.drew.below (hCb w1 hw))
     have D4 := hid ((Below.refl w.heap.size w).drew.trans d4)
     have sb := str_beq X b
     have HX := hid hX
     by_cases hxb : X = b
     ·have eb : ((str X).toList == (str b).toList) = true := by rw [sb]; simpa using hxb
      have hE : plainE b (q : Int) = 0 := by rw [HPE.out, if_neg (by simpa using HLO.out), if_pos (OK_.out.2 ⟨hri, by rw [← HX.out]; exact hxb⟩)]
      have hS : plainS b (q : Int) = C := by rw [plainS, if_pos hE, HC.out]
      have HE := hid hE
      have HS := hid hS
      clear hE hS hX sb hxb hm4 r4 d4 hri
      have eb2 : (str X).toList = (str b).toList := by simpa using eb
      repeat
       (first
        | (with_reducible refine h_pure (v := ?_) (a' := ?_) ?_ (fun _ => ?_) ?_ ?_); rotate_left 2; (focus (exact rfl)); (focus (go_simp; (try go_bits); exact rfl))
        | (with_reducible refine h_obl (v := ?_) (a' := ?_) ?_ (fun _ hcw => ?_) ?_ ?_); rotate_left 2; (focus (exact rfl)); (focus (have f1 := Q1 _ hcw; go_simp; (try go_bits); exact rfl))
        | (with_reducible refine h_read (v := ?_) (a' := ?_) ?_ (fun _ hbw => ?_) ?_ ?_); rotate_left 2; (focus (exact rfl)); (focus (have g1 := S4 _ hbw; go_simp; (try go_bits); exact rfl)))
       focus (simp only [Act.put, zz1, zz2, zz3, Act.eval, zz4, zz5, zz6, zz7, zz8]; exact rfl)
      refine h_tail [] rfl (by simp) (z_nil (hK' _ _ ?_))
      clear Q1 S4 hC0 hCb hK'
      go_wp2
      go_ret2
      rw [HE.out, HS.out]
      exact ⟨rfl, D4.out⟩
     ·have eb : ((str X).toList == (str b).toList) = false := by rw [sb]; simpa using hxb
      have hE : plainE b (q : Int) = 14 := by rw [HPE.out, if_neg (by simpa using HLO.out), if_neg (fun h => hxb (by rw [HX.out]; exact (OK_.out.1 h).2))]
      have hS : plainS b (q : Int) = [] := by rw [plainS, hE]; rfl
      have HE := hid hE
      have HS := hid hS
      clear hE hS hX sb hxb hm4 r4 d4 hri
      have eb2 : ¬ (str X).toList = (str b).toList := by simpa using eb
      repeat
       (first
        | (with_reducible refine h_pure (v := ?_) (a' := ?_) ?_ (fun _ => ?_) ?_ ?_); rotate_left 2; (focus (exact rfl)); (focus (go_simp; (try go_bits); exact rfl))
        | (with_reducible refine h_obl (v := ?_) (a' := ?_) ?_ (fun _ hcw => ?_) ?_ ?_); rotate_left 2; (focus (exact rfl)); (focus (have f1 := Q1 _ hcw; go_simp; (try go_bits); exact rfl))
        | (with_reducible refine h_read (v := ?_) (a' := ?_) ?_ (fun _ hbw => ?_) ?_ ?_); rotate_left 2; (focus (exact rfl)); (focus (have g1 := S4 _ hbw; go_simp; (try go_bits); exact rfl)))
       focus (simp only [Act.put, zz1, zz2, zz3, Act.eval, zz4, zz5, zz6, zz7, zz8]; exact rfl)
      refine h_tail [] rfl (by simp) (z_nil (hK' _ _ ?_))
      clear Q1 S4 hC0 hCb hK'
      go_wp2
      go_ret2
      rw [HE.out, HS.out]
      exact ⟨rfl, D4.out⟩
    ·have er : decide (nrightN C) = false := decide_eq_false hri
     rw [er]
     have hE : plainE b (q : Int) = 14 := by rw [HPE.out, if_neg (by simpa using HLO.out), if_neg (fun h => hri (OK_.out.1 h).1)]
     have hS : plainS b (q : Int) = [] := by rw [plainS, hE]; rfl
     have HE := hid hE
     have HS := hid hS
     clear er hE hS hri
     repeat
      (first
       | (with_reducible refine h_pure (v := ?_) (a' := ?_) ?_ (fun _ => ?_) ?_ ?_); rotate_left 2; (focus (exact rfl)); (focus (go_simp; (try go_bits); exact rfl))
       | (with_reducible refine h_obl (v := ?_) (a' := ?_) ?_ (fun _ hcw => ?_) ?_ ?_); rotate_left 2; (focus (exact rfl)); (focus (go_simp; (try go_bits); exact rfl))
       | (with_reducible refine h_read (v := ?_) (a' := ?_) ?_ (fun _ hbw => ?_) ?_ ?_); rotate_left 2; (focus (exact rfl)); (focus (go_simp; (try go_bits); exact rfl)))
      focus (simp only [Act.put, zz1, zz2, zz3, Act.eval, zz4, zz5, zz6, zz7, zz8]; exact rfl)
     repeat
      (first
       | (with_reducible refine h_skip0 (a' := ?_) ?_ ?_ ?_); rotate_left; (focus (exact rfl))
       | (with_reducible refine h_skip5 (a' := ?_) ?_ ?_ ?_); rotate_left; (focus (exact rfl))
       | (with_reducible refine h_skip1 (a' := ?_) ?_ ?_ ?_); rotate_left; (focus (exact rfl))
       | (with_reducible refine h_skip2 (a' := ?_) ?_ ?_ ?_); rotate_left; (focus (exact rfl)))
      focus (simp only [Act.put, zz1, zz2, zz3, Act.eval, zz4, zz5, zz6, zz7, zz8]; exact rfl)
     repeat
      (first
       | (with_reducible refine h_pure (v := ?_) (a' := ?_) ?_ (fun _ => ?_) ?_ ?_); rotate_left 2; (focus (exact rfl)); (focus (go_simp; (try go_bits); exact rfl))
       | (with_reducible refine h_obl (v := ?_) (a' := ?_) ?_ (fun _ hcw => ?_) ?_ ?_); rotate_left 2; (focus (exact rfl)); (focus (go_simp; (try go_bits); exact rfl))
       | (with_reducible refine h_read (v := ?_) (a' := ?_) ?_ (fun _ hbw => ?_) ?_ ?_); rotate_left 2; (focus (exact rfl)); (focus (go_simp; (try go_bits); exact rfl)))
      focus (simp only [Act.put, zz1, zz2, zz3, Act.eval, zz4, zz5, zz6, zz7, zz8]; exact rfl)
     refine h_tail [] rfl (by simp) (z_nil (hK' _ _ ?_))
     clear hC0 hCb hK'
     have D4 := hid ((Below.refl w.heap.size w).drew)
     go_wp2
     go_ret2
     rw [HE.out, HS.out]
     exact ⟨rfl, D4.out⟩
end Go.Proofs.YtpifdkkhdgbcdaaGreatDoor
