/- NamePlain: the walk -/
import Derived.Test.YtpifdkkhdgbcdaaGreatDoorMNb
import Derived.Test.YtpifdkkhdgbcdaaGreatDoorMNq1
import Derived.Test.YtpifdkkhdgbcdaaGreatDoorMGk
namespace Go.Proofs.YtpifdkkhdgbcdaaGreatDoor
open Lib (hid)
set_option linter.unusedSimpArgs false
set_option maxRecDepth 100000
set_option maxHeartbeats 1600000
open Go.RowKit
theorem build_pads (w : World) : (buildB3 45 (.int .i64 16) (.int .i64 32) (.int .i64 64)).run Tryz.prog w = .ok (.agg #[.int .i64 16, .int .i64 32, .int .i64 64]) w := by kernel_rfl
theorem index_pads0 (w : World) : (Instr.index 45 (.agg #[.int .i64 16, .int .i64 32, .int .i64 64]) (v8 0#8)).run Tryz.prog w = .ok (.int .i64 16) w := by kernel_rfl
theorem index_pads1 (w : World) : (Instr.index 45 (.agg #[.int .i64 16, .int .i64 32, .int .i64 64]) (v8 1#8)).run Tryz.prog w = .ok (.int .i64 32) w := by kernel_rfl
theorem index_pads2 (w : World) : (Instr.index 45 (.agg #[.int .i64 16, .int .i64 32, .int .i64 64]) (v8 2#8)).run Tryz.prog w = .ok (.int .i64 64) w := by kernel_rfl
theorem mod3 (k : BitVec 8) : k % 3#8 = 0#8 ∨ k % 3#8 = 1#8 ∨ k % 3#8 = 2#8 := by
 have h : (k % 3#8).toNat < 3 := by rw [BitVec.toNat_umod]; exact Nat.mod_lt _ (by decide)
 have e : ∀ m : Nat, m < 256 → (k % 3#8).toNat = m → k % 3#8 = BitVec.ofNat 8 m := fun m hm h => by
  apply BitVec.eq_of_toNat_eq; rw [h, BitVec.toNat_ofNat]; omega
 rcases (by omega : (k % 3#8).toNat = 0 ∨ (k % 3#8).toNat = 1 ∨ (k % 3#8).toNat = 2) with h | h | h
 ·exact .inl (e 0 (by omega) h)
 ·exact .inr (.inl (e 1 (by omega) h))
 ·exact .inr (.inr (e 2 (by omega) h))
theorem pads3 (k : BitVec 8) : ∃ q : Nat, padOk q ∧ ∀ w, (Instr.index 45 (.agg #[.int .i64 16, .int .i64 32, .int .i64 64]) (v8 (k % 3#8))).run Tryz.prog w = .ok (.int .i64 (q : Int)) w := by
 rcases mod3 k with h | h | h <;> rw [h]
 ·exact ⟨16, .inl rfl, index_pads0⟩
 ·exact ⟨32, .inr (.inl rfl), index_pads1⟩
 ·exact ⟨64, .inr (.inr rfl), index_pads2⟩
theorem NamePlain_walk (l : List (BitVec 8)) (a : Option Addr) (n c : Nat) (b : List (BitVec 8)) (k : BitVec 8) (w : World) (hl : l.length ≤ maxLen) (hr : Rd8 w a n c b) (hT : Turning w) :
  Calls Tryz.prog 4 #[.string (str l), .slice a n c, v8 k] w fun e w' => e = .returned (.bool true) ∧ Below w.heap.size w w' := by
 have hsz := str_size l
 obtain ⟨m, hm⟩ : ∃ m, m = l.length := ⟨_, rfl⟩
 rw [← hm] at hsz
 have HM := hid hm
 obtain ⟨q, hq, hix⟩ := pads3 k
 have hbd := build_pads
 have R0 := hid hr
 have T0 := hid hT
 have HQ := hid hq
 clear hm hr hT
 have RR1 := hid (refRight27_any l w (by unfold maxLen at hl; omega))
 clear hl
 go_enter Tryz.func4, Tryz.ntmps4
 by_cases hri : nrightN l
 rotate_left
 ·rw [decide_eq_false hri] at RR1
  go_wp2_with fail
  refine RR1.out.mono ?_
  rintro e w1 ⟨rfl, rfl⟩
  go_wp2
  go_ret
  exact ⟨rfl, Below.refl _ _⟩
 rw [decide_eq_true hri] at RR1
 by_cases hn3 : 300 < n
 ·have e2 : (300 : Int) < (n : Int) := by omega
  go_wp2_with fail
  refine RR1.out.mono ?_
  rintro e w1 ⟨rfl, rfl⟩
  go_wp2
  go_ret
  exact ⟨rfl, Below.refl _ _⟩
 have e2 : ¬ (300 : Int) < (n : Int) := by omega
 have hkq : knownN (q : Int) = 0 := by unfold knownN padOk at *; rw [if_pos (by omega)]
 have hpe : padE l (q : Int) = 0 := by rw [padE, if_neg (by rw [hkq]; decide), rightE, if_pos hri]
 have PD := hid (npadded_any l (q : Int) w (by have := hri.2.1; omega))
 rw [hpe, Int.toNat_natCast] at PD
 obtain ⟨X, hX⟩ : ∃ X, X = npadN l q := ⟨_, rfl⟩
 rw [← hX] at PD
 have hXl : X.length = nroomN m q := by rw [hX, npadN_length l q hq hri.2.1, HM.out]
 have hXn := nroomN_long m q hq (by rw [HM.out]; exact hri.1) (by rw [HM.out]; exact hri.2.1)
 have hXm := nroomN_ge m q hq (by rw [HM.out]; exact hri.2.1)
 obtain ⟨N, hN⟩ : ∃ N, N = nroomN m q := ⟨_, rfl⟩
 rw [← hN] at hXl hXn hXm
 have hz : ∀ t, m ≤ t → t < N → nth X t = 0#8 := fun t ht _ => by
  rw [hX, npadN, nth_append, if_neg (by rw [← HM.out]; omega), nth_zeros]
 have htk : X.take m = l := by rw [hX, npadN, HM.out, List.take_left' rfl]
 have hm1 : 1 ≤ m := by rw [HM.out]; exact hri.1
 have hok : plainOk X q := by rw [hX]; exact plainOk_pad l q hq hri
 have hpx : plainE X (q : Int) = 0 := by rw [plainE, if_neg (by rw [hkq]; decide), if_neg (by rw [hXl]; simpa using hXn), if_pos (by simpa using hok)]
 have hpsx : plainS X (q : Int) = l := by rw [plainS, if_pos hpx, hX, cutN_pad l q hri]
 have hN255 : N ≤ 255 := hXn.2.1
 have HX := hid hX
 have HZ := hid hz
 have TK := hid htk
 have PX := hid hpx
 have PSX := hid hpsx
 have HRI := hid hri
 have HKQ := hid hkq
 clear hX hz htk hpx hpsx hri hok hpe hkq hN hXn
 go_wp2_with fail
 refine RR1.out.mono ?_
 rintro e w1 ⟨rfl, rfl⟩
 clear RR1
 go_wp2_with fail
 refine PD.out.mono ?_
 rintro e w1 ⟨v1, rfl, _, hv1, d1⟩
 have OO := hv1 (by simp)
 clear PD hv1
 obtain ⟨gx, cx, rfl, _, hgx⟩ := OO.form (by omega)
 have RX := OO.rdAt
 rw [hXl] at RX ⊢
 have rp := RX.pre hXm
 rw [TK.out] at rp
 have hs1 := run_str (P := Tryz.prog) w1 22 9 5 (some ⟨gx, 0, none⟩) m cx l Tryz.underlying22 Tryz.underlying9 Tryz.underlying5 rp
 have hsl : ¬ (N : Int) < (m : Int) := by omega
 have hs0 : (0 : Int) ≤ (m : Int) := by omega
 have hs2 : (m : Int) ≤ (cx : Int) := by have := RX.2.1; omega
 have hs3 : ¬ (255 : Int) < (N : Int) := by omega
 have RX1 := hid RX
 have R1 := hid (R0.out.below d1)
 have T1 := hid (T0.out.below d1)
 have B1 := hid d1
 clear RX rp OO d1 R0 T0
 have CX : ∀ j, j < N → w1.cell? ⟨gx, j, none⟩ = some (v8 (nth X j)) := fun j hj => by
  obtain ⟨b2, o2, e2, _, hc⟩ := RX1.out.2.2.2 (by omega)
  cases e2
  have := hc j hj
  rwa [Nat.zero_add] at this
 have CXH := hid CX
 clear CX
 go_wp2_with fail
 go_loopw [10] (fun i wr => ∃ j : Nat, m ≤ j ∧ j ≤ N ∧ i = .int .i64 j ∧ w1 = wr) (fun i _ => N - (intOf i).toNat)
 case atStart => exact ⟨m, Nat.le_refl _, hXm, rfl, rfl⟩
 case round =>
  obtain ⟨j, hmj, hj, rfl, rfl⟩ := hrel
  by_cases hjn : j < N
  ·have j1 : (j : Int) < (N : Int) := by omega
   have j0 : (0 : Int) ≤ (j : Int) := by omega
   obtain ⟨J, hJ⟩ : ∃ J, J = j + 1 := ⟨_, rfl⟩
   have a1 : (j : Int) + 1 = (J : Int) := by omega
   have a2 : IntKind.i64.wrap (J : Int) = (J : Int) := by rw [IntKind.wrap_i64]; omega
   have HJ := hid hJ
   have c1 := CXH.out j hjn
   rw [HZ.out j hmj hjn] at c1
   clear hJ
   go_wp2
   exact ⟨⟨j + 1, by omega, by omega, by rw [HJ.out], trivial⟩, by have := HJ.out; simp only [intOf, Int.toNat_natCast]; omega⟩
  ·have j1 : ¬ (j : Int) < (N : Int) := by omega
   have P1 := hid (nplain_any X (q : Int) (some ⟨gx, 0, none⟩) N cx w1 RX1.out (by omega))
   rw [PX.out, PSX.out] at P1
   go_wp2_with fail
   refine P1.out.mono ?_
   rintro e w2 ⟨rfl, d2⟩
   have R2 := hid (R1.out.below d2)
   have T2 := hid (T1.out.below d2)
   have RX2 := hid (RX1.out.below d2)
   have B2 := hid (B1.out.trans (d2.mono B1.out.size))
   have P2 := hid (nplain_any b (q : Int) a n c w2 R2.out (by omega))
   obtain ⟨S2, hS2⟩ : ∃ z, z = plainS b (q : Int) := ⟨_, rfl⟩
   obtain ⟨E2, hE2⟩ : ∃ z, z = plainE b (q : Int) := ⟨_, rfl⟩
   rw [← hS2, ← hE2] at P2
   have ES2 := hid hS2
   have EE2 := hid hE2
   clear d2 hS2 hE2 P1 R1 T1 RX1 B1
   go_wp2_with fail
   refine P2.out.mono ?_
   rintro e w3 ⟨rfl, d3⟩
   have R3 := hid (R2.out.below d3)
   have T3 := hid (T2.out.below d3)
   have RX3 := hid (RX2.out.below d3)
   have B3 := hid (B2.out.trans (d3.mono B2.out.size))
   clear d3 P2 R2 T2 RX2 B2
   have AW := hid (awake27_any w3 T3.out)
   have sb := str_beq S2 l
   by_cases he : E2 = 0
   rotate_left
   ·have k1 : (E2 == 0) = false := by simpa using he
    clear sb
    go_wp2_with fail
    refine AW.out.mono ?_
    rintro e w4 ⟨rfl, d4⟩
    go_wp2
    go_ret
    exact ⟨rfl, B3.out.trans (d4.mono B3.out.size)⟩
   ·subst he
    by_cases hs : S2 = l
    ·subst hs
     have hkq := HKQ.out
     have hok : plainOk b q := by
      have := EE2.out
      unfold plainE at this
      rw [if_neg (by rw [hkq]; decide), Int.toNat_natCast] at this
      by_cases h1 : ¬ nlongN b.length q
      ·rw [if_pos h1] at this; cases this
      ·rw [if_neg h1] at this
       by_cases h2 : plainOk b q
       ·exact h2
       ·rw [if_neg h2] at this; cases this
     have hbX : b = X := by
      have h2 := ES2.out
      rw [plainS, if_pos EE2.out.symm] at h2
      rw [HX.out, h2, plain_pad b q hok]
     have hs4 := run_str (P := Tryz.prog) w3 22 9 5 a n c b Tryz.underlying22 Tryz.underlying9 Tryz.underlying5 R3.out
     have hs5 := run_str (P := Tryz.prog) w3 22 9 5 (some ⟨gx, 0, none⟩) N cx X Tryz.underlying22 Tryz.underlying9 Tryz.underlying5 RX3.out
     rw [hbX] at hs4
     clear sb hok hkq hbX ES2 EE2
     go_wp2_with fail
     refine AW.out.mono ?_
     rintro e w4 ⟨rfl, d4⟩
     go_wp2
     go_ret
     exact ⟨rfl, B3.out.trans (d4.mono B3.out.size)⟩
    ·have eb : ((str S2).toList == (str l).toList) = false := by rw [sb]; simpa using hs
     have eb2 : ¬ (str S2).toList = (str l).toList := by simpa using eb
     clear sb hs
     go_wp2_with fail
     refine AW.out.mono ?_
     rintro e w4 ⟨rfl, d4⟩
     go_wp2
     go_ret
     exact ⟨rfl, B3.out.trans (d4.mono B3.out.size)⟩
end Go.Proofs.YtpifdkkhdgbcdaaGreatDoor
