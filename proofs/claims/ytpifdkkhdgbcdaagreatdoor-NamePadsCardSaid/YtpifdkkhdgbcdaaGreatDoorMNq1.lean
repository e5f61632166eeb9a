/- names by definition: Pad, Right, Long -/
import Derived.Test.YtpifdkkhdgbcdaaGreatDoorMNa
import Derived.Test.YtpifdkkhdgbcdaaGreatDoorMNc
namespace Go.Proofs.YtpifdkkhdgbcdaaGreatDoor
open Lib (hid)
set_option linter.unusedSimpArgs false
set_option maxRecDepth 100000
set_option maxHeartbeats 1600000
open Go.RowKit
theorem refPad27_any (p : Int) (w : World) :
  Calls Tryz.prog 11 #[.int .i64 p] w fun e w' => e = .returned (.bool (decide (knownN p = 0))) ∧ w = w' := by
 go_enter Tryz.func11, Tryz.ntmps11
 by_cases h1 : p = 16
 ·subst h1
  go_wp2
  go_ret
  exact ⟨rfl, rfl⟩
 ·have k1 : (p == 16) = false := by simpa using h1
  by_cases h2 : p = 32
  ·subst h2
   go_wp2
   go_ret
   exact ⟨rfl, rfl⟩
  ·have k2 : (p == 32) = false := by simpa using h2
   by_cases h3 : p = 64
   ·subst h3
    go_wp2
    go_ret
    exact ⟨rfl, rfl⟩
   ·have k3 : (p == 64) = false := by simpa using h3
    have e : decide (knownN p = 0) = false := by rw [knownN, if_neg (by omega)]; rfl
    go_wp2
    go_ret
    first | exact ⟨rfl, rfl⟩ | exact ⟨by rw [e]; rfl, rfl⟩
theorem refRight27_any (l : List (BitVec 8)) (w : World) (hl : l.length ≤ 9223372036854775807) :
  Calls Tryz.prog 14 #[.string (str l)] w fun e w' => e = .returned (.bool (decide (nrightN l))) ∧ w = w' := by
 have hsz := str_size l
 obtain ⟨n, hn⟩ : ∃ n, n = l.length := ⟨_, rfl⟩
 rw [← hn] at hsz hl
 have HN := hid hn
 go_enter Tryz.func14, Tryz.ntmps14
 clear hn
 go_wp2_with fail
 go_loopw [3] (fun i wr => ∃ j : Nat, j ≤ n ∧ i = .int .i64 j ∧ (∀ t, t < j → nth l t ≠ 0#8) ∧ w = wr) (fun i _ => n - (intOf i).toNat)
 case atStart => exact ⟨0, by omega, rfl, fun t h => by omega, rfl⟩
 case round =>
  obtain ⟨j, hj, rfl, hz, rfl⟩ := hrel
  have HZ := hid hz
  clear hz
  by_cases hjn : j < n
  ·have j1 : (j : Int) < (n : Int) := by omega
   have hjl : j < l.length := by rw [← HN.out]; exact hjn
   obtain ⟨J, hJ⟩ : ∃ J, J = j + 1 := ⟨_, rfl⟩
   have a1 : (j : Int) + 1 = (J : Int) := by omega
   have a2 : IntKind.i64.wrap (J : Int) = (J : Int) := by rw [IntKind.wrap_i64]; omega
   have HJ := hid hJ
   have hix := fun w1 => index_strT l j hjl w1
   obtain ⟨x, hx⟩ : ∃ x, x = nth l j := ⟨_, rfl⟩
   rw [← hx] at hix
   have HX := hid hx
   clear hJ hx hjl
   by_cases h0 : x = 0#8
   ·have e0 : (x == 0#8) = true := by simpa using h0
    have er : decide (nrightN l) = false := decide_eq_false fun h => h.2.2 j (by rw [← HN.out]; exact hjn) (by rw [← HX.out]; exact h0)
    clear h0
    go_wp2
    go_ret
    first | exact ⟨rfl, rfl⟩ | exact ⟨by rw [er]; rfl, rfl⟩
   ·have e0 : (x == 0#8) = false := by simpa using h0
    have h3 : ∀ t, t < j + 1 → nth l t ≠ 0#8 := fun t ht => by
     by_cases e : t = j
     ·rw [e, ← HX.out]; exact h0
     ·exact HZ.out t (by omega)
    have H3 := hid h3
    clear h0 h3
    go_wp2
    exact ⟨⟨j + 1, by omega, by rw [HJ.out], H3.out, trivial⟩, by have := HJ.out; simp only [intOf, Int.toNat_natCast]; omega⟩
  ·have hall : ∀ t, t < l.length → nth l t ≠ 0#8 := fun t ht => HZ.out t (by have := HN.out; omega)
   have j1 : ¬ (j : Int) < (n : Int) := by omega
   by_cases h1 : 1 ≤ n
   ·have e1 : (1 : Int) ≤ (n : Int) := by omega
    by_cases h2 : n ≤ 255
    ·have e2 : (n : Int) ≤ 255 := by omega
     have er : decide (nrightN l) = true := decide_eq_true ⟨by rw [← HN.out]; exact h1, by rw [← HN.out]; exact h2, hall⟩
     clear hall
     go_wp2
     go_ret
     first | exact ⟨rfl, rfl⟩ | exact ⟨by rw [er]; rfl, rfl⟩
    ·have e2 : ¬ (n : Int) ≤ 255 := by omega
     have er : decide (nrightN l) = false := decide_eq_false fun h => h2 (by have := h.2.1; rw [← HN.out] at this; exact this)
     clear hall
     go_wp2
     go_ret
     first | exact ⟨rfl, rfl⟩ | exact ⟨by rw [er]; rfl, rfl⟩
   ·have e1 : ¬ (1 : Int) ≤ (n : Int) := by omega
    have er : decide (nrightN l) = false := decide_eq_false fun h => h1 (by have := h.1; rw [← HN.out] at this; exact this)
    clear hall
    go_wp2
    go_ret
    first | exact ⟨rfl, rfl⟩ | exact ⟨by rw [er]; rfl, rfl⟩
theorem refLong27_any (n q : Nat) (w : World) (hq : padOk q) (hn : n ≤ 1000000) :
  Calls Tryz.prog 28 #[.int .i64 n, .int .i64 q] w fun e w' => e = .returned (.bool (decide (nlongN n q))) ∧ w = w' := by
 obtain ⟨R, hR⟩ : ∃ R, R = n % q := ⟨_, rfl⟩
 have hq0 : 1 ≤ q ∧ q ≤ 64 := by rcases hq with rfl | rfl | rfl <;> omega
 have hRq : R < q := by rw [hR]; exact Nat.mod_lt _ (by omega)
 have e1 : (n : Int) % (q : Int) = (R : Int) := by rw [hR]; exact (Int.natCast_emod n q).symm
 have e2 : Int.tmod (n : Int) (q : Int) = (R : Int) := by rw [Int.tmod_eq_emod_of_nonneg (by omega)]; exact e1
 have e3 : IntKind.i64.wrap (R : Int) = (R : Int) := by rw [IntKind.wrap_i64]; omega
 have e4 : ¬ (q : Int) = 0 := by omega
 have e5 : ((q : Int) == 0) = false := by simp; omega
 have HR := hid hR
 clear hR
 go_enter Tryz.func28, Tryz.ntmps28
 by_cases h1 : 1 ≤ n ∧ n ≤ 255
 ·have f1 : (1 : Int) ≤ (n : Int) := by omega
  have f2 : (n : Int) ≤ 255 := by omega
  by_cases h2 : R = 0
  ·have er : decide (nlongN n q) = true := decide_eq_true ⟨h1.1, h1.2, .inl (by rw [← HR.out]; exact h2)⟩
   have g1 : (n : Int) % (q : Int) = 0 := by rw [e1, h2]; rfl
   have g2 : Int.tmod (n : Int) (q : Int) = 0 := by rw [e2, h2]; rfl
   have g3 : IntKind.i64.wrap 0 = 0 := by rw [IntKind.wrap_i64]; rfl
   clear e1 e2 e3 h2 hRq
   go_wp2
   go_ret
   first | exact ⟨rfl, rfl⟩ | exact ⟨by rw [er]; rfl, rfl⟩
  ·have f3 : ((R : Int) == 0) = false := by simp; omega
   have f4 : ¬ (R : Int) = 0 := by omega
   by_cases h3 : n = 255
   ·have er : decide (nlongN n q) = true := decide_eq_true ⟨h1.1, h1.2, .inr h3⟩
    subst h3
    have g1 : (255 : Int) % (q : Int) = (R : Int) := e1
    have g2 : Int.tmod (255 : Int) (q : Int) = (R : Int) := e2
    clear e1 e2 f1 f2
    go_wp2
    go_ret
    first | exact ⟨rfl, rfl⟩ | exact ⟨by rw [er]; rfl, rfl⟩
   ·have er : decide (nlongN n q) = false := decide_eq_false fun h => by
     rcases h.2.2 with h | h
     ·exact h2 (by rw [HR.out]; exact h)
     ·exact h3 h
    have f5 : ((n : Int) == 255) = false := by simp; omega
    have f6 : ¬ (n : Int) = 255 := by omega
    go_wp2
    go_ret
    first | exact ⟨rfl, rfl⟩ | exact ⟨by rw [er]; rfl, rfl⟩
 ·have er : decide (nlongN n q) = false := decide_eq_false fun h => h1 ⟨h.1, h.2.1⟩
  by_cases h2 : 1 ≤ n
  ·have f1 : (1 : Int) ≤ (n : Int) := by omega
   have f2 : ¬ (n : Int) ≤ 255 := by omega
   go_wp2
   go_ret
   first | exact ⟨rfl, rfl⟩ | exact ⟨by rw [er]; rfl, rfl⟩
  ·have f1 : ¬ (1 : Int) ≤ (n : Int) := by omega
   go_wp2
   go_ret
   first | exact ⟨rfl, rfl⟩ | exact ⟨by rw [er]; rfl, rfl⟩
end Go.Proofs.YtpifdkkhdgbcdaaGreatDoor
