/- wide's Cipher over adiantum: New, Encipher; name's New -/
import Derived.Test.YtpifdkkhdgbcdaaGreatDoorMNa
import Derived.Test.YtpifdkkhdgbcdaaGreatDoorMHi
import Derived.Test.YtpifdkkhdgbcdaaGreatDoorMHm
import Derived.Test.YtpifdkkhdgbcdaaGreatDoorMGw
namespace Go.Proofs.YtpifdkkhdgbcdaaGreatDoor
open Lib (hid)
set_option linter.unusedSimpArgs false
set_option maxRecDepth 100000
set_option maxHeartbeats 1600000
open Go.RowKit
theorem schemed_any (p : Nat) (key : List (BitVec 8)) (a : Option Addr) (c : Nat) (w : World) (hT : TabAt w p) (hr : Rd8 w a 32 c key) :
  Calls Tryz.prog 20 #[.pointer (some ⟨p, 0, none⟩), .int .i64 1, .slice a 32 c] w fun e w' => ∃ q, e = .returned (.tuple #[.iface 81 (.pointer (some ⟨q, 0, none⟩)), .int .i64 0]) ∧ AcAt w' q p key ∧ Below w.heap.size w w' := by
 have T0 := hid hT
 have R0 := hid hr
 clear hT hr
 go_enter Tryz.func20, Tryz.ntmps20
 go_wp2_with fail
 refine (anew_any p key a c w T0.out R0.out).mono ?_
 rintro e w1 ⟨q, rfl, h1, h2, d1⟩
 have A1 := hid h1
 have D1 := hid d1
 clear h1 h2 d1
 go_wp2
 go_ret2
 exact ⟨q, rfl, A1.out, D1.out⟩
def WC (q : Nat) : Array Value := #[.int .i64 1, .iface 81 (.pointer (some ⟨q, 0, none⟩))]
def NC (g : Nat) (p : Int) : Array Value := #[.pointer (some ⟨g, 0, none⟩), .int .i64 p]
def WcAt (w : World) (g p : Nat) (key : List (BitVec 8)) : Prop := ∃ q, Blk w g 58 (WC q) ∧ AcAt w q p key
theorem AcAt.belowW {w w' : World} {q p : Nat} {key : List (BitVec 8)} (h : AcAt w q p key) (hb : Below w.heap.size w w') : AcAt w' q p key := by
 obtain ⟨kk, ks, h1, h2, h3⟩ := h
 exact ⟨kk, ks, h1.belowAll hb, h2.below hb, h3.below hb⟩
theorem WcAt.below {w w' : World} {g p : Nat} {key : List (BitVec 8)} (h : WcAt w g p key) (hb : Below w.heap.size w w') : WcAt w' g p key := by
 obtain ⟨q, h1, h2⟩ := h
 exact ⟨q, h1.belowAll hb, h2.belowW hb⟩
theorem buildWC (q : Nat) (w : World) : (buildB2 58 (.int .i64 1) (.iface 81 (.pointer (some ⟨q, 0, none⟩)))).run Tryz.prog w = .ok (.agg (WC q)) w := by kernel_rfl
theorem buildNC (g : Nat) (p : Int) (w : World) : (buildB2 52 (.pointer (some ⟨g, 0, none⟩)) (.int .i64 p)).run Tryz.prog w = .ok (.agg (NC g p)) w := by kernel_rfl
theorem wideNew_any (p : Nat) (key : List (BitVec 8)) (a : Option Addr) (c : Nat) (w : World) (hT : TabAt w p) (hr : Rd8 w a 32 c key) :
  Calls Tryz.prog 8 #[.pointer (some ⟨p, 0, none⟩), .int .i64 1, .slice a 32 c] w fun e w' => ∃ g, e = .returned (.tuple #[.pointer (some ⟨g, 0, none⟩), .int .i64 0]) ∧ WcAt w' g p key ∧ Below w.heap.size w w' := by
 have T0 := hid hT
 have R0 := hid hr
 clear hT hr
 go_enter Tryz.func8, Tryz.ntmps8
 go_wp2_with fail
 refine (schemed_any p key a c w T0.out R0.out).mono ?_
 rintro e w1 ⟨q, rfl, h1, d1⟩
 have A1 := hid h1
 have D1 := hid d1
 have hbd := buildWC q
 have hsz : (WC q).size = 2 := rfl
 have A2 := hid (h1.belowW ((Below.refl w1.heap.size w1).alloc (Nat.le_refl _) (.cells (WC q) 58)))
 have D2 := hid (d1.alloc d1.size (.cells (WC q) 58))
 have N2 := hid (Blk.new w1 58 (WC q))
 clear h1 d1
 go_wp2
 go_ret2
 exact ⟨_, rfl, ⟨q, N2.out, A2.out⟩, D2.out⟩
theorem nameNew_nil (p : Int) (w : World) :
  Calls Tryz.prog 7 #[.pointer none, .int .i64 p] w fun e w' => e = .returned (.tuple #[.pointer none, .int .i64 2]) ∧ w = w' := by
 go_enter Tryz.func7, Tryz.ntmps7
 go_wp2
 go_ret2
 exact ⟨rfl, rfl⟩
theorem nameNew_any (g : Nat) (p : Int) (w : World) :
  Calls Tryz.prog 7 #[.pointer (some ⟨g, 0, none⟩), .int .i64 p] w fun e w' => ∃ v, e = .returned (.tuple #[v, .int .i64 (knownN p)]) ∧ (knownN p ≠ 0 → v = .pointer none) ∧ (knownN p = 0 → ∃ h, v = .pointer (some ⟨h, 0, none⟩) ∧ Blk w' h 52 (NC g p)) ∧ Below w.heap.size w w' := by
 have hk := nknown_any p w
 obtain ⟨K, hK⟩ : ∃ K, K = knownN p := ⟨_, rfl⟩
 rw [← hK] at hk ⊢
 have HK := hid hk
 clear hk hK
 go_enter Tryz.func7, Tryz.ntmps7
 go_wp2_with fail
 refine HK.out.mono ?_
 rintro e w1 ⟨rfl, rfl⟩
 by_cases hk0 : K = 0
 ·subst hk0
  have hbd := buildNC g p
  have hsz : (NC g p).size = 2 := rfl
  have D2 := hid ((Below.refl w.heap.size w).alloc (Nat.le_refl _) (.cells (NC g p) 52))
  have N2 := hid (Blk.new w 52 (NC g p))
  go_wp2
  go_ret2
  exact ⟨_, rfl, ⟨_, rfl, N2.out⟩, D2.out⟩
 ·have hk1 : (K == 0) = false := by simpa using hk0
  have hk2 : (K != 0) = true := by simp [hk0]
  go_wp2
  go_ret2
  exact ⟨_, rfl, fun _ => rfl, fun h => absurd h hk0, Below.refl _ _⟩
theorem wideEnc_any (g p : Nat) (key T M : List (BitVec 8)) (a b : Option Addr) (n c len d : Nat) (w : World) (hA : WcAt w g p key) (hkl : key.length = 32) (ht : Rd8 w a n c T) (hM : Rd8 w b len d M) (h16 : 16 ≤ len) (hlen : len ≤ 520) :
  Calls Tryz.prog 37 #[.pointer (some ⟨g, 0, none⟩), .slice a n c, .slice b len d] w fun e w' => ∃ v, e = .returned (.tuple #[v, .int .i64 0]) ∧ Own8 w' w.heap.size 5 v (encA key T M) ∧ Below w.heap.size w w' := by
 obtain ⟨q, hg, hq⟩ := hA
 have c0 : w.cell? ⟨g, 0, none⟩ = some (.int .i64 1) := by rw [hg.cell]; rfl
 have c1 : w.cell? ⟨g, 1, none⟩ = some (.iface 81 (.pointer (some ⟨q, 0, none⟩))) := by rw [hg.cell]; rfl
 have e1 : ¬ (len : Int) < 16 := by omega
 have hae := aenc_any q p key T M a b n c len d w hq hkl ht hM h16 hlen
 have AE := hid hae
 have hle : Calls Tryz.prog 65 #[.pointer (some ⟨g, 0, none⟩)] w fun e w' => e = .returned (.int .i64 16) ∧ w = w' := by
  clear hae AE hq ht hM hg
  go_enter Tryz.func65, Tryz.ntmps65
  go_wp2
  go_ret
  exact ⟨rfl, rfl⟩
 have LE := hid hle
 have htu : Calls Tryz.prog 47 #[.pointer (some ⟨g, 0, none⟩), .slice a n c, .slice b len d, .bool false] w fun e w' => ∃ v, e = .returned (.tuple #[v, .int .i64 0]) ∧ Own8 w' w.heap.size 5 v (encA key T M) ∧ Below w.heap.size w w' := by
  clear hae hle hq ht hM hg
  go_enter Tryz.func47, Tryz.ntmps47
  go_wp2_with fail
  refine LE.out.mono ?_
  rintro e w1 ⟨rfl, rfl⟩
  go_wp2_with fail
  refine AE.out.mono ?_
  rintro e w2 ⟨v2, rfl, o2, d2⟩
  have O2 := hid o2
  have D2 := hid d2
  clear o2 d2
  go_wp2
  go_ret2
  exact ⟨_, rfl, O2.out, D2.out⟩
 have TU := hid htu
 clear hae hle htu hq ht hM hg c0 c1
 go_enter Tryz.func37, Tryz.ntmps37
 go_wp2_with fail
 refine TU.out.mono ?_
 rintro e w2 ⟨v2, rfl, o2, d2⟩
 have O2 := hid o2
 have D2 := hid d2
 clear o2 d2
 go_wp2
 go_ret2
 exact ⟨_, rfl, O2.out, D2.out⟩
end Go.Proofs.YtpifdkkhdgbcdaaGreatDoor
