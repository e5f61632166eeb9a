/- octet: room, Padded, Marked -/
import Derived.Test.YtpifdkkhdgbcdaaGreatDoorMGb
namespace Go.Proofs.YtpifdkkhdgbcdaaGreatDoor
open Lib (hid)
set_option linter.unusedSimpArgs false
set_option maxRecDepth 100000
set_option maxHeartbeats 1600000
open Go.RowKit
theorem Rd8.away {w w' : World} {a : Option Addr} {n c p : Nat} {l : List (BitVec 8)} (h : Rd8 w a n c l) (hg : w.grownBy w' (some p)) (ha : ∀ ad, a = some ad → ad.block ≠ p) : Rd8 w' a n c l :=
 ⟨h.1, h.2.1, h.2.2.1, fun hn => by
  obtain ⟨b, o, rfl, hb, hc⟩ := h.2.2.2 hn
  have hne : b ≠ p := ha _ rfl
  have hs := hg.size
  refine ⟨b, o, rfl, by omega, fun i hi => ?_⟩
  rw [cell_rowAt, show rowAt w' b = rowAt w b by unfold rowAt; rw [hg.block b hb (by intro e; cases e; exact hne rfl)], ← cell_rowAt]
  exact hc i hi⟩
def roomN (n m : Nat) : Nat := (m - n % m) % m
theorem room_any (n m : Nat) (w : World) (h0 : 0 < m) (h1 : m ≤ 65536) (_ : n ≤ maxLen) :
  Calls Tryz.prog 80 #[.int .i64 n, .int .i64 m] w fun e w' => e = .returned (.int .i64 (roomN n m)) ∧ w = w' := by
 obtain ⟨R, hR⟩ : ∃ R, R = n % m := ⟨_, rfl⟩
 have hr : R < m := by rw [hR]; exact Nat.mod_lt _ h0
 have f1 : (n : Int).tmod (m : Int) = (R : Int) := by rw [hR]; rfl
 have f2 : IntKind.i64.wrap (R : Int) = (R : Int) := by rw [IntKind.wrap_i64]; omega
 obtain ⟨S, hS⟩ : ∃ S, S = m - R := ⟨_, rfl⟩
 have f3 : (m : Int) - (R : Int) = (S : Int) := by omega
 have f4 : IntKind.i64.wrap (S : Int) = (S : Int) := by rw [IntKind.wrap_i64]; omega
 obtain ⟨Q, hQ⟩ : ∃ Q, Q = S % m := ⟨_, rfl⟩
 have hq : Q < m := by rw [hQ]; exact Nat.mod_lt _ h0
 have f5 : (S : Int).tmod (m : Int) = (Q : Int) := by rw [hQ]; rfl
 have f6 : IntKind.i64.wrap (Q : Int) = (Q : Int) := by rw [IntKind.wrap_i64]; omega
 have m1 : ¬ (m : Int) < 1 := by omega
 have m0 : ¬ (m : Int) = 0 := by omega
 have hfin : roomN n m = Q := by rw [roomN, ← hR, ← hS, hQ]
 rw [hfin]
 clear hR hS hQ hfin
 go_enter Tryz.func80, Tryz.ntmps80
 go_wp2
 go_ret
 exact ⟨rfl, rfl⟩
theorem splc_head (l : List (BitVec 8)) (N : Nat) (_ : l.length ≤ N) : splc (zeros 8 N) 0 l = l ++ zeros 8 (N - l.length) := by
 simp [splc, zeros]
theorem padded_any (l : List (BitVec 8)) (a : Option Addr) (n c m : Nat) (w : World) (hr : Rd8 w a n c l) (h0 : 0 < m) (h1 : m ≤ 65536) (hsz : n ≤ 70368744177664) :
  Calls Tryz.prog 76 #[.slice a n c, .int .i64 m] w fun e w' => ∃ v, e = .returned v ∧ Own8 w' w.heap.size 5 v (l ++ zeros 8 (roomN n m)) ∧ Below w.heap.size w w' := by
 have hl := hr.1
 have hb1 := hr.2.2.1
 obtain ⟨R, hR⟩ : ∃ R, R = roomN n m := ⟨_, rfl⟩
 have hRm : R < m := by rw [hR]; exact Nat.mod_lt _ h0
 obtain ⟨N, hN⟩ : ∃ N, N = n + R := ⟨_, rfl⟩
 have f1 : (n : Int) + (R : Int) = (N : Int) := by omega
 have f2 : IntKind.i64.wrap (N : Int) = (N : Int) := by rw [IntKind.wrap_i64]; omega
 have hmk := run_make8 (P := Tryz.prog) w 22 5 (N : Int) (N : Int) Tryz.underlying22 info8 (by omega) (by omega) (by omega)
 rw [Int.toNat_natCast] at hmk
 obtain ⟨W, hW⟩ : ∃ W, w.alloc (.cells (A8 (zeros 8 N)) 5) = W := ⟨_, rfl⟩
 rw [hW] at hmk
 obtain ⟨b0, hb, hz⟩ := new1 _ _ _ _ hW
 have rW := hr.below hb
 have hcp := fun ty => run_copy8 (P := Tryz.prog) W 22 22 ty 5 w.heap.size 0 N N a n c (zeros 8 N) l Tryz.underlying22 (by kernel_rfl) b0.whole b0.row rW (by rw [zeros_length]; omega)
 rw [show min n N = n by omega, List.take_of_length_le (by omega), splc_head _ _ (by omega), hl, show N - n = R by omega] at hcp
 have hlen : (l ++ zeros 8 R).length = N := by rw [List.length_append, zeros_length]; omega
 have own := Own8.blk (B := w.heap.size) (b0.put (A8 (l ++ zeros 8 R))) N (Nat.le_refl _) (by omega) (by unfold maxLen; omega)
 rw [List.take_of_length_le (by omega), hlen] at own
 have O := hid own
 have B := hid (below_setRow hb (Nat.le_refl _) (A8 (l ++ zeros 8 R)))
 rw [← hR]
 have hroom := room_any n m w h0 h1 (by unfold maxLen; omega)
 rw [← hR] at hroom
 clear hR hN hW b0 hb hz rW own hlen hl hb1 hr
 go_enter Tryz.func76, Tryz.ntmps76
 go_wp2_with fail
 refine hroom.mono ?_
 rintro e w1 ⟨rfl, rfl⟩
 go_wp2
 go_ret
 exact ⟨_, rfl, O.out, B.out⟩
open Go.RowKit
open Go.RowKit
def jumps (J : Nat → Act → World → Prop) (Q : Exit → Act → World → Prop) : Exit → Act → World → Prop
 | .goto l, a, w => J l a w
 | e, a, w => Q e a w
section
variable {P : Program} {a : Act} {w : World} {Q : Exit → Act → World → Prop}
@[go_sem] theorem jumps_ret {J : Nat → Act → World → Prop} : jumps J Q .ret a w = Q .ret a w := rfl
def J3 (J0 J1 J2 : Act → World → Prop) : Nat → Act → World → Prop
 | 0 => J0
 | 1 => J1
 | 2 => J2
 | _ => fun _ _ => False
def R3 (r0 r1 r2 : Code) : Nat → Code
 | 0 => r0
 | 1 => r1
 | _ => r2
end
end Go.Proofs.YtpifdkkhdgbcdaaGreatDoor
