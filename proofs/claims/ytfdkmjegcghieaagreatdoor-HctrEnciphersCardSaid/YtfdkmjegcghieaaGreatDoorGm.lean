/- octet: room, Padded, Marked -/
import Derived.Test.YtfdkmjegcghieaaGreatDoorGb
namespace Go.Proofs.YtfdkmjegcghieaaGreatDoor
open Go.RowKit
theorem Rd8.away {w w' : World} {a : Option Addr} {n c p : Nat} {l : List (BitVec 8)} (h : Rd8 w a n c l) (hg : w.grownBy w' (some p)) (ha : ∀ ad, a = some ad → ad.block ≠ p) : Rd8 w' a n c l :=
  ⟨h.1, h.2.1, h.2.2.1, fun hn => by
    obtain ⟨b, o, rfl, hb, hc⟩ := h.2.2.2 hn
    have hne : b ≠ p := ha _ rfl
    have hs := hg.size
    refine ⟨b, o, rfl, by omega, fun i hi => ?_⟩
    rw [cell_rowAt, show rowAt w' b = rowAt w b by unfold rowAt; rw [hg.block b hb (by intro e; cases e; exact hne rfl)], ← cell_rowAt]
    exact hc i hi⟩
def roomN (n m : Nat) : Nat := (m - n % m) % m
set_option linter.unusedSimpArgs false in
theorem room_any (n m : Nat) (w : World) (h0 : 0 < m) (h1 : m ≤ 65536) (_ : n ≤ maxLen) :
    Calls Tryz.prog 160 #[.int .i64 n, .int .i64 m] w fun e w' => e = .returned (.int .i64 (roomN n m)) ∧ w = w' := by
  obtain ⟨R, hR⟩ : ∃ R, R = n % m := ⟨_, rfl⟩
  have hr : R < m := by rw [hR]; exact Nat.mod_lt _ h0
  have f1 : (n : Int).tmod (m : Int) = (R : Int) := by rw [hR]; rfl
  have f2 : IntKind.i64.wrap (R : Int) = (R : Int) := by rw [IntKind.wrap_i64]; omega
  obtain ⟨S, hS⟩ : ∃ S, S = m - R := ⟨_, rfl⟩
  have f3 : (m : Int) - (R : Int) = (S : Int) := by omega
  have f4 : IntKind.i64.wrap (S : Int) = (S : Int) := by rw [IntKind.wrap_i64]; omega
  obtain ⟨Q, hQ⟩ : ∃ Q, Q = S % m := ⟨_, rfl⟩
  have hq : Q < m := by rw [hQ]; exact Nat.mod_lt _ h0
  have f5 : (S : Int).tmod (m : Int) = (Q : Int) := by rw [hQ]; rfl
  have f6 : IntKind.i64.wrap (Q : Int) = (Q : Int) := by rw [IntKind.wrap_i64]; omega
  have m1 : ¬ (m : Int) < 1 := by omega
  have m0 : ¬ (m : Int) = 0 := by omega
  have hfin : roomN n m = Q := by rw [roomN, ← hR, ← hS, hQ]
  rw [hfin]
  clear hR hS hQ hfin
  go_enter Tryz.func160, Tryz.ntmps160
  go_wp2
  go_ret
  exact ⟨rfl, rfl⟩
theorem splc_head (l : List (BitVec 8)) (N : Nat) (_ : l.length ≤ N) : splc (zeros 8 N) 0 l = l ++ zeros 8 (N - l.length) := by
  simp [splc, zeros]
set_option linter.unusedSimpArgs false in
set_option maxRecDepth 100000 in
theorem padded_any (l : List (BitVec 8)) (a : Option Addr) (n c m : Nat) (w : World) (hr : Rd8 w a n c l) (h0 : 0 < m) (h1 : m ≤ 65536) (hsz : n ≤ 70368744177664) :
    Calls Tryz.prog 131 #[.slice a n c, .int .i64 m] w fun e w' => ∃ v, e = .returned v ∧ Own8 w' w.heap.size 5 v (l ++ zeros 8 (roomN n m)) ∧ Below w.heap.size w w' := by
  have hl := hr.1
  have hb1 := hr.2.2.1
  obtain ⟨R, hR⟩ : ∃ R, R = roomN n m := ⟨_, rfl⟩
  have hRm : R < m := by rw [hR]; exact Nat.mod_lt _ h0
  obtain ⟨N, hN⟩ : ∃ N, N = n + R := ⟨_, rfl⟩
  have f1 : (n : Int) + (R : Int) = (N : Int) := by omega
  have f2 : IntKind.i64.wrap (N : Int) = (N : Int) := by rw [IntKind.wrap_i64]; omega
  have hmk := run_make8 (P := Tryz.prog) w 23 5 (N : Int) (N : Int) Tryz.underlying23 info8 (by omega) (by omega) (by omega)
  rw [Int.toNat_natCast] at hmk
  obtain ⟨W, hW⟩ : ∃ W, w.alloc (.cells (A8 (zeros 8 N)) 5) = W := ⟨_, rfl⟩
  rw [hW] at hmk
  obtain ⟨b0, hb, hz⟩ := new1 _ _ _ _ hW
  have rW := hr.below hb
  have hcp := fun ty => run_copy8 (P := Tryz.prog) W 23 23 ty 5 w.heap.size 0 N N a n c (zeros 8 N) l Tryz.underlying23 (by kernel_rfl) b0.whole b0.row rW (by rw [zeros_length]; omega)
  rw [show min n N = n by omega, List.take_of_length_le (by omega), splc_head _ _ (by omega), hl, show N - n = R by omega] at hcp
  have hlen : (l ++ zeros 8 R).length = N := by rw [List.length_append, zeros_length]; omega
  have own := Own8.blk (B := w.heap.size) (b0.put (A8 (l ++ zeros 8 R))) N (Nat.le_refl _) (by omega) (by unfold maxLen; omega)
  rw [List.take_of_length_le (by omega), hlen] at own
  have O := Lib.hid own
  have B := Lib.hid (below_setRow hb (Nat.le_refl _) (A8 (l ++ zeros 8 R)))
  rw [← hR]
  have hroom := room_any n m w h0 h1 (by unfold maxLen; omega)
  rw [← hR] at hroom
  clear hR hN hW b0 hb hz rW own hlen hl hb1 hr
  go_enter Tryz.func131, Tryz.ntmps131
  go_wp2_with fail
  refine hroom.mono ?_
  rintro e w1 ⟨rfl, rfl⟩
  go_wp2
  go_ret
  exact ⟨_, rfl, O.out, B.out⟩
end Go.Proofs.YtfdkmjegcghieaaGreatDoor
/- octet: Marked -/
namespace Go.Proofs.YtfdkmjegcghieaaGreatDoor
open Go.RowKit
theorem mark_set (l : List (BitVec 8)) (x : BitVec 8) : (l ++ zeros 8 1).set l.length x = l ++ [x] := by
  simp [zeros]
set_option linter.unusedSimpArgs false in
set_option maxRecDepth 100000 in
theorem marked_any (l : List (BitVec 8)) (a : Option Addr) (n c m : Nat) (x : BitVec 8) (w : World) (hr : Rd8 w a n c l) (h0 : 0 < m) (h1 : m ≤ 65536) (hsz : n < 70368744177664) :
    Calls Tryz.prog 149 #[.slice a n c, v8 x, .int .i64 m] w fun e w' => ∃ v, e = .returned v ∧ Own8 w' w.heap.size 5 v (l ++ [x] ++ zeros 8 (roomN (n + 1) m)) ∧ Below w.heap.size w w' := by
  have hl := hr.1
  obtain ⟨N, hN⟩ : ∃ N, N = n + 1 := ⟨_, rfl⟩
  have f1 : (n : Int) + 1 = (N : Int) := by omega
  have f2 : IntKind.i64.wrap (N : Int) = (N : Int) := by rw [IntKind.wrap_i64]; omega
  have hmk := run_make8 (P := Tryz.prog) w 23 5 (N : Int) (N : Int) Tryz.underlying23 info8 (by omega) (by omega) (by omega)
  rw [Int.toNat_natCast] at hmk
  obtain ⟨W, hW⟩ : ∃ W, w.alloc (.cells (A8 (zeros 8 N)) 5) = W := ⟨_, rfl⟩
  rw [hW] at hmk
  obtain ⟨b0, hb, hz⟩ := new1 _ _ _ _ hW
  have rW := hr.below hb
  have hcp := fun ty => run_copy8 (P := Tryz.prog) W 23 23 ty 5 w.heap.size 0 N N a n c (zeros 8 N) l Tryz.underlying23 (by kernel_rfl) b0.whole b0.row rW (by rw [zeros_length]; omega)
  rw [show min n N = n by omega, List.take_of_length_le (by omega), splc_head _ _ (by omega), hl, show N - n = 1 by omega] at hcp
  have b1 := b0.put (A8 (l ++ zeros 8 1))
  have hB := below_setRow hb (Nat.le_refl _) (A8 (l ++ zeros 8 1))
  obtain ⟨V, hV⟩ : ∃ V, W.setRow w.heap.size (A8 (l ++ zeros 8 1)) = V := ⟨_, rfl⟩
  rw [hV] at hcp b1 hB
  have k := b1.set_ n (v8 x)
  have hs := mark_set l x
  rw [hl] at hs
  rw [A8_set, hs] at k
  have co : V.cell? ⟨w.heap.size, n, none⟩ = some (v8 (nth (l ++ zeros 8 1) n)) := by rw [b1.cell, A8_get _ _ (by rw [List.length_append, zeros_length]; omega)]
  have fo := b1.frozen n
  have i0 : (0 : Int) ≤ (n : Int) := by omega
  have i1 : (n : Int) < (N : Int) := by omega
  have hlen : (l ++ [x]).length = N := by rw [List.length_append]; simp; omega
  have rd := k.rd8 N (by omega) (by unfold maxLen; omega)
  rw [hlen, List.take_of_length_le (by omega)] at rd
  have hB2 := Lib.hid (hB.setCell (p := ⟨w.heap.size, n, none⟩) (Nat.le_refl _) (v8 x))
  have RD := Lib.hid rd
  have HN := Lib.hid hN
  have N1 : N ≤ 70368744177664 := by omega
  clear hN hW b0 hb hz rW hl hr hlen k hs b1 hB hV rd
  go_enter Tryz.func149, Tryz.ntmps149
  go_wp2_with fail
  refine (padded_any (l ++ [x]) _ N N m _ RD.out h0 h1 N1).mono ?_
  rintro e w1 ⟨v, rfl, ho, d1⟩
  have O := Lib.hid ho
  have D1 := Lib.hid (hB2.out.trans (d1.mono hB2.out.size))
  clear ho d1
  go_wp2
  go_ret
  refine ⟨v, rfl, ?_, D1.out⟩
  rw [← HN.out]
  exact Own8.base O.out hB2.out.size
end Go.Proofs.YtfdkmjegcghieaaGreatDoor
