/- octet.from, octet.gather, octet.Word, octet.Long: bytes as numbers -/
import Derived.Test.YthogbbigglmapaaOct1
namespace Go.Proofs.Ythogbbigglmapaa
open Go.RowKit
theorem from1_any (l : List (BitVec 8)) (a : Option Addr) (n c p q : Nat) (pos k : Int) (w : World) (hr : Rd8 w a n c l) (hp : w.cell? ⟨p, 0, none⟩ = some (.int .i64 pos)) (hq : w.cell? ⟨q, 0, none⟩ = some (.slice a n c))
    (h0 : 0 ≤ pos) (h1 : pos ≤ 4611686018427387904) (hk0 : 0 ≤ k) (hk1 : k ≤ 16) :
    Calls Try.prog 62 #[.int .i64 k, .pointer (some ⟨p, 0, none⟩), .pointer (some ⟨q, 0, none⟩)] w fun e w' => e = .returned (v8 (nth l (pos.toNat + k.toNat))) ∧ w = w' := by
  obtain ⟨hl, hnc, hc, hcell⟩ := hr
  unfold maxLen at hc
  by_cases h : pos + k < n
  · obtain ⟨b, o, rfl, hb, hcell⟩ := hcell (by omega)
    have hx := hcell (pos.toNat + k.toNat) (by omega)
    have hx' : w.cell? ⟨b, o + (pos + k).toNat, none⟩ = some (v8 (nth l (pos.toNat + k.toNat))) := by rw [show (pos + k).toNat = pos.toNat + k.toNat by omega]; exact hx
    clear hcell hx
    go_enter Try.func62, Try.ntmps62
    go_wp2
    go_ret
    exact ⟨rfl, rfl⟩
  · have hx : nth l (pos.toNat + k.toNat) = 0#8 := by unfold nth; rw [List.getD_eq_getElem?_getD, List.getElem?_eq_none (by omega)]; rfl
    rw [hx]
    clear hcell hl hx
    go_enter Try.func62, Try.ntmps62
    go_wp2
    go_ret
    exact ⟨rfl, rfl⟩
/-- so many bytes as a number, the lowest first -/
def gath (l : List (BitVec 8)) (pos : Nat) : Nat → BitVec 64
  | 0 => 0#64
  | k + 1 => gath l pos k ||| (nth l (pos + k)).setWidth 64 <<< (8 * k)
theorem gather_any (l : List (BitVec 8)) (a : Option Addr) (n c p q many : Nat) (pos : Int) (w : World) (hr : Rd8 w a n c l) (hp : w.cell? ⟨p, 0, none⟩ = some (.int .i64 pos)) (hq : w.cell? ⟨q, 0, none⟩ = some (.slice a n c))
    (h0 : 0 ≤ pos) (h1 : pos ≤ 4611686018427387904) (hm : many ≤ 8) :
    Calls Try.prog 55 #[.int .i64 many, .func (.func 62) #[] #[.pointer (some ⟨p, 0, none⟩), .pointer (some ⟨q, 0, none⟩)]] w fun e w' => e = .returned (v64 (gath l pos.toNat many)) ∧ w = w' := by
  go_enter Try.func55, Try.ntmps55
  go_wp2
  go_loop [5, 8] (fun v i => ∃ k : Nat, k ≤ many ∧ i = .int .i64 k ∧ v = v64 (gath l pos.toNat k)) (fun _ i => many - (intOf i).toNat)
  case atStart => exact ⟨0, Nat.zero_le _, rfl, rfl⟩
  case round =>
    obtain ⟨k, hk, rfl, rfl⟩ := hrel
    have h8 : (0 : Int) ≤ 8 * (k : Int) := by omega
    have h8' : (8 * (k : Int)).toNat = 8 * k := by omega
    by_cases hlt : k < many
    · go_wp2_with (go_at_call 62; refine (from1_any l a n c p q pos _ _ hr hp hq h0 h1 (by omega) (by omega)).mono ?_; rintro e w' ⟨rfl, rfl⟩)
      go_round
      case rel => exact ⟨k + 1, by omega, by go_num, by simp only [gath]⟩
      case measure => simp [intOf]; omega
    · obtain rfl : k = many := by omega
      go_wp2
      go_ret
      exact ⟨rfl, rfl⟩
/-- four bytes, eight bytes as a number -/
def word (l : List (BitVec 8)) (pos : Nat) : BitVec 32 := (gath l pos 4).setWidth 32
def long (l : List (BitVec 8)) (pos : Nat) : BitVec 64 := gath l pos 8
theorem from_any (a : Option Addr) (n c : Nat) (pos : Int) (w : World) :
    Calls Try.prog 56 #[.slice a n c, .int .i64 pos] w fun e w' => e = .returned (.func (.func 62) #[] #[.pointer (some ⟨w.heap.size + 1, 0, none⟩), .pointer (some ⟨w.heap.size, 0, none⟩)]) ∧
      (w.alloc (.cells #[.slice a n c] 22)).alloc (.cells #[.int .i64 pos] 3) = w' := by
  go_enter Try.func56, Try.ntmps56
  go_wp2
  go_ret
  exact ⟨rfl, rfl⟩
theorem word_any (l : List (BitVec 8)) (a : Option Addr) (n c : Nat) (pos : Int) (w : World) (hr : Rd8 w a n c l) (h0 : 0 ≤ pos) (h1 : pos ≤ 4611686018427387904) :
    Calls Try.prog 38 #[.slice a n c, .int .i64 pos] w fun e w' => e = .returned (v32 (word l pos.toNat)) ∧ Below w.heap.size w w' := by
  have hr2 := (hr.alloc (.cells #[.slice a n c] 22)).alloc (.cells #[.int .i64 pos] 3)
  go_enter Try.func38, Try.ntmps38
  go_wp2_with fail
  refine (from_any _ _ _ _ _).mono ?_
  rintro e w' ⟨rfl, rfl⟩
  go_wp2_with fail
  refine (gather_any l a n c _ _ 4 pos _ hr2 (by simp) (by simp) h0 h1 (by omega)).mono ?_
  rintro e w' ⟨rfl, rfl⟩
  go_wp2_with fail
  go_ret
  refine ⟨rfl, ?_⟩
  repeat (first | exact Below.refl _ _ | assumption | refine Below.drew ?_ | refine Below.alloc ?_ ?_ _ | refine Below.setCell ?_ ?_ _ | refine below_setRow ?_ ?_ _ | refine Below.trans ?_ (Below.mono (by assumption) ?_))
  all_goals (first | (simp; done) | (simp; omega) | (simp at *; omega))
end Go.Proofs.Ythogbbigglmapaa
