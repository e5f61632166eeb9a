/- chacha: mixed, known, Mix -/
import Derived.Test.YthogbbigglmapaaCha2
namespace Go.Proofs.Ythogbbigglmapaa
open Go.RowKit
theorem slant0_any (s : List (BitVec 32)) (g : Nat) (w : World) (hs : s.length = 16) (hb : Blk w g 39 (A32 s)) :
    Calls Try.prog 60 #[.pointer (some ⟨g, 0, none⟩), .int .i64 0] w fun e w' => e = .returned (.tuple #[]) ∧ w.grownBy w' (some g) ∧ Blk w' g 39 (A32 (slantTo s 0 4)) := slant_any s g 0 w hs hb (by omega)
theorem slant1_any (s : List (BitVec 32)) (g : Nat) (w : World) (hs : s.length = 16) (hb : Blk w g 39 (A32 s)) :
    Calls Try.prog 60 #[.pointer (some ⟨g, 0, none⟩), .int .i64 1] w fun e w' => e = .returned (.tuple #[]) ∧ w.grownBy w' (some g) ∧ Blk w' g 39 (A32 (slantTo s 1 4)) := slant_any s g 1 w hs hb (by omega)
theorem mixed_any (s : List (BitVec 32)) (r : Int) (w : World) (hs : s.length = 16) (hr0 : 0 ≤ r) (hr : r ≤ 20) :
    Calls Try.prog 50 #[.agg (A32 s), .int .i64 r] w fun e w' => e = .returned (.agg (A32 (mixTo s (r.toNat / 2)))) ∧ Below w.heap.size w w' := by
  have Hs := Lib.hid hs
  obtain ⟨n, rfl⟩ := Int.eq_ofNat_of_zero_le hr0
  obtain ⟨q, hq⟩ : ∃ q : Nat, q = n / 2 := ⟨_, rfl⟩
  have hqi : (n : Int) / 2 = (q : Int) := by omega
  have Hq := Lib.hid hq
  clear hq
  go_enter Try.func50, Try.ntmps50
  go_wp2
  go_loopw [7] (fun i wr => ∃ j : Nat, j ≤ q ∧ i = .int .i64 j ∧ Blk wr w.heap.size 39 (A32 (mixTo s j)) ∧ Blk wr (w.heap.size + 1) 39 (A32 (zeros 32 16)) ∧ Below w.heap.size w wr) (fun i _ => q - (intOf i).toNat)
  case atStart => exact ⟨0, Nat.zero_le _, rfl, (Blk.new _ _ _).alloc _, (by have h := Blk.new (w.alloc (.cells (A32 s) 39)) 39 (A32 (zeros 32 16)); rw [World.size_alloc] at h; exact h), ((Below.refl _ _).alloc (Nat.le_refl _) _).alloc (by simp) _⟩
  case round =>
    obtain ⟨j, hj, rfl, hb1, hb2, hbel⟩ := hrel
    have H1 := Lib.hid hb1
    have H2 := Lib.hid hb2
    have H3 := Lib.hid hbel
    have hl : (mixTo s j).length = 16 := by rw [mixTo_length, hs]
    have Hl := Lib.hid hl
    clear hb1 hb2 hbel
    by_cases hlt : j < q
    · clear hl
      go_wp2_with fail
      refine (slant0_any _ _ _ Hl.out H1.out).mono ?_
      rintro e w1 ⟨rfl, hg1, hk1⟩
      have G1 := Lib.hid hg1
      have K1 := Lib.hid hk1
      clear hg1 hk1
      go_wp2_with fail
      refine (slant1_any _ _ _ (by rw [slantTo_length]; exact Hl.out) K1.out).mono ?_
      rintro e w2 ⟨rfl, hg2, hk2⟩
      have G2 := Lib.hid hg2
      have K2 := Lib.hid hk2
      clear hg2 hk2
      go_wp2
      exact ⟨⟨j + 1, by omega, by go_num, K2.out, (H2.out.grown G1.out (by simp)).grown G2.out (by simp), (H3.out.trans (grown_below G1.out (Nat.le_refl _) H3.out.size)).trans (grown_below G2.out (Nat.le_refl _) (Nat.le_trans H3.out.size G1.out.size))⟩, by simp [intOf]; omega⟩
    · obtain rfl : j = q := by omega
      have r1 := H1.out.row
      have r2 := H2.out.row
      have r3 := H2.out.whole
      go_wp2
      refine bodyPost_row (A32 (mixTo s j)) rfl rfl rfl (Try.isAgg39 _) (Try.sizeOf39 _) (by rw [A32_size]; exact Hl.out) (rowAt_setRow _ r3) ⟨?_, below_setRow H3.out (by omega) _⟩
      rw [Int.toNat_natCast, ← Hq.out]
theorem known_yes (r : Int) (w : World) (h : r = 8 ∨ r = 12 ∨ r = 20) :
    Calls Try.prog 49 #[.int .i64 r] w fun e w' => e = .returned (.int .i64 0) ∧ w = w' := by
  rcases h with rfl | rfl | rfl
  all_goals
    go_enter Try.func49, Try.ntmps49
    go_wp2
    go_ret
    exact ⟨rfl, rfl⟩
theorem known_no (r : Int) (w : World) (h : ¬ (r = 8 ∨ r = 12 ∨ r = 20)) :
    Calls Try.prog 49 #[.int .i64 r] w fun e w' => e = .returned (.int .i64 3) ∧ w = w' := by
  have h1 : (r == 8) = false := by rw [beq_eq_false_iff_ne]; omega
  have h2 : (r == 12) = false := by rw [beq_eq_false_iff_ne]; omega
  have h3 : (r == 20) = false := by rw [beq_eq_false_iff_ne]; omega
  clear h
  go_enter Try.func49, Try.ntmps49
  go_wp2
  go_ret
  exact ⟨rfl, rfl⟩
theorem Mix_yes (s : List (BitVec 32)) (r : Int) (w : World) (hs : s.length = 16) (h : r = 8 ∨ r = 12 ∨ r = 20) :
    Calls Try.prog 30 #[.agg (A32 s), .int .i64 r] w fun e w' => e = .returned (.tuple #[.agg (A32 (mixTo s (r.toNat / 2))), .int .i64 0]) ∧ Below w.heap.size w w' := by
  go_enter Try.func30, Try.ntmps30
  go_wp2_with fail
  refine (known_yes _ _ h).mono ?_
  rintro e w1 ⟨rfl, rfl⟩
  go_wp2_with fail
  refine (mixed_any s r _ hs (by omega) (by omega)).mono ?_
  rintro e w1 ⟨rfl, hb⟩
  have k2 := (Blk.new (w.alloc (.cells (A32 s) 39)) 39 (A32 (zeros 32 16))).belowAll hb
  rw [World.size_alloc] at k2
  have r2 := k2.row
  have r3 := k2.whole
  have hm : (mixTo s (r.toNat / 2)).length = 16 := by rw [mixTo_length, hs]
  have Hb := Lib.hid hb
  clear hb k2
  go_wp2
  refine bodyPost_row_tmp (A32 (mixTo s (r.toNat / 2))) rfl rfl rfl (Try.isAgg39 _) (Try.sizeOf39 _) (by rw [A32_size]; exact hm) (rowAt_setRow _ r3) ⟨rfl, ?_⟩
  have hb := Hb.out
  repeat (first | exact Below.refl _ _ | assumption | refine Below.drew ?_ | refine Below.alloc ?_ ?_ _ | refine Below.setCell ?_ ?_ _ | refine below_setRow ?_ ?_ _ | refine Below.trans ?_ (Below.mono (by assumption) ?_))
  all_goals (first | (simp; done) | (simp; omega) | (simp at *; omega))
theorem Mix_no (s : List (BitVec 32)) (r : Int) (w : World) (h : ¬ (r = 8 ∨ r = 12 ∨ r = 20)) :
    Calls Try.prog 30 #[.agg (A32 s), .int .i64 r] w fun e w' => e = .returned (.tuple #[.agg (A32 (zeros 32 16)), .int .i64 3]) ∧ Below w.heap.size w w' := by
  go_enter Try.func30, Try.ntmps30
  go_wp2_with fail
  refine (known_no _ _ h).mono ?_
  rintro e w1 ⟨rfl, rfl⟩
  go_wp2
  refine bodyPost_row_tmp (A32 (zeros 32 16)) rfl rfl rfl (Try.isAgg39 _) (Try.sizeOf39 _) rfl (by simp [go_sem]) ⟨rfl, ?_⟩
  repeat (first | exact Below.refl _ _ | assumption | refine Below.drew ?_ | refine Below.alloc ?_ ?_ _ | refine Below.setCell ?_ ?_ _ | refine below_setRow ?_ ?_ _ | refine Below.trans ?_ (Below.mono (by assumption) ?_))
  all_goals (first | (simp; done) | (simp; omega) | (simp at *; omega))
end Go.Proofs.Ythogbbigglmapaa
