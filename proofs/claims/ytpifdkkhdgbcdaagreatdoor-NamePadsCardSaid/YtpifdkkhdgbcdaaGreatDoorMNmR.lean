/- octet by definition: Padded (to sixteen, thirty-two, sixty-four) -/
import Derived.Test.YtpifdkkhdgbcdaaGreatDoorMIj
import Derived.Test.YtpifdkkhdgbcdaaGreatDoorMGb
import Derived.Test.YtpifdkkhdgbcdaaGreatDoorMNmP
namespace Go.Proofs.YtpifdkkhdgbcdaaGreatDoor
open Lib (hid)
set_option linter.unusedSimpArgs false
set_option maxRecDepth 100000
set_option maxHeartbeats 1600000
open Go.RowKit
def lenOfV : Value → Nat
 | .slice _ n _ => n
 | _ => 0
theorem refPadN16_any (l : List (BitVec 8)) (a : Option Addr) (n c : Nat) (w : World) (hr : Rd8 w a n c l) (hn : n ≤ 1000000) :
  Calls Tryz.prog 29 #[.slice a n c, .int .i64 16] w fun e w' => ∃ v, e = .returned v ∧ Own8 w' w.heap.size 5 v (l ++ zeros 8 (rupN l.length 16)) ∧ Below w.heap.size w w' := by
 have hl := hr.1
 obtain ⟨R, hR⟩ : ∃ R, R = rupN n 16 := ⟨_, rfl⟩
 have hR15 : R ≤ 63 := by rw [hR, rupN]; omega
 have hRm : (n + R) % 16 = 0 := by rw [hR, rupN]; omega
 have hRj : ∀ j, j < R → (n + j) % 16 ≠ 0 := by intro j hj; rw [hR, rupN] at hj; omega
 rw [show rupN l.length 16 = R by rw [hl, hR]]
 have HR := hid hr
 have HJ := hid hRj
 clear hr hRj hR
 go_enter Tryz.func29, Tryz.ntmps29
 go_upto_region 1 with fail
 refine wp_region_plain [2,0,2,0] rfl (fun ops' K4 hK4 => ?_)
 refine z_build0 (B := w.heap.size) (Nat.le_refl _) Tryz.underlying22 info8 (fun w4 v4 ho4 hb4 => ?_)
 simp only [Act.put, zz1, zz2, zz3]
 repeat
  (first
   | (with_reducible refine z_move (a' := ?_) ?_ ?_); rotate_left
   | (with_reducible refine z_assign (a' := ?_) ?_ ?_); rotate_left
   | (with_reducible refine z_obl (v := ?_) (a' := ?_) rfl (fun _ => ?_) ?_ ?_); rotate_left 2; (focus (go_simp; (try go_bits); exact rfl))
   | (with_reducible refine z_read (v := ?_) (a' := ?_) rfl ?_ ?_ ?_); rotate_left 2; (focus (go_simp; (try go_bits); exact rfl)))
  focus (simp only [Act.put, zz1, zz2, zz3, Act.eval, zz4, zz5, zz6, zz7, zz8]; exact rfl)
 refine z_append8 ho4 (HR.out.below hb4) rfl rfl Tryz.underlying22 info8 (by simp; omega) hb4.size (fun w5 v5 o5 g5 b5 => ?_)
 simp only [Act.put, zz1, zz2, zz3]
 repeat
  (first
   | (with_reducible refine z_move (a' := ?_) ?_ ?_); rotate_left
   | (with_reducible refine z_assign (a' := ?_) ?_ ?_); rotate_left
   | (with_reducible refine z_obl (v := ?_) (a' := ?_) rfl (fun _ => ?_) ?_ ?_); rotate_left 2; (focus (go_simp; (try go_bits); exact rfl))
   | (with_reducible refine z_read (v := ?_) (a' := ?_) rfl ?_ ?_ ?_); rotate_left 2; (focus (go_simp; (try go_bits); exact rfl)))
  focus (simp only [Act.put, zz1, zz2, zz3, Act.eval, zz4, zz5, zz6, zz7, zz8]; exact rfl)
 refine z_nil (hK4 _ _ ?_)
 rw [List.nil_append] at o5
 have B5 := hid (hb4.trans b5)
 have O5 := hid o5
 clear hK4 ho4 hb4 g5 b5 o5 HR
 go_wp2_with fail
 go_loopw [5] (fun v wr => ∃ j : Nat, j ≤ R ∧ Own8 wr w.heap.size 5 v (l ++ zeros 8 j) ∧ Below w.heap.size w wr) (fun v _ => R + n - lenOfV v)
 case atStart => exact ⟨0, by omega, by rw [show zeros 8 0 = [] from rfl, List.append_nil]; exact O5.out, B5.out⟩
 case round =>
  obtain ⟨j, hj, hO, hB⟩ := hrel
  obtain ⟨a5, c5, rfl, hr5, _⟩ := hO.rd
  have hll : (l ++ zeros 8 j).length = n + j := by rw [List.length_append, zeros_length, hl]
  have O1 := hid hO
  have B1 := hid hB
  have HLL := hid hll
  clear hO hB hr5 O5 B5
  obtain ⟨M, hM⟩ : ∃ M, M = (l ++ zeros 8 j).length := ⟨_, rfl⟩
  rw [← hM] at O1 ⊢
  have hMn : M = n + j := by rw [hM]; exact hll
  have HM := hid hMn
  clear hM hll HLL
  by_cases hjR : j < R
  ·have m1 : (((M : Int) % 16) == 0) = false := by
    have := HJ.out j hjR
    simp; omega
   have m2 : (((M : Int) % 16) != 0) = true := by
    have := HJ.out j hjR
    simp; omega
   have m3 : IntKind.i64.wrap ((M : Int) % 16) = (M : Int) % 16 := by rw [IntKind.wrap_i64]; omega
   clear hMn
   go_upto_region 3 with fail
   refine wp_region_plain [0,2,2,0] rfl (fun ops' K2 hK2 => ?_)
   repeat
    (first
     | (with_reducible refine z_move (a' := ?_) ?_ ?_); rotate_left
     | (with_reducible refine z_assign (a' := ?_) ?_ ?_); rotate_left
     | (with_reducible refine z_obl (v := ?_) (a' := ?_) rfl (fun _ => ?_) ?_ ?_); rotate_left 2; (focus (go_simp; (try go_bits); exact rfl))
     | (with_reducible refine z_read (v := ?_) (a' := ?_) rfl ?_ ?_ ?_); rotate_left 2; (focus (go_simp; (try go_bits); exact rfl)))
    focus (simp only [Act.put, zz1, zz2, zz3, Act.eval, zz4, zz5, zz6, zz7, zz8]; exact rfl)
   refine z_build1 (x := 0#8) rfl Tryz.underlying22 info8 (fun w2 b2 hr2 hb2 => ?_)
   simp only [Act.put, zz1, zz2, zz3]
   refine z_append8 (O1.out.below hb2) hr2 rfl rfl Tryz.underlying22 info8 (by have := HM.out; simp [hl]; omega) (Nat.le_trans B1.out.size hb2.size) (fun w3 v3 o3 g3 b3 => ?_)
   simp only [Act.put, zz1, zz2, zz3]
   repeat
    (first
     | (with_reducible refine z_move (a' := ?_) ?_ ?_); rotate_left
     | (with_reducible refine z_assign (a' := ?_) ?_ ?_); rotate_left
     | (with_reducible refine z_obl (v := ?_) (a' := ?_) rfl (fun _ => ?_) ?_ ?_); rotate_left 2; (focus (go_simp; (try go_bits); exact rfl))
     | (with_reducible refine z_read (v := ?_) (a' := ?_) rfl ?_ ?_ ?_); rotate_left 2; (focus (go_simp; (try go_bits); exact rfl)))
    focus (simp only [Act.put, zz1, zz2, zz3, Act.eval, zz4, zz5, zz6, zz7, zz8]; exact rfl)
   refine z_nil (hK2 _ _ ?_)
   rw [List.append_assoc, show zeros 8 j ++ [0#8] = zeros 8 (j + 1) from by rw [zeros, zeros, ← List.replicate_succ']] at o3
   have hlen : lenOfV v3 = M + 1 := by
    obtain ⟨a6, c6, e6, _, _⟩ := o3.rd
    rw [e6]; have := HM.out; simp [lenOfV, hl]; omega
   have O3 := hid o3
   have B3 := hid ((B1.out.trans (hb2.mono B1.out.size)).trans b3)
   have HL := hid hlen
   clear o3 g3 b3 hb2 hr2 hK2 hlen
   go_wp2
   refine ⟨⟨j + 1, by omega, O3.out, B3.out⟩, ?_⟩
   have h1 := HL.out
   have h2 := HM.out
   show R + n - lenOfV v3 < R + n - M
   rw [h1]; omega
  ·obtain rfl : j = R := by omega
   have m1 : (M : Int) % 16 = 0 := by omega
   clear hMn
   go_wp2
   go_ret
   exact ⟨_, rfl, O1.out, B1.out⟩
theorem refPadN32_any (l : List (BitVec 8)) (a : Option Addr) (n c : Nat) (w : World) (hr : Rd8 w a n c l) (hn : n ≤ 1000000) :
  Calls Tryz.prog 29 #[.slice a n c, .int .i64 32] w fun e w' => ∃ v, e = .returned v ∧ Own8 w' w.heap.size 5 v (l ++ zeros 8 (rupN l.length 32)) ∧ Below w.heap.size w w' := by
 have hl := hr.1
 obtain ⟨R, hR⟩ : ∃ R, R = rupN n 32 := ⟨_, rfl⟩
 have hR15 : R ≤ 63 := by rw [hR, rupN]; omega
 have hRm : (n + R) % 32 = 0 := by rw [hR, rupN]; omega
 have hRj : ∀ j, j < R → (n + j) % 32 ≠ 0 := by intro j hj; rw [hR, rupN] at hj; omega
 rw [show rupN l.length 32 = R by rw [hl, hR]]
 have HR := hid hr
 have HJ := hid hRj
 clear hr hRj hR
 go_enter Tryz.func29, Tryz.ntmps29
 go_upto_region 1 with fail
 refine wp_region_plain [2,0,2,0] rfl (fun ops' K4 hK4 => ?_)
 refine z_build0 (B := w.heap.size) (Nat.le_refl _) Tryz.underlying22 info8 (fun w4 v4 ho4 hb4 => ?_)
 simp only [Act.put, zz1, zz2, zz3]
 repeat
  (first
   | (with_reducible refine z_move (a' := ?_) ?_ ?_); rotate_left
   | (with_reducible refine z_assign (a' := ?_) ?_ ?_); rotate_left
   | (with_reducible refine z_obl (v := ?_) (a' := ?_) rfl (fun _ => ?_) ?_ ?_); rotate_left 2; (focus (go_simp; (try go_bits); exact rfl))
   | (with_reducible refine z_read (v := ?_) (a' := ?_) rfl ?_ ?_ ?_); rotate_left 2; (focus (go_simp; (try go_bits); exact rfl)))
  focus (simp only [Act.put, zz1, zz2, zz3, Act.eval, zz4, zz5, zz6, zz7, zz8]; exact rfl)
 refine z_append8 ho4 (HR.out.below hb4) rfl rfl Tryz.underlying22 info8 (by simp; omega) hb4.size (fun w5 v5 o5 g5 b5 => ?_)
 simp only [Act.put, zz1, zz2, zz3]
 repeat
  (first
   | (with_reducible refine z_move (a' := ?_) ?_ ?_); rotate_left
   | (with_reducible refine z_assign (a' := ?_) ?_ ?_); rotate_left
   | (with_reducible refine z_obl (v := ?_) (a' := ?_) rfl (fun _ => ?_) ?_ ?_); rotate_left 2; (focus (go_simp; (try go_bits); exact rfl))
   | (with_reducible refine z_read (v := ?_) (a' := ?_) rfl ?_ ?_ ?_); rotate_left 2; (focus (go_simp; (try go_bits); exact rfl)))
  focus (simp only [Act.put, zz1, zz2, zz3, Act.eval, zz4, zz5, zz6, zz7, zz8]; exact rfl)
 refine z_nil (hK4 _ _ ?_)
 rw [List.nil_append] at o5
 have B5 := hid (hb4.trans b5)
 have O5 := hid o5
 clear hK4 ho4 hb4 g5 b5 o5 HR
 go_wp2_with fail
 go_loopw [5] (fun v wr => ∃ j : Nat, j ≤ R ∧ Own8 wr w.heap.size 5 v (l ++ zeros 8 j) ∧ Below w.heap.size w wr) (fun v _ => R + n - lenOfV v)
 case atStart => exact ⟨0, by omega, by rw [show zeros 8 0 = [] from rfl, List.append_nil]; exact O5.out, B5.out⟩
 case round =>
  obtain ⟨j, hj, hO, hB⟩ := hrel
  obtain ⟨a5, c5, rfl, hr5, _⟩ := hO.rd
  have hll : (l ++ zeros 8 j).length = n + j := by rw [List.length_append, zeros_length, hl]
  have O1 := hid hO
  have B1 := hid hB
  have HLL := hid hll
  clear hO hB hr5 O5 B5
  obtain ⟨M, hM⟩ : ∃ M, M = (l ++ zeros 8 j).length := ⟨_, rfl⟩
  rw [← hM] at O1 ⊢
  have hMn : M = n + j := by rw [hM]; exact hll
  have HM := hid hMn
  clear hM hll HLL
  by_cases hjR : j < R
  ·have m1 : (((M : Int) % 32) == 0) = false := by
    have := HJ.out j hjR
    simp; omega
   have m2 : (((M : Int) % 32) != 0) = true := by
    have := HJ.out j hjR
    simp; omega
   have m3 : IntKind.i64.wrap ((M : Int) % 32) = (M : Int) % 32 := by rw [IntKind.wrap_i64]; omega
   clear hMn
   go_upto_region 3 with fail
   refine wp_region_plain [0,2,2,0] rfl (fun ops' K2 hK2 => ?_)
   repeat
    (first
     | (with_reducible refine z_move (a' := ?_) ?_ ?_); rotate_left
     | (with_reducible refine z_assign (a' := ?_) ?_ ?_); rotate_left
     | (with_reducible refine z_obl (v := ?_) (a' := ?_) rfl (fun _ => ?_) ?_ ?_); rotate_left 2; (focus (go_simp; (try go_bits); exact rfl))
     | (with_reducible refine z_read (v := ?_) (a' := ?_) rfl ?_ ?_ ?_); rotate_left 2; (focus (go_simp; (try go_bits); exact rfl)))
    focus (simp only [Act.put, zz1, zz2, zz3, Act.eval, zz4, zz5, zz6, zz7, zz8]; exact rfl)
   refine z_build1 (x := 0#8) rfl Tryz.underlying22 info8 (fun w2 b2 hr2 hb2 => ?_)
   simp only [Act.put, zz1, zz2, zz3]
   refine z_append8 (O1.out.below hb2) hr2 rfl rfl Tryz.underlying22 info8 (by have := HM.out; simp [hl]; omega) (Nat.le_trans B1.out.size hb2.size) (fun w3 v3 o3 g3 b3 => ?_)
   simp only [Act.put, zz1, zz2, zz3]
   repeat
    (first
     | (with_reducible refine z_move (a' := ?_) ?_ ?_); rotate_left
     | (with_reducible refine z_assign (a' := ?_) ?_ ?_); rotate_left
     | (with_reducible refine z_obl (v := ?_) (a' := ?_) rfl (fun _ => ?_) ?_ ?_); rotate_left 2; (focus (go_simp; (try go_bits); exact rfl))
     | (with_reducible refine z_read (v := ?_) (a' := ?_) rfl ?_ ?_ ?_); rotate_left 2; (focus (go_simp; (try go_bits); exact rfl)))
    focus (simp only [Act.put, zz1, zz2, zz3, Act.eval, zz4, zz5, zz6, zz7, zz8]; exact rfl)
   refine z_nil (hK2 _ _ ?_)
   rw [List.append_assoc, show zeros 8 j ++ [0#8] = zeros 8 (j + 1) from by rw [zeros, zeros, ← List.replicate_succ']] at o3
   have hlen : lenOfV v3 = M + 1 := by
    obtain ⟨a6, c6, e6, _, _⟩ := o3.rd
    rw [e6]; have := HM.out; simp [lenOfV, hl]; omega
   have O3 := hid o3
   have B3 := hid ((B1.out.trans (hb2.mono B1.out.size)).trans b3)
   have HL := hid hlen
   clear o3 g3 b3 hb2 hr2 hK2 hlen
   go_wp2
   refine ⟨⟨j + 1, by omega, O3.out, B3.out⟩, ?_⟩
   have h1 := HL.out
   have h2 := HM.out
   show R + n - lenOfV v3 < R + n - M
   rw [h1]; omega
  ·obtain rfl : j = R := by omega
   have m1 : (M : Int) % 32 = 0 := by omega
   clear hMn
   go_wp2
   go_ret
   exact ⟨_, rfl, O1.out, B1.out⟩
theorem refPadN64_any (l : List (BitVec 8)) (a : Option Addr) (n c : Nat) (w : World) (hr : Rd8 w a n c l) (hn : n ≤ 1000000) :
  Calls Tryz.prog 29 #[.slice a n c, .int .i64 64] w fun e w' => ∃ v, e = .returned v ∧ Own8 w' w.heap.size 5 v (l ++ zeros 8 (rupN l.length 64)) ∧ Below w.heap.size w w' := by
 have hl := hr.1
 obtain ⟨R, hR⟩ : ∃ R, R = rupN n 64 := ⟨_, rfl⟩
 have hR15 : R ≤ 63 := by rw [hR, rupN]; omega
 have hRm : (n + R) % 64 = 0 := by rw [hR, rupN]; omega
 have hRj : ∀ j, j < R → (n + j) % 64 ≠ 0 := by intro j hj; rw [hR, rupN] at hj; omega
 rw [show rupN l.length 64 = R by rw [hl, hR]]
 have HR := hid hr
 have HJ := hid hRj
 clear hr hRj hR
 go_enter Tryz.func29, Tryz.ntmps29
 go_upto_region 1 with fail
 refine wp_region_plain [2,0,2,0] rfl (fun ops' K4 hK4 => ?_)
 refine z_build0 (B := w.heap.size) (Nat.le_refl _) Tryz.underlying22 info8 (fun w4 v4 ho4 hb4 => ?_)
 simp only [Act.put, zz1, zz2, zz3]
 repeat
  (first
   | (with_reducible refine z_move (a' := ?_) ?_ ?_); rotate_left
   | (with_reducible refine z_assign (a' := ?_) ?_ ?_); rotate_left
   | (with_reducible refine z_obl (v := ?_) (a' := ?_) rfl (fun _ => ?_) ?_ ?_); rotate_left 2; (focus (go_simp; (try go_bits); exact rfl))
   | (with_reducible refine z_read (v := ?_) (a' := ?_) rfl ?_ ?_ ?_); rotate_left 2; (focus (go_simp; (try go_bits); exact rfl)))
  focus (simp only [Act.put, zz1, zz2, zz3, Act.eval, zz4, zz5, zz6, zz7, zz8]; exact rfl)
 refine z_append8 ho4 (HR.out.below hb4) rfl rfl Tryz.underlying22 info8 (by simp; omega) hb4.size (fun w5 v5 o5 g5 b5 => ?_)
 simp only [Act.put, zz1, zz2, zz3]
 repeat
  (first
   | (with_reducible refine z_move (a' := ?_) ?_ ?_); rotate_left
   | (with_reducible refine z_assign (a' := ?_) ?_ ?_); rotate_left
   | (with_reducible refine z_obl (v := ?_) (a' := ?_) rfl (fun _ => ?_) ?_ ?_); rotate_left 2; (focus (go_simp; (try go_bits); exact rfl))
   | (with_reducible refine z_read (v := ?_) (a' := ?_) rfl ?_ ?_ ?_); rotate_left 2; (focus (go_simp; (try go_bits); exact rfl)))
  focus (simp only [Act.put, zz1, zz2, zz3, Act.eval, zz4, zz5, zz6, zz7, zz8]; exact rfl)
 refine z_nil (hK4 _ _ ?_)
 rw [List.nil_append] at o5
 have B5 := hid (hb4.trans b5)
 have O5 := hid o5
 clear hK4 ho4 hb4 g5 b5 o5 HR
 go_wp2_with fail
 go_loopw [5] (fun v wr => ∃ j : Nat, j ≤ R ∧ Own8 wr w.heap.size 5 v (l ++ zeros 8 j) ∧ Below w.heap.size w wr) (fun v _ => R + n - lenOfV v)
 case atStart => exact ⟨0, by omega, by rw [show zeros 8 0 = [] from rfl, List.append_nil]; exact O5.out, B5.out⟩
 case round =>
  obtain ⟨j, hj, hO, hB⟩ := hrel
  obtain ⟨a5, c5, rfl, hr5, _⟩ := hO.rd
  have hll : (l ++ zeros 8 j).length = n + j := by rw [List.length_append, zeros_length, hl]
  have O1 := hid hO
  have B1 := hid hB
  have HLL := hid hll
  clear hO hB hr5 O5 B5
  obtain ⟨M, hM⟩ : ∃ M, M = (l ++ zeros 8 j).length := ⟨_, rfl⟩
  rw [← hM] at O1 ⊢
  have hMn : M = n + j := by rw [hM]; exact hll
  have HM := hid hMn
  clear hM hll HLL
  by_cases hjR : j < R
  ·have m1 : (((M : Int) % 64) == 0) = false := by
    have := HJ.out j hjR
    simp; omega
   have m2 : (((M : Int) % 64) != 0) = true := by
    have := HJ.out j hjR
    simp; omega
   have m3 : IntKind.i64.wrap ((M : Int) % 64) = (M : Int) % 64 := by rw [IntKind.wrap_i64]; omega
   clear hMn
   go_upto_region 3 with fail
   refine wp_region_plain [0,2,2,0] rfl (fun ops' K2 hK2 => ?_)
   repeat
    (first
     | (with_reducible refine z_move (a' := ?_) ?_ ?_); rotate_left
     | (with_reducible refine z_assign (a' := ?_) ?_ ?_); rotate_left
     | (with_reducible refine z_obl (v := ?_) (a' := ?_) rfl (fun _ => ?_) ?_ ?_); rotate_left 2; (focus (go_simp; (try go_bits); exact rfl))
     | (with_reducible refine z_read (v := ?_) (a' := ?_) rfl ?_ ?_ ?_); rotate_left 2; (focus (go_simp; (try go_bits); exact rfl)))
    focus (simp only [Act.put, zz1, zz2, zz3, Act.eval, zz4, zz5, zz6, zz7, zz8]; exact rfl)
   refine z_build1 (x := 0#8) rfl Tryz.underlying22 info8 (fun w2 b2 hr2 hb2 => ?_)
   simp only [Act.put, zz1, zz2, zz3]
   refine z_append8 (O1.out.below hb2) hr2 rfl rfl Tryz.underlying22 info8 (by have := HM.out; simp [hl]; omega) (Nat.le_trans B1.out.size hb2.size) (fun w3 v3 o3 g3 b3 => ?_)
   simp only [Act.put, zz1, zz2, zz3]
   repeat
    (first
     | (with_reducible refine z_move (a' := ?_) ?_ ?_); rotate_left
     | (with_reducible refine z_assign (a' := ?_) ?_ ?_); rotate_left
     | (with_reducible refine z_obl (v := ?_) (a' := ?_) rfl (fun _ => ?_) ?_ ?_); rotate_left 2; (focus (go_simp; (try go_bits); exact rfl))
     | (with_reducible refine z_read (v := ?_) (a' := ?_) rfl ?_ ?_ ?_); rotate_left 2; (focus (go_simp; (try go_bits); exact rfl)))
    focus (simp only [Act.put, zz1, zz2, zz3, Act.eval, zz4, zz5, zz6, zz7, zz8]; exact rfl)
   refine z_nil (hK2 _ _ ?_)
   rw [List.append_assoc, show zeros 8 j ++ [0#8] = zeros 8 (j + 1) from by rw [zeros, zeros, ← List.replicate_succ']] at o3
   have hlen : lenOfV v3 = M + 1 := by
    obtain ⟨a6, c6, e6, _, _⟩ := o3.rd
    rw [e6]; have := HM.out; simp [lenOfV, hl]; omega
   have O3 := hid o3
   have B3 := hid ((B1.out.trans (hb2.mono B1.out.size)).trans b3)
   have HL := hid hlen
   clear o3 g3 b3 hb2 hr2 hK2 hlen
   go_wp2
   refine ⟨⟨j + 1, by omega, O3.out, B3.out⟩, ?_⟩
   have h1 := HL.out
   have h2 := HM.out
   show R + n - lenOfV v3 < R + n - M
   rw [h1]; omega
  ·obtain rfl : j = R := by omega
   have m1 : (M : Int) % 64 = 0 := by omega
   clear hMn
   go_wp2
   go_ret
   exact ⟨_, rfl, O1.out, B1.out⟩
end Go.Proofs.YtpifdkkhdgbcdaaGreatDoor
