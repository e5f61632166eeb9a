/- octet by definition: Padded, Marked (to sixteen) -/
import Derived.Test.YtfdkmjegcghieaaGreatDoorIj
import Derived.Test.YtfdkmjegcghieaaGreatDoorGm
import Derived.Test.YtfdkmjegcghieaaGreatDoorHcP
import Derived.Test.YtfdkmjegcghieaaGreatDoorId
import Derived.Test.YtfdkmjegcghieaaGreatDoorIa
import Derived.Test.YtfdkmjegcghieaaGreatDoorRg4
import Derived.Test.YtfdkmjegcghieaaGreatDoorGx
namespace Go.Proofs.YtfdkmjegcghieaaGreatDoor
open Go.RowKit
def lenOfV : Value → Nat
  | .slice _ n _ => n
  | _ => 0
set_option linter.unusedSimpArgs false in
set_option maxRecDepth 100000 in
set_option maxHeartbeats 800000 in
theorem refPadded_any (l : List (BitVec 8)) (a : Option Addr) (n c : Nat) (w : World) (hr : Rd8 w a n c l) (hn : n ≤ 1000000) :
    Calls Tryz.prog 119 #[.slice a n c, .int .i64 16] w fun e w' => ∃ v, e = .returned v ∧ Own8 w' w.heap.size 5 v (padL l 16) ∧ Below w.heap.size w w' := by
  have hl := hr.1
  obtain ⟨R, hR⟩ : ∃ R, R = roomN n 16 := ⟨_, rfl⟩
  have hR15 : R ≤ 15 := by rw [hR, roomN]; omega
  have hRm : (n + R) % 16 = 0 := by rw [hR]; exact roomN_whole n
  have hRj : ∀ j, j < R → (n + j) % 16 ≠ 0 := by intro j hj; rw [hR, roomN] at hj; omega
  have hpad : padL l 16 = l ++ zeros 8 R := by rw [padL, hl, hR]
  rw [hpad]
  have HR := Lib.hid hr
  have HJ := Lib.hid hRj
  clear hr hRj hpad hR
  go_enter Tryz.func119, Tryz.ntmps119
  go_upto_region 1 with fail
  refine wp_region_plain [2,0,2,0] rfl (fun ops' K4 hK4 => ?_)
  refine z_build0 (B := w.heap.size) (Nat.le_refl _) Tryz.underlying23 info8 (fun w4 v4 ho4 hb4 => ?_)
  simp only [Act.put, List.setIfInBounds_toArray, List.set_cons_succ, List.set_cons_zero]
  repeat
    first
      | ((with_reducible refine z_move (a' := ?_) ?_ ?_); rotate_left; · (simp only [Act.put, List.setIfInBounds_toArray, List.set_cons_succ, List.set_cons_zero, Act.eval, Array.getD_eq_getD_getElem?, List.getElem?_toArray, List.getElem?_cons_succ, List.getElem?_cons_zero, Option.getD_some]; exact rfl))
      | ((with_reducible refine z_assign (a' := ?_) ?_ ?_); rotate_left; · (simp only [Act.put, List.setIfInBounds_toArray, List.set_cons_succ, List.set_cons_zero, Act.eval, Array.getD_eq_getD_getElem?, List.getElem?_toArray, List.getElem?_cons_succ, List.getElem?_cons_zero, Option.getD_some]; exact rfl))
      | ((with_reducible refine z_obl (v := ?_) (a' := ?_) rfl (fun _ => ?_) ?_ ?_); rotate_left; rotate_left; (focus (go_simp; (try go_bits); exact rfl)); (focus (simp only [Act.put, List.setIfInBounds_toArray, List.set_cons_succ, List.set_cons_zero, Act.eval, Array.getD_eq_getD_getElem?, List.getElem?_toArray, List.getElem?_cons_succ, List.getElem?_cons_zero, Option.getD_some]; exact rfl)))
      | ((with_reducible refine z_read (v := ?_) (a' := ?_) rfl ?_ ?_ ?_); rotate_left; rotate_left; (focus (go_simp; (try go_bits); exact rfl)); (focus (simp only [Act.put, List.setIfInBounds_toArray, List.set_cons_succ, List.set_cons_zero, Act.eval, Array.getD_eq_getD_getElem?, List.getElem?_toArray, List.getElem?_cons_succ, List.getElem?_cons_zero, Option.getD_some]; exact rfl)))
  refine z_append8 ho4 (HR.out.below hb4) rfl rfl Tryz.underlying23 info8 (by simp; omega) hb4.size (fun w5 v5 o5 g5 b5 => ?_)
  simp only [Act.put, List.setIfInBounds_toArray, List.set_cons_succ, List.set_cons_zero]
  repeat
    first
      | ((with_reducible refine z_move (a' := ?_) ?_ ?_); rotate_left; · (simp only [Act.put, List.setIfInBounds_toArray, List.set_cons_succ, List.set_cons_zero, Act.eval, Array.getD_eq_getD_getElem?, List.getElem?_toArray, List.getElem?_cons_succ, List.getElem?_cons_zero, Option.getD_some]; exact rfl))
      | ((with_reducible refine z_assign (a' := ?_) ?_ ?_); rotate_left; · (simp only [Act.put, List.setIfInBounds_toArray, List.set_cons_succ, List.set_cons_zero, Act.eval, Array.getD_eq_getD_getElem?, List.getElem?_toArray, List.getElem?_cons_succ, List.getElem?_cons_zero, Option.getD_some]; exact rfl))
      | ((with_reducible refine z_obl (v := ?_) (a' := ?_) rfl (fun _ => ?_) ?_ ?_); rotate_left; rotate_left; (focus (go_simp; (try go_bits); exact rfl)); (focus (simp only [Act.put, List.setIfInBounds_toArray, List.set_cons_succ, List.set_cons_zero, Act.eval, Array.getD_eq_getD_getElem?, List.getElem?_toArray, List.getElem?_cons_succ, List.getElem?_cons_zero, Option.getD_some]; exact rfl)))
      | ((with_reducible refine z_read (v := ?_) (a' := ?_) rfl ?_ ?_ ?_); rotate_left; rotate_left; (focus (go_simp; (try go_bits); exact rfl)); (focus (simp only [Act.put, List.setIfInBounds_toArray, List.set_cons_succ, List.set_cons_zero, Act.eval, Array.getD_eq_getD_getElem?, List.getElem?_toArray, List.getElem?_cons_succ, List.getElem?_cons_zero, Option.getD_some]; exact rfl)))
  refine z_nil (hK4 _ _ ?_)
  rw [List.nil_append] at o5
  have B5 := Lib.hid (hb4.trans b5)
  have O5 := Lib.hid o5
  clear hK4 ho4 hb4 g5 b5 o5 HR
  go_wp2_with fail
  go_loopw [5] (fun v wr => ∃ j : Nat, j ≤ R ∧ Own8 wr w.heap.size 5 v (l ++ zeros 8 j) ∧ Below w.heap.size w wr) (fun v _ => R + n - lenOfV v)
  case atStart => exact ⟨0, by omega, by rw [show zeros 8 0 = [] from rfl, List.append_nil]; exact O5.out, B5.out⟩
  case round =>
    obtain ⟨j, hj, hO, hB⟩ := hrel
    obtain ⟨a5, c5, rfl, hr5, _⟩ := hO.rd
    have hll : (l ++ zeros 8 j).length = n + j := by rw [List.length_append, zeros_length, hl]
    have O1 := Lib.hid hO
    have B1 := Lib.hid hB
    have HLL := Lib.hid hll
    clear hO hB hr5 O5 B5
    obtain ⟨M, hM⟩ : ∃ M, M = (l ++ zeros 8 j).length := ⟨_, rfl⟩
    rw [← hM] at O1 ⊢
    have hMn : M = n + j := by rw [hM]; exact hll
    have HM := Lib.hid hMn
    clear hM hll HLL
    by_cases hjR : j < R
    · have m1 : (((M : Int) % 16) == 0) = false := by
        have := HJ.out j hjR
        simp; omega
      have m2 : (((M : Int) % 16) != 0) = true := by
        have := HJ.out j hjR
        simp; omega
      have m3 : IntKind.i64.wrap ((M : Int) % 16) = (M : Int) % 16 := by rw [IntKind.wrap_i64]; omega
      clear hMn
      go_upto_region 3 with fail
      refine wp_region_plain [0,2,2,0] rfl (fun ops' K2 hK2 => ?_)
      repeat
        first
          | ((with_reducible refine z_move (a' := ?_) ?_ ?_); rotate_left; · (simp only [Act.put, List.setIfInBounds_toArray, List.set_cons_succ, List.set_cons_zero, Act.eval, Array.getD_eq_getD_getElem?, List.getElem?_toArray, List.getElem?_cons_succ, List.getElem?_cons_zero, Option.getD_some]; exact rfl))
          | ((with_reducible refine z_assign (a' := ?_) ?_ ?_); rotate_left; · (simp only [Act.put, List.setIfInBounds_toArray, List.set_cons_succ, List.set_cons_zero, Act.eval, Array.getD_eq_getD_getElem?, List.getElem?_toArray, List.getElem?_cons_succ, List.getElem?_cons_zero, Option.getD_some]; exact rfl))
          | ((with_reducible refine z_obl (v := ?_) (a' := ?_) rfl (fun _ => ?_) ?_ ?_); rotate_left; rotate_left; (focus (go_simp; (try go_bits); exact rfl)); (focus (simp only [Act.put, List.setIfInBounds_toArray, List.set_cons_succ, List.set_cons_zero, Act.eval, Array.getD_eq_getD_getElem?, List.getElem?_toArray, List.getElem?_cons_succ, List.getElem?_cons_zero, Option.getD_some]; exact rfl)))
          | ((with_reducible refine z_read (v := ?_) (a' := ?_) rfl ?_ ?_ ?_); rotate_left; rotate_left; (focus (go_simp; (try go_bits); exact rfl)); (focus (simp only [Act.put, List.setIfInBounds_toArray, List.set_cons_succ, List.set_cons_zero, Act.eval, Array.getD_eq_getD_getElem?, List.getElem?_toArray, List.getElem?_cons_succ, List.getElem?_cons_zero, Option.getD_some]; exact rfl)))
      refine z_build1 (x := 0#8) rfl Tryz.underlying23 info8 (fun w2 b2 hr2 hb2 => ?_)
      simp only [Act.put, List.setIfInBounds_toArray, List.set_cons_succ, List.set_cons_zero]
      refine z_append8 (O1.out.below hb2) hr2 rfl rfl Tryz.underlying23 info8 (by have := HM.out; simp [hl]; omega) (Nat.le_trans B1.out.size hb2.size) (fun w3 v3 o3 g3 b3 => ?_)
      simp only [Act.put, List.setIfInBounds_toArray, List.set_cons_succ, List.set_cons_zero]
      repeat
        first
          | ((with_reducible refine z_move (a' := ?_) ?_ ?_); rotate_left; · (simp only [Act.put, List.setIfInBounds_toArray, List.set_cons_succ, List.set_cons_zero, Act.eval, Array.getD_eq_getD_getElem?, List.getElem?_toArray, List.getElem?_cons_succ, List.getElem?_cons_zero, Option.getD_some]; exact rfl))
          | ((with_reducible refine z_assign (a' := ?_) ?_ ?_); rotate_left; · (simp only [Act.put, List.setIfInBounds_toArray, List.set_cons_succ, List.set_cons_zero, Act.eval, Array.getD_eq_getD_getElem?, List.getElem?_toArray, List.getElem?_cons_succ, List.getElem?_cons_zero, Option.getD_some]; exact rfl))
          | ((with_reducible refine z_obl (v := ?_) (a' := ?_) rfl (fun _ => ?_) ?_ ?_); rotate_left; rotate_left; (focus (go_simp; (try go_bits); exact rfl)); (focus (simp only [Act.put, List.setIfInBounds_toArray, List.set_cons_succ, List.set_cons_zero, Act.eval, Array.getD_eq_getD_getElem?, List.getElem?_toArray, List.getElem?_cons_succ, List.getElem?_cons_zero, Option.getD_some]; exact rfl)))
          | ((with_reducible refine z_read (v := ?_) (a' := ?_) rfl ?_ ?_ ?_); rotate_left; rotate_left; (focus (go_simp; (try go_bits); exact rfl)); (focus (simp only [Act.put, List.setIfInBounds_toArray, List.set_cons_succ, List.set_cons_zero, Act.eval, Array.getD_eq_getD_getElem?, List.getElem?_toArray, List.getElem?_cons_succ, List.getElem?_cons_zero, Option.getD_some]; exact rfl)))
      refine z_nil (hK2 _ _ ?_)
      rw [List.append_assoc, show zeros 8 j ++ [0#8] = zeros 8 (j + 1) from by rw [zeros, zeros, ← List.replicate_succ']] at o3
      have hlen : lenOfV v3 = M + 1 := by
        obtain ⟨a6, c6, e6, _, _⟩ := o3.rd
        rw [e6]; have := HM.out; simp [lenOfV, hl]; omega
      have O3 := Lib.hid o3
      have B3 := Lib.hid ((B1.out.trans (hb2.mono B1.out.size)).trans b3)
      have HL := Lib.hid hlen
      clear o3 g3 b3 hb2 hr2 hK2 hlen
      go_wp2
      refine ⟨⟨j + 1, by omega, O3.out, B3.out⟩, ?_⟩
      have h1 := HL.out
      have h2 := HM.out
      show R + n - lenOfV v3 < R + n - M
      rw [h1]; omega
    · obtain rfl : j = R := by omega
      have m1 : (M : Int) % 16 = 0 := by omega
      clear hMn
      go_wp2
      go_ret
      exact ⟨_, rfl, O1.out, B1.out⟩
set_option linter.unusedSimpArgs false in
set_option maxRecDepth 100000 in
set_option maxHeartbeats 800000 in
theorem refMarked_any (l : List (BitVec 8)) (a : Option Addr) (n c : Nat) (w : World) (hr : Rd8 w a n c l) (hn : n ≤ 100000) :
    Calls Tryz.prog 121 #[.slice a n c, .int .u8 1, .int .i64 16] w fun e w' => ∃ v, e = .returned v ∧ Own8 w' w.heap.size 5 v (padL (l ++ [1#8]) 16) ∧ Below w.heap.size w w' := by
  have hl := hr.1
  have HR := Lib.hid hr
  obtain ⟨F, hF⟩ : ∃ F, F = padL (l ++ [1#8]) 16 := ⟨_, rfl⟩
  rw [← hF]
  have HF := Lib.hid hF
  clear hr hF
  go_enter Tryz.func121, Tryz.ntmps121
  go_upto_region 1 with fail
  refine wp_region_plain [2,0,2,0,2,2,0,2,0] rfl (fun ops' K4 hK4 => ?_)
  refine z_build0 (B := w.heap.size) (Nat.le_refl _) Tryz.underlying23 info8 (fun w4 v4 ho4 hb4 => ?_)
  simp only [Act.put, List.setIfInBounds_toArray, List.set_cons_succ, List.set_cons_zero]
  repeat
    first
      | ((with_reducible refine z_move (a' := ?_) ?_ ?_); rotate_left; · (simp only [Act.put, List.setIfInBounds_toArray, List.set_cons_succ, List.set_cons_zero, Act.eval, Array.getD_eq_getD_getElem?, List.getElem?_toArray, List.getElem?_cons_succ, List.getElem?_cons_zero, Option.getD_some]; exact rfl))
      | ((with_reducible refine z_assign (a' := ?_) ?_ ?_); rotate_left; · (simp only [Act.put, List.setIfInBounds_toArray, List.set_cons_succ, List.set_cons_zero, Act.eval, Array.getD_eq_getD_getElem?, List.getElem?_toArray, List.getElem?_cons_succ, List.getElem?_cons_zero, Option.getD_some]; exact rfl))
      | ((with_reducible refine z_obl (v := ?_) (a' := ?_) rfl (fun _ => ?_) ?_ ?_); rotate_left; rotate_left; (focus (go_simp; (try go_bits); exact rfl)); (focus (simp only [Act.put, List.setIfInBounds_toArray, List.set_cons_succ, List.set_cons_zero, Act.eval, Array.getD_eq_getD_getElem?, List.getElem?_toArray, List.getElem?_cons_succ, List.getElem?_cons_zero, Option.getD_some]; exact rfl)))
      | ((with_reducible refine z_read (v := ?_) (a' := ?_) rfl ?_ ?_ ?_); rotate_left; rotate_left; (focus (go_simp; (try go_bits); exact rfl)); (focus (simp only [Act.put, List.setIfInBounds_toArray, List.set_cons_succ, List.set_cons_zero, Act.eval, Array.getD_eq_getD_getElem?, List.getElem?_toArray, List.getElem?_cons_succ, List.getElem?_cons_zero, Option.getD_some]; exact rfl)))
  refine z_append8 ho4 (HR.out.below hb4) rfl rfl Tryz.underlying23 info8 (by simp; omega) hb4.size (fun w5 v5 o5 g5 b5 => ?_)
  simp only [Act.put, List.setIfInBounds_toArray, List.set_cons_succ, List.set_cons_zero]
  rw [List.nil_append] at o5
  have B5 := hb4.trans b5
  repeat
    first
      | ((with_reducible refine z_move (a' := ?_) ?_ ?_); rotate_left; · (simp only [Act.put, List.setIfInBounds_toArray, List.set_cons_succ, List.set_cons_zero, Act.eval, Array.getD_eq_getD_getElem?, List.getElem?_toArray, List.getElem?_cons_succ, List.getElem?_cons_zero, Option.getD_some]; exact rfl))
      | ((with_reducible refine z_assign (a' := ?_) ?_ ?_); rotate_left; · (simp only [Act.put, List.setIfInBounds_toArray, List.set_cons_succ, List.set_cons_zero, Act.eval, Array.getD_eq_getD_getElem?, List.getElem?_toArray, List.getElem?_cons_succ, List.getElem?_cons_zero, Option.getD_some]; exact rfl))
      | ((with_reducible refine z_obl (v := ?_) (a' := ?_) rfl (fun _ => ?_) ?_ ?_); rotate_left; rotate_left; (focus (go_simp; (try go_bits); exact rfl)); (focus (simp only [Act.put, List.setIfInBounds_toArray, List.set_cons_succ, List.set_cons_zero, Act.eval, Array.getD_eq_getD_getElem?, List.getElem?_toArray, List.getElem?_cons_succ, List.getElem?_cons_zero, Option.getD_some]; exact rfl)))
      | ((with_reducible refine z_read (v := ?_) (a' := ?_) rfl ?_ ?_ ?_); rotate_left; rotate_left; (focus (go_simp; (try go_bits); exact rfl)); (focus (simp only [Act.put, List.setIfInBounds_toArray, List.set_cons_succ, List.set_cons_zero, Act.eval, Array.getD_eq_getD_getElem?, List.getElem?_toArray, List.getElem?_cons_succ, List.getElem?_cons_zero, Option.getD_some]; exact rfl)))
  refine z_build1 (x := 1#8) rfl Tryz.underlying23 info8 (fun w2 b2 hr2 hb2 => ?_)
  simp only [Act.put, List.setIfInBounds_toArray, List.set_cons_succ, List.set_cons_zero]
  refine z_append8 (o5.below hb2) hr2 rfl rfl Tryz.underlying23 info8 (by rw [hl]; omega) (Nat.le_trans B5.size hb2.size) (fun w3 v3 o3 g3 b3 => ?_)
  simp only [Act.put, List.setIfInBounds_toArray, List.set_cons_succ, List.set_cons_zero]
  have B3 := (B5.trans (hb2.mono B5.size)).trans b3
  obtain ⟨a3, c3, rfl, r3, _⟩ := o3.rd
  have hll : (l ++ [1#8]).length = n + 1 := by simp [hl]
  rw [hll] at r3 ⊢
  repeat
    first
      | ((with_reducible refine z_move (a' := ?_) ?_ ?_); rotate_left; · (simp only [Act.put, List.setIfInBounds_toArray, List.set_cons_succ, List.set_cons_zero, Act.eval, Array.getD_eq_getD_getElem?, List.getElem?_toArray, List.getElem?_cons_succ, List.getElem?_cons_zero, Option.getD_some]; exact rfl))
      | ((with_reducible refine z_assign (a' := ?_) ?_ ?_); rotate_left; · (simp only [Act.put, List.setIfInBounds_toArray, List.set_cons_succ, List.set_cons_zero, Act.eval, Array.getD_eq_getD_getElem?, List.getElem?_toArray, List.getElem?_cons_succ, List.getElem?_cons_zero, Option.getD_some]; exact rfl))
      | ((with_reducible refine z_obl (v := ?_) (a' := ?_) rfl (fun _ => ?_) ?_ ?_); rotate_left; rotate_left; (focus (go_simp; (try go_bits); exact rfl)); (focus (simp only [Act.put, List.setIfInBounds_toArray, List.set_cons_succ, List.set_cons_zero, Act.eval, Array.getD_eq_getD_getElem?, List.getElem?_toArray, List.getElem?_cons_succ, List.getElem?_cons_zero, Option.getD_some]; exact rfl)))
      | ((with_reducible refine z_read (v := ?_) (a' := ?_) rfl ?_ ?_ ?_); rotate_left; rotate_left; (focus (go_simp; (try go_bits); exact rfl)); (focus (simp only [Act.put, List.setIfInBounds_toArray, List.set_cons_succ, List.set_cons_zero, Act.eval, Array.getD_eq_getD_getElem?, List.getElem?_toArray, List.getElem?_cons_succ, List.getElem?_cons_zero, Option.getD_some]; exact rfl)))
  (with_reducible refine z_callw rfl ?_)
  go_simp
  refine entersW_of ?_
  refine (refPadded_any (l ++ [1#8]) a3 (n + 1) c3 w3 r3 (by omega)).mono ?_
  rintro e w6 ⟨v6, rfl, o6, d6⟩
  refine ⟨_, rfl, ?_⟩
  try simp only [Act.put, List.setIfInBounds_toArray, List.set_cons_succ, List.set_cons_zero]
  rw [← HF.out] at o6
  repeat
    first
      | ((with_reducible refine z_move (a' := ?_) ?_ ?_); rotate_left; · (simp only [Act.put, List.setIfInBounds_toArray, List.set_cons_succ, List.set_cons_zero, Act.eval, Array.getD_eq_getD_getElem?, List.getElem?_toArray, List.getElem?_cons_succ, List.getElem?_cons_zero, Option.getD_some]; exact rfl))
      | ((with_reducible refine z_assign (a' := ?_) ?_ ?_); rotate_left; · (simp only [Act.put, List.setIfInBounds_toArray, List.set_cons_succ, List.set_cons_zero, Act.eval, Array.getD_eq_getD_getElem?, List.getElem?_toArray, List.getElem?_cons_succ, List.getElem?_cons_zero, Option.getD_some]; exact rfl))
      | ((with_reducible refine z_obl (v := ?_) (a' := ?_) rfl (fun _ => ?_) ?_ ?_); rotate_left; rotate_left; (focus (go_simp; (try go_bits); exact rfl)); (focus (simp only [Act.put, List.setIfInBounds_toArray, List.set_cons_succ, List.set_cons_zero, Act.eval, Array.getD_eq_getD_getElem?, List.getElem?_toArray, List.getElem?_cons_succ, List.getElem?_cons_zero, Option.getD_some]; exact rfl)))
      | ((with_reducible refine z_read (v := ?_) (a' := ?_) rfl ?_ ?_ ?_); rotate_left; rotate_left; (focus (go_simp; (try go_bits); exact rfl)); (focus (simp only [Act.put, List.setIfInBounds_toArray, List.set_cons_succ, List.set_cons_zero, Act.eval, Array.getD_eq_getD_getElem?, List.getElem?_toArray, List.getElem?_cons_succ, List.getElem?_cons_zero, Option.getD_some]; exact rfl)))
  refine z_nil (hK4 _ _ ?_)
  have B6 := B3.trans (d6.mono B3.size)
  have O6 := Lib.hid (Own8.base o6 B3.size)
  have HB6 := Lib.hid B6
  clear hK4 ho4 hb4 g5 b5 o5 hb2 hr2 o3 g3 b3 r3 d6 o6 B3 B5 B6 HR
  go_wp2
  go_ret
  exact ⟨_, rfl, O6.out, HB6.out⟩
end Go.Proofs.YtfdkmjegcghieaaGreatDoor
/- val by definition: Length -/
namespace Go.Proofs.YtfdkmjegcghieaaGreatDoor
open Go.RowKit
theorem shr_natV (t : TypeId) (p R : Nat) (hR : R < 64) : binOp .shr t (.int .i64 p) (v64 (BitVec.ofNat 64 R)) = pure (.int .i64 ((p / 2 ^ R : Nat) : Int)) := by
  have e : (BitVec.ofNat 64 R).toNat = R := by rw [BitVec.toNat_ofNat]; omega
  simp only [v64, binOp, Op.shift, e, if_neg (show ¬ (R : Int) < 0 by omega)]
  have e2 : min (R : Int).toNat IntKind.i64.bits = R := by
    rw [Int.toNat_natCast]
    exact Nat.min_eq_left (by show R ≤ 64; omega)
  rw [e2, Int.fdiv_eq_ediv_of_nonneg _ (by have : (0 : Int) < 2 ^ R := Int.pow_pos (by decide); omega), show ((2 : Int) ^ R) = ((2 ^ R : Nat) : Int) by simp, ← Int.natCast_ediv]
def rvLow (n k : Nat) : Nat := if k < 8 then (n / 2 ^ (8 * k)) % 256 * 16 else 0
def rvCar (n c : Nat) : Nat → Nat
  | 0 => c
  | k + 1 => (rvCar n c k + rvLow n k) / 256
def rvByte (n c k : Nat) : BitVec 8 := BitVec.ofNat 8 ((rvCar n c k + rvLow n k) % 256)
def rvTo (n c j : Nat) : List (BitVec 8) := r16 fun i => if i < j then rvByte n c i else 0#8
theorem rvLow_le (n k : Nat) : rvLow n k ≤ 4080 := by
  unfold rvLow
  split
  · omega
  · omega
theorem rvCar_le (n c : Nat) (hc : c ≤ 3) : ∀ k, rvCar n c k ≤ 16
  | 0 => by show c ≤ 16; omega
  | k + 1 => by
    have h1 := rvCar_le n c hc k
    have h2 := rvLow_le n k
    show (rvCar n c k + rvLow n k) / 256 ≤ 16
    omega
theorem rvTo_zero (n c : Nat) : rvTo n c 0 = zeros 8 16 := rfl
theorem rvTo_set (n c j : Nat) (hj : j < 16) : (rvTo n c j).set j (rvByte n c j) = rvTo n c (j + 1) := by
  apply ext_nth
  · simp [rvTo, r16]
  · intro i hi
    have hi16 : i < 16 := by simpa [rvTo, r16] using hi
    rw [nth_set _ _ _ _ (by simp [rvTo, r16]; omega), rvTo, rvTo, nth_r16 _ _ hi16, nth_r16 _ _ hi16]
    by_cases e : j = i
    · rw [if_pos e, if_pos (by omega), e]
    · rw [if_neg e]
      by_cases h : i < j
      · rw [if_pos h, if_pos (by omega)]
      · rw [if_neg h, if_neg (by omega)]
theorem rv_full (n : Nat) (b : Bool) (h : n ≤ 300) : rvTo n (if b then 2 else 3) 16 = lenB n b := by
  have hall : ∀ n : Fin 301, ∀ b : Bool, rvTo n.1 (if b then 2 else 3) 16 = lenB n.1 b := of_decide_eq_true (by kernel_rfl)
  exact hall ⟨n, by omega⟩ b
set_option linter.unusedSimpArgs false in
set_option maxRecDepth 100000 in
set_option maxHeartbeats 1600000 in
theorem refLength_true (n : Nat) (w : World) (hn : n ≤ 300) :
    Calls Tryz.prog 120 #[.int .i64 n, .bool true] w fun e w' => e = .returned (.agg (A8 (lenB n true))) ∧ Below w.heap.size w w' := by
  obtain ⟨F, hF⟩ : ∃ F, F = lenB n true := ⟨_, rfl⟩
  have hFl : F.length = 16 := by rw [hF]; rfl
  have hfu : rvTo n 2 16 = F := by rw [hF]; exact rv_full n true hn
  rw [← hF]
  have HFU := Lib.hid hfu
  clear hF hfu
  obtain ⟨W, hW⟩ : ∃ W, (w.alloc (.cells (A8 (zeros 8 16)) 37)).alloc (.cells (A8 (zeros 8 16)) 37) = W := ⟨_, rfl⟩
  obtain ⟨b0, b1, hb, hz⟩ := new2 _ _ _ _ _ _ hW
  have P0 := Lib.hid b0
  have Z0 := Lib.hid b1
  have B0 := Lib.hid hb
  clear b0 b1 hb hz
  go_enter Tryz.func120, Tryz.ntmps120
  go_wp2_with fail
  clear hW
  go_loopw [6, 7] (fun c i wr => ∃ j : Nat, j ≤ 16 ∧ i = .int .i64 j ∧ c = .int .i64 (rvCar n 2 j : Nat) ∧ Blk wr w.heap.size 37 (A8 (zeros 8 16)) ∧ Blk wr (w.heap.size + 1) 37 (A8 (rvTo n 2 j)) ∧ Below w.heap.size w wr) (fun _ i _ => 16 - (intOf i).toNat)
  case atStart => exact ⟨0, by omega, rfl, rfl, P0.out, by rw [rvTo_zero]; exact Z0.out, B0.out⟩
  case round =>
    obtain ⟨j, hj, rfl, rfl, hP, hZ, hB⟩ := hrel
    have P1 := Lib.hid hP
    have Z1 := Lib.hid hZ
    have B1 := Lib.hid hB
    clear hP hZ hB P0 Z0 B0
    by_cases hj16 : j < 16
    · have j1 : (j : Int) < 16 := by omega
      have j0 : (0 : Int) ≤ (j : Int) := by omega
      have hcl := rvCar_le n 2 (by omega) j
      have hst := rvTo_set n 2 j hj16
      have hnx : rvCar n 2 (j + 1) = (rvCar n 2 j + rvLow n j) / 256 := rfl
      have hby : rvByte n 2 j = BitVec.ofNat 8 ((rvCar n 2 j + rvLow n j) % 256) := rfl
      have hll := rvLow_le n j
      have hrl : (rvTo n 2 j).length = 16 := by simp [rvTo]
      obtain ⟨C, hC⟩ : ∃ C, C = rvCar n 2 j := ⟨_, rfl⟩
      obtain ⟨LW, hLW⟩ : ∃ L, L = rvLow n j := ⟨_, rfl⟩
      rw [← hC, ← hLW] at hnx hby
      rw [← hC] at hcl ⊢
      rw [← hLW] at hll
      obtain ⟨S, hS⟩ : ∃ S, S = C + LW := ⟨_, rfl⟩
      rw [← hS] at hnx hby
      have a1 : (C : Int) + (LW : Int) = (S : Int) := by omega
      have a2 : IntKind.i64.wrap (S : Int) = (S : Int) := by rw [IntKind.wrap_i64]; omega
      obtain ⟨D, hD⟩ : ∃ D, D = S / 256 := ⟨_, rfl⟩
      obtain ⟨M, hM⟩ : ∃ M, M = S % 256 := ⟨_, rfl⟩
      rw [← hD] at hnx
      rw [← hM] at hby
      have a3 : (S : Int) / 256 = (D : Int) := by omega
      have a4 : IntKind.i64.wrap (D : Int) = (D : Int) := by rw [IntKind.wrap_i64]; omega
      have a5 : (S : Int) % 256 = (M : Int) := by omega
      have a6 : IntKind.i64.wrap (M : Int) = (M : Int) := by rw [IntKind.wrap_i64]; omega
      have c1 := Z1.out.cell8 hrl j hj16
      have fo := Z1.out.frozen j
      have HNX := Lib.hid hnx
      have HBY := Lib.hid hby
      have HST := Lib.hid hst
      have HLW := Lib.hid hLW
      clear hC hLW hS hD hM hnx hby hst
      obtain ⟨X, hX⟩ : ∃ X, X = BitVec.ofNat 8 M := ⟨_, rfl⟩
      obtain ⟨w1, hw1⟩ : ∃ z, z = wr.setCell ⟨w.heap.size + 1, j, none⟩ (v8 X) := ⟨_, rfl⟩
      have y1 := Z1.out.set_ j (v8 X)
      have g1 := grown_setCell wr (w.heap.size + 1) j (v8 X)
      rw [A8_set, ← hw1, hX, ← HBY.out, HST.out] at y1
      rw [← hw1] at g1
      have P3 := Lib.hid (P1.out.grown g1 (by simp))
      have Z3 := Lib.hid y1
      have B3 := Lib.hid (B1.out.trans (grown_below g1 (by omega) B1.out.size))
      have HW1 := Lib.hid hw1
      have HX := Lib.hid hX
      clear y1 g1 hw1 P1 Z1 B1 hX
      by_cases hj8 : j < 8
      · have j2 : (j : Int) < 8 := by omega
        obtain ⟨K8, hK8⟩ : ∃ K, K = 8 * j := ⟨_, rfl⟩
        have k1 : 8 * (j : Int) = (K8 : Int) := by omega
        have k2 : IntKind.i64.wrap (K8 : Int) = (K8 : Int) := by rw [IntKind.wrap_i64]; omega
        have sh := shr_natV 3 n K8 (by omega)
        have hlw := HLW.out
        rw [rvLow, if_pos hj8, ← hK8] at hlw
        have hle : n / 2 ^ K8 ≤ n := Nat.div_le_self _ _
        obtain ⟨P, hP⟩ : ∃ P, P = n / 2 ^ K8 := ⟨_, rfl⟩
        rw [← hP] at sh hlw hle
        obtain ⟨Q, hQ⟩ : ∃ Q, Q = P % 256 := ⟨_, rfl⟩
        rw [← hQ] at hlw
        have q1 : (P : Int) % 256 = (Q : Int) := by omega
        have q2 : IntKind.i64.wrap (Q : Int) = (Q : Int) := by rw [IntKind.wrap_i64]; omega
        have q3 : (Q : Int) * 16 = (LW : Int) := by omega
        have q4 : IntKind.i64.wrap (LW : Int) = (LW : Int) := by rw [IntKind.wrap_i64]; omega
        clear hK8 hP hQ hlw hle
        go_wp2
        rw [← HX.out, show wr.setCell ⟨w.heap.size + 1, j, none⟩ (v8 X) = w1 from HW1.out.symm]
        exact ⟨⟨j + 1, by omega, by go_num, by rw [HNX.out], P3.out, Z3.out, B3.out⟩, by simp [intOf]; omega⟩
      · have j2 : ¬ (j : Int) < 8 := by omega
        have hlw := HLW.out
        rw [rvLow, if_neg hj8] at hlw
        have hSC : S = C := by omega
        subst hSC
        subst hlw
        go_wp2
        rw [← HX.out, show wr.setCell ⟨w.heap.size + 1, j, none⟩ (v8 X) = w1 from HW1.out.symm]
        exact ⟨⟨j + 1, by omega, by go_num, by rw [HNX.out], P3.out, Z3.out, B3.out⟩, by simp [intOf]; omega⟩
    · obtain rfl : j = 16 := by omega
      have zz := Z1.out
      rw [HFU.out] at zz
      have r1 := zz.row
      have r2 := P1.out.row
      have r3 := P1.out.whole
      clear zz
      go_wp2
      refine bodyPost_row (A8 F) rfl rfl rfl (Tryz.isAgg37 _) (Tryz.sizeOf37 _) (by rw [A8_size]; exact hFl) (rowAt_setRow _ r3) ⟨rfl, below_setRow B1.out (by omega) _⟩
set_option linter.unusedSimpArgs false in
set_option maxRecDepth 100000 in
set_option maxHeartbeats 1600000 in
theorem refLength_false (n : Nat) (w : World) (hn : n ≤ 300) :
    Calls Tryz.prog 120 #[.int .i64 n, .bool false] w fun e w' => e = .returned (.agg (A8 (lenB n false))) ∧ Below w.heap.size w w' := by
  obtain ⟨F, hF⟩ : ∃ F, F = lenB n false := ⟨_, rfl⟩
  have hFl : F.length = 16 := by rw [hF]; rfl
  have hfu : rvTo n 3 16 = F := by rw [hF]; exact rv_full n false hn
  rw [← hF]
  have HFU := Lib.hid hfu
  clear hF hfu
  obtain ⟨W, hW⟩ : ∃ W, (w.alloc (.cells (A8 (zeros 8 16)) 37)).alloc (.cells (A8 (zeros 8 16)) 37) = W := ⟨_, rfl⟩
  obtain ⟨b0, b1, hb, hz⟩ := new2 _ _ _ _ _ _ hW
  have P0 := Lib.hid b0
  have Z0 := Lib.hid b1
  have B0 := Lib.hid hb
  clear b0 b1 hb hz
  go_enter Tryz.func120, Tryz.ntmps120
  go_wp2_with fail
  clear hW
  go_loopw [6, 7] (fun c i wr => ∃ j : Nat, j ≤ 16 ∧ i = .int .i64 j ∧ c = .int .i64 (rvCar n 3 j : Nat) ∧ Blk wr w.heap.size 37 (A8 (zeros 8 16)) ∧ Blk wr (w.heap.size + 1) 37 (A8 (rvTo n 3 j)) ∧ Below w.heap.size w wr) (fun _ i _ => 16 - (intOf i).toNat)
  case atStart => exact ⟨0, by omega, rfl, rfl, P0.out, by rw [rvTo_zero]; exact Z0.out, B0.out⟩
  case round =>
    obtain ⟨j, hj, rfl, rfl, hP, hZ, hB⟩ := hrel
    have P1 := Lib.hid hP
    have Z1 := Lib.hid hZ
    have B1 := Lib.hid hB
    clear hP hZ hB P0 Z0 B0
    by_cases hj16 : j < 16
    · have j1 : (j : Int) < 16 := by omega
      have j0 : (0 : Int) ≤ (j : Int) := by omega
      have hcl := rvCar_le n 3 (by omega) j
      have hst := rvTo_set n 3 j hj16
      have hnx : rvCar n 3 (j + 1) = (rvCar n 3 j + rvLow n j) / 256 := rfl
      have hby : rvByte n 3 j = BitVec.ofNat 8 ((rvCar n 3 j + rvLow n j) % 256) := rfl
      have hll := rvLow_le n j
      have hrl : (rvTo n 3 j).length = 16 := by simp [rvTo]
      obtain ⟨C, hC⟩ : ∃ C, C = rvCar n 3 j := ⟨_, rfl⟩
      obtain ⟨LW, hLW⟩ : ∃ L, L = rvLow n j := ⟨_, rfl⟩
      rw [← hC, ← hLW] at hnx hby
      rw [← hC] at hcl ⊢
      rw [← hLW] at hll
      obtain ⟨S, hS⟩ : ∃ S, S = C + LW := ⟨_, rfl⟩
      rw [← hS] at hnx hby
      have a1 : (C : Int) + (LW : Int) = (S : Int) := by omega
      have a2 : IntKind.i64.wrap (S : Int) = (S : Int) := by rw [IntKind.wrap_i64]; omega
      obtain ⟨D, hD⟩ : ∃ D, D = S / 256 := ⟨_, rfl⟩
      obtain ⟨M, hM⟩ : ∃ M, M = S % 256 := ⟨_, rfl⟩
      rw [← hD] at hnx
      rw [← hM] at hby
      have a3 : (S : Int) / 256 = (D : Int) := by omega
      have a4 : IntKind.i64.wrap (D : Int) = (D : Int) := by rw [IntKind.wrap_i64]; omega
      have a5 : (S : Int) % 256 = (M : Int) := by omega
      have a6 : IntKind.i64.wrap (M : Int) = (M : Int) := by rw [IntKind.wrap_i64]; omega
      have c1 := Z1.out.cell8 hrl j hj16
      have fo := Z1.out.frozen j
      have HNX := Lib.hid hnx
      have HBY := Lib.hid hby
      have HST := Lib.hid hst
      have HLW := Lib.hid hLW
      clear hC hLW hS hD hM hnx hby hst
      obtain ⟨X, hX⟩ : ∃ X, X = BitVec.ofNat 8 M := ⟨_, rfl⟩
      obtain ⟨w1, hw1⟩ : ∃ z, z = wr.setCell ⟨w.heap.size + 1, j, none⟩ (v8 X) := ⟨_, rfl⟩
      have y1 := Z1.out.set_ j (v8 X)
      have g1 := grown_setCell wr (w.heap.size + 1) j (v8 X)
      rw [A8_set, ← hw1, hX, ← HBY.out, HST.out] at y1
      rw [← hw1] at g1
      have P3 := Lib.hid (P1.out.grown g1 (by simp))
      have Z3 := Lib.hid y1
      have B3 := Lib.hid (B1.out.trans (grown_below g1 (by omega) B1.out.size))
      have HW1 := Lib.hid hw1
      have HX := Lib.hid hX
      clear y1 g1 hw1 P1 Z1 B1 hX
      by_cases hj8 : j < 8
      · have j2 : (j : Int) < 8 := by omega
        obtain ⟨K8, hK8⟩ : ∃ K, K = 8 * j := ⟨_, rfl⟩
        have k1 : 8 * (j : Int) = (K8 : Int) := by omega
        have k2 : IntKind.i64.wrap (K8 : Int) = (K8 : Int) := by rw [IntKind.wrap_i64]; omega
        have sh := shr_natV 3 n K8 (by omega)
        have hlw := HLW.out
        rw [rvLow, if_pos hj8, ← hK8] at hlw
        have hle : n / 2 ^ K8 ≤ n := Nat.div_le_self _ _
        obtain ⟨P, hP⟩ : ∃ P, P = n / 2 ^ K8 := ⟨_, rfl⟩
        rw [← hP] at sh hlw hle
        obtain ⟨Q, hQ⟩ : ∃ Q, Q = P % 256 := ⟨_, rfl⟩
        rw [← hQ] at hlw
        have q1 : (P : Int) % 256 = (Q : Int) := by omega
        have q2 : IntKind.i64.wrap (Q : Int) = (Q : Int) := by rw [IntKind.wrap_i64]; omega
        have q3 : (Q : Int) * 16 = (LW : Int) := by omega
        have q4 : IntKind.i64.wrap (LW : Int) = (LW : Int) := by rw [IntKind.wrap_i64]; omega
        clear hK8 hP hQ hlw hle
        go_wp2
        rw [← HX.out, show wr.setCell ⟨w.heap.size + 1, j, none⟩ (v8 X) = w1 from HW1.out.symm]
        exact ⟨⟨j + 1, by omega, by go_num, by rw [HNX.out], P3.out, Z3.out, B3.out⟩, by simp [intOf]; omega⟩
      · have j2 : ¬ (j : Int) < 8 := by omega
        have hlw := HLW.out
        rw [rvLow, if_neg hj8] at hlw
        have hSC : S = C := by omega
        subst hSC
        subst hlw
        go_wp2
        rw [← HX.out, show wr.setCell ⟨w.heap.size + 1, j, none⟩ (v8 X) = w1 from HW1.out.symm]
        exact ⟨⟨j + 1, by omega, by go_num, by rw [HNX.out], P3.out, Z3.out, B3.out⟩, by simp [intOf]; omega⟩
    · obtain rfl : j = 16 := by omega
      have zz := Z1.out
      rw [HFU.out] at zz
      have r1 := zz.row
      have r2 := P1.out.row
      have r3 := P1.out.whole
      clear zz
      go_wp2
      refine bodyPost_row (A8 F) rfl rfl rfl (Tryz.isAgg37 _) (Tryz.sizeOf37 _) (by rw [A8_size]; exact hFl) (rowAt_setRow _ r3) ⟨rfl, below_setRow B1.out (by omega) _⟩
theorem refLength_any (n : Nat) (b : Bool) (w : World) (hn : n ≤ 300) :
    Calls Tryz.prog 120 #[.int .i64 n, .bool b] w fun e w' => e = .returned (.agg (A8 (lenB n b))) ∧ Below w.heap.size w w' := by
  cases b
  · exact refLength_false n w hn
  · exact refLength_true n w hn
end Go.Proofs.YtfdkmjegcghieaaGreatDoor
/- val by definition: On, Sum -/
namespace Go.Proofs.YtfdkmjegcghieaaGreatDoor
open Go.RowKit
theorem dot_refDot (h X : List (BitVec 8)) : by16 (dotB (numB h) (numB X)) = dotBy (oneW h) X := by
  rw [← dotL_dot, by16_tb]; rfl
theorem val_step (one : W2) (s b : List (BitVec 8)) (hs : s.length = 16) (k : Nat) (hk : 16 * k + 16 ≤ b.length) :
    valK one s b (k + 1) = dotBy one (xor16 (valK one s b k) (blk ((b.take (16 * k + 16)).drop (16 * k)))) := by
  have hV := valK_length one s b hs k
  have hd : ((b.take (16 * k + 16)).drop (16 * k)).length = 16 := by rw [List.length_drop, List.length_take]; omega
  show dotBy one (blk (xorl (valK one s b k) (b.drop (16 * k)))) = _
  congr 1
  rw [blk_id _ hd, ← xorl16 _ _ hV hd]
  congr 1
  apply ext_nth
  · rw [xorl_length, xorl_length, hd, hV, List.length_drop]; omega
  · intro i hi
    rw [xorl_length, hV, List.length_drop] at hi
    rw [nth_xorl _ _ _ (by rw [hV, List.length_drop]; omega), nth_xorl _ _ _ (by rw [hV, hd]; omega)]
    congr 1
    rw [List.drop_take, nth_take _ _ _ (by omega)]
set_option linter.unusedSimpArgs false in
set_option maxRecDepth 100000 in
set_option maxHeartbeats 1600000 in
theorem refOn_any (h s b : List (BitVec 8)) (a : Option Addr) (n c : Nat) (w : World) (hh : h.length = 16) (hs : s.length = 16) (hr : Rd8 w a n c b) (hn : n ≤ 1000000) :
    Calls Tryz.prog 118 #[.agg (A8 h), .agg (A8 s), .slice a n c] w fun e w' => e = .returned (.agg (A8 (valK (oneW h) s b (n / 16)))) ∧ Below w.heap.size w w' := by
  obtain ⟨W, hW⟩ : ∃ W, ((w.alloc (.cells (A8 h) 37)).alloc (.cells (A8 s) 37)).alloc (.cells (A8 (zeros 8 16)) 37) = W := ⟨_, rfl⟩
  obtain ⟨b0, b1, b2, hb, hz⟩ := new3 _ _ _ _ _ _ _ _ hW
  have hbl := hr.1
  have hab : 0 < n → ∀ ad, a = some ad → ad.block < w.heap.size := fun hn ad e => by
    obtain ⟨g, o, e2, hg, _⟩ := hr.2.2.2 hn
    rw [e] at e2; cases e2; exact hg
  have HAB := Lib.hid hab
  have P0 := Lib.hid b0
  have V0 := Lib.hid b1
  have Z0 := Lib.hid b2
  have R0 := Lib.hid (hr.below hb)
  have B0 := Lib.hid hb
  obtain ⟨F, hF⟩ : ∃ F, F = valK (oneW h) s b (n / 16) := ⟨_, rfl⟩
  have hFl : F.length = 16 := by rw [hF]; exact valK_length _ _ _ hs _
  rw [← hF]
  have HF := Lib.hid hF
  clear b0 b1 b2 hb hz hr hF hab
  go_enter Tryz.func118, Tryz.ntmps118
  go_wp2_with fail
  clear hW
  go_loopw [7] (fun i wr => ∃ k : Nat, 16 * k ≤ n ∧ i = .int .i64 (16 * k : Nat) ∧ Blk wr w.heap.size 37 (A8 h) ∧ Blk wr (w.heap.size + 1) 37 (A8 (valK (oneW h) s b k)) ∧ Blk wr (w.heap.size + 2) 37 (A8 (zeros 8 16)) ∧ Rd8 wr a n c b ∧ Below w.heap.size w wr) (fun i _ => n + 16 - (intOf i).toNat)
  case atStart => exact ⟨0, by omega, rfl, P0.out, V0.out, Z0.out, R0.out, B0.out⟩
  case round =>
    obtain ⟨k, hk, rfl, hP, hV, hZ, hR, hB⟩ := hrel
    have P1 := Lib.hid hP
    have V1 := Lib.hid hV
    have Z1 := Lib.hid hZ
    have R1 := Lib.hid hR
    have B1 := Lib.hid hB
    clear hP hV hZ hR hB P0 V0 Z0 R0 B0
    obtain ⟨I, hI⟩ : ∃ I, I = 16 * k := ⟨_, rfl⟩
    obtain ⟨J, hJ⟩ : ∃ J, J = I + 16 := ⟨_, rfl⟩
    rw [← hI] at hk ⊢
    have i1 : (I : Int) + 16 = (J : Int) := by omega
    have i2 : IntKind.i64.wrap (J : Int) = (J : Int) := by rw [IntKind.wrap_i64]; omega
    have i0 : (0 : Int) ≤ (I : Int) := by omega
    have vl := valK_length (oneW h) s b hs k
    by_cases hJn : J ≤ n
    · have i3 : (J : Int) ≤ (n : Int) := by omega
      have i4 : (I : Int) ≤ (J : Int) := by omega
      have i5 : (J : Int) ≤ (c : Int) := by have := R1.out.2.1; omega
      have st := val_step (oneW h) s b hs k (by omega)
      obtain ⟨U, hU⟩ : ∃ U, U = valK (oneW h) s b k := ⟨_, rfl⟩
      rw [← hI, ← hJ, ← hU] at st
      rw [← hU] at V1 vl
      obtain ⟨bk, bo, rfl, _, _⟩ := R1.out.2.2.2 (by omega)
      obtain ⟨bA, eA⟩ : ∃ z, (if c = I then some (⟨bk, bo, none⟩ : Addr) else some ⟨bk, bo + I, none⟩) = z := ⟨_, rfl⟩
      have mc := R1.out.cut (j := I) (k := J) (by omega) hJn
      simp only [Option.map_some, Addr.add_lit] at mc
      rw [eA] at mc
      obtain ⟨Y, hY⟩ : ∃ Y, Y = (b.take J).drop I := ⟨_, rfl⟩
      rw [← hY] at mc st
      have MC := Lib.hid mc
      have ST := Lib.hid st
      have HIk := Lib.hid hI
      have HJk := Lib.hid hJ
      clear hI hJ hU hY mc st
      obtain ⟨N, hN⟩ : ∃ N, N = J - I := ⟨_, rfl⟩
      have hN16 : N = 16 := by have := HJk.out; omega
      go_upto_region 4 with fail
      refine wp_region_tail [5,5,0,0,0,0,0,2,2,2,3] (by kernel_rfl) (by kernel_rfl) (fun C0 hC0 hCb K' hK' => ?_)
      have Q1 : ∀ w1, C0 w1 → rowAt w1 w.heap.size = A8 h := fun w1 hw => (P1.out.drew.belowAll (hCb w1 hw)).row
      have Q2 : ∀ w1, C0 w1 → rowAt w1 (w.heap.size + 1) = A8 U := fun w1 hw => (V1.out.drew.belowAll (hCb w1 hw)).row
      repeat
        first
          | ((with_reducible refine h_pure (v := ?_) (a' := ?_) ?_ (fun _ => ?_) ?_ ?_); rotate_left; rotate_left; (focus (exact rfl)); (focus (go_simp; (try go_bits); exact rfl)); (focus (simp only [Act.put, List.setIfInBounds_toArray, List.set_cons_succ, List.set_cons_zero, Act.eval, Array.getD_eq_getD_getElem?, List.getElem?_toArray, List.getElem?_cons_succ, List.getElem?_cons_zero, Option.getD_some]; exact rfl)))
          | ((with_reducible refine h_obl (v := ?_) (a' := ?_) ?_ (fun _ hcw => ?_) ?_ ?_); rotate_left; rotate_left; (focus (exact rfl)); (focus (have f1 := Q1 _ hcw; have f2 := Q2 _ hcw; go_simp; (try go_bits); exact rfl)); (focus (simp only [Act.put, List.setIfInBounds_toArray, List.set_cons_succ, List.set_cons_zero, Act.eval, Array.getD_eq_getD_getElem?, List.getElem?_toArray, List.getElem?_cons_succ, List.getElem?_cons_zero, Option.getD_some]; exact rfl)))
          | ((with_reducible refine h_read (v := ?_) (a' := ?_) ?_ (fun _ hbw => ?_) ?_ ?_); rotate_left; rotate_left; (focus (exact rfl)); (focus (skip; go_simp; (try go_bits); exact rfl)); (focus (simp only [Act.put, List.setIfInBounds_toArray, List.set_cons_succ, List.set_cons_zero, Act.eval, Array.getD_eq_getD_getElem?, List.getElem?_toArray, List.getElem?_cons_succ, List.getElem?_cons_zero, Option.getD_some]; exact rfl)))
      (with_reducible refine h_call ?_ ?_)
      · exact rfl
      go_simp
      refine entersW_of ?_
      refine (refBlock16_any Y bA (J - I) (c - I) wr.drew MC.out.drew (by omega)).mono ?_
      rintro e w3 ⟨rfl, d3⟩
      refine ⟨_, rfl, d3, ?_⟩
      try simp only [Act.put, List.setIfInBounds_toArray, List.set_cons_succ, List.set_cons_zero]
      (with_reducible refine h_call ?_ ?_)
      · exact rfl
      go_simp
      refine entersW_of ?_
      refine (refSixteen_any U (blk Y) w3 vl (blk_length Y)).mono ?_
      rintro e w4 ⟨rfl, d4⟩
      refine ⟨_, rfl, d4, ?_⟩
      try simp only [Act.put, List.setIfInBounds_toArray, List.set_cons_succ, List.set_cons_zero]
      (with_reducible refine h_call ?_ ?_)
      · exact rfl
      go_simp
      refine entersW_of ?_
      refine (refDot_any h (xor16 U (blk Y)) w4 hh (xor16_length _ _)).mono ?_
      rintro e w5 ⟨rfl, d5⟩
      refine ⟨_, rfl, d5, ?_⟩
      try simp only [Act.put, List.setIfInBounds_toArray, List.set_cons_succ, List.set_cons_zero]
      rw [dot_refDot, ← ST.out]
      have D5 := d3.trans ((d4.trans (d5.mono d4.size)).mono d3.size)
      refine h_tail [2] rfl (by simp) ?_
      refine z_storeRow (V1.out.drew.belowAll D5) rfl rfl (by rw [A8_size, A8_size, vl, valK_length _ _ _ hs]) (A8_ones _) (by rw [A8_size, valK_length _ _ _ hs]; exact Tryz.sizeOf37 _) (fun w6 k6 g6 s6 => ?_)
      refine z_nil (hK' _ _ ?_)
      have P6 := Lib.hid ((P1.out.drew.belowAll D5).grown g6 (by simp))
      have V6 := Lib.hid k6
      have Z6 := Lib.hid ((Z1.out.drew.belowAll D5).grown g6 (by simp))
      have R6 := Lib.hid ((R1.out.drew.below D5).away g6 (fun ad e => by have := HAB.out (by omega) ad e; omega))
      have B6 := Lib.hid ((B1.out.drew.trans (D5.mono B1.out.drew.size)).trans (grown_below g6 (by omega) (Nat.le_trans B1.out.drew.size D5.size)))
      clear Q1 Q2 hC0 hCb hK' d3 d4 d5 D5 g6 s6 k6 P1 V1 Z1 R1 B1
      go_wp2
      exact ⟨⟨k + 1, by have := HIk.out; have := HJk.out; omega, by have := HIk.out; have := HJk.out; simp; omega, P6.out, V6.out, Z6.out, R6.out, B6.out⟩, by have := HJk.out; simp [intOf]; omega⟩
    · have i3 : ¬ (J : Int) ≤ (n : Int) := by omega
      have hkn : k = n / 16 := by omega
      have zz := V1.out
      rw [hkn, ← HF.out] at zz
      have r1 := zz.row
      have r2 := Z1.out.row
      have r3 := Z1.out.whole
      clear zz hI hJ hkn
      go_wp2
      refine bodyPost_row (A8 F) rfl rfl rfl (Tryz.isAgg37 _) (Tryz.sizeOf37 _) (by rw [A8_size]; exact hFl) (rowAt_setRow _ r3) ⟨rfl, below_setRow B1.out (by omega) _⟩
set_option linter.unusedSimpArgs false in
set_option maxRecDepth 100000 in
set_option maxHeartbeats 800000 in
theorem refSum_any (h b : List (BitVec 8)) (a : Option Addr) (n c : Nat) (w : World) (hh : h.length = 16) (hr : Rd8 w a n c b) (hn : n ≤ 100000) :
    Calls Tryz.prog 72 #[.agg (A8 h), .slice a n c] w fun e w' => e = .returned (.agg (A8 (valSum h b))) ∧ Below w.heap.size w w' := by
  obtain ⟨W, hW⟩ : ∃ W, (w.alloc (.cells (A8 h) 37)).alloc (.cells (A8 (zeros 8 16)) 37) = W := ⟨_, rfl⟩
  obtain ⟨b0, b1, hb, hz⟩ := new2 _ _ _ _ _ _ hW
  have hbl := hr.1
  have P0 := Lib.hid b0
  have Z0 := Lib.hid b1
  have R0 := Lib.hid (hr.below hb)
  have B0 := Lib.hid hb
  obtain ⟨F, hF⟩ : ∃ F, F = valSum h b := ⟨_, rfl⟩
  have hFl : F.length = 16 := by rw [hF]; exact valSum_length _ _
  have hpl : (padL b 16).length ≤ 1000000 := by rw [padL_length, hbl]; have : roomN n 16 ≤ 15 := by { unfold roomN; omega }; omega
  rw [← hF]
  have HF := Lib.hid hF
  clear b0 b1 hb hz hr hF
  go_enter Tryz.func72, Tryz.ntmps72
  go_upto_region 1 with fail
  clear hW
  refine wp_region_tail [5,0,0,2,2,3] (by kernel_rfl) (by kernel_rfl) (fun C0 hC0 hCb K' hK' => ?_)
  have Q1 : ∀ w1, C0 w1 → rowAt w1 w.heap.size = A8 h := fun w1 hw => (P0.out.drew.belowAll (hCb w1 hw)).row
  repeat
    first
      | ((with_reducible refine h_pure (v := ?_) (a' := ?_) ?_ (fun _ => ?_) ?_ ?_); rotate_left; rotate_left; (focus (exact rfl)); (focus (go_simp; (try go_bits); exact rfl)); (focus (simp only [Act.put, List.setIfInBounds_toArray, List.set_cons_succ, List.set_cons_zero, Act.eval, Array.getD_eq_getD_getElem?, List.getElem?_toArray, List.getElem?_cons_succ, List.getElem?_cons_zero, Option.getD_some]; exact rfl)))
      | ((with_reducible refine h_obl (v := ?_) (a' := ?_) ?_ (fun _ hcw => ?_) ?_ ?_); rotate_left; rotate_left; (focus (exact rfl)); (focus (have f1 := Q1 _ hcw; go_simp; (try go_bits); exact rfl)); (focus (simp only [Act.put, List.setIfInBounds_toArray, List.set_cons_succ, List.set_cons_zero, Act.eval, Array.getD_eq_getD_getElem?, List.getElem?_toArray, List.getElem?_cons_succ, List.getElem?_cons_zero, Option.getD_some]; exact rfl)))
      | ((with_reducible refine h_read (v := ?_) (a' := ?_) ?_ (fun _ hbw => ?_) ?_ ?_); rotate_left; rotate_left; (focus (exact rfl)); (focus (skip; go_simp; (try go_bits); exact rfl)); (focus (simp only [Act.put, List.setIfInBounds_toArray, List.set_cons_succ, List.set_cons_zero, Act.eval, Array.getD_eq_getD_getElem?, List.getElem?_toArray, List.getElem?_cons_succ, List.getElem?_cons_zero, Option.getD_some]; exact rfl)))
  (with_reducible refine h_call ?_ ?_)
  · exact rfl
  go_simp
  refine entersW_of ?_
  refine (refPadded_any b a n c W.drew R0.out.drew (by omega)).mono ?_
  rintro e w3 ⟨v3, rfl, o3, d3⟩
  refine ⟨_, rfl, d3, ?_⟩
  try simp only [Act.put, List.setIfInBounds_toArray, List.set_cons_succ, List.set_cons_zero]
  obtain ⟨a3, c3, rfl, r3, _⟩ := o3.rd
  (with_reducible refine h_call ?_ ?_)
  · exact rfl
  go_simp
  refine entersW_of ?_
  refine (refOn_any h (zeros 8 16) (padL b 16) a3 (padL b 16).length c3 w3 hh rfl r3 hpl).mono ?_
  rintro e w4 ⟨rfl, d4⟩
  refine ⟨_, rfl, d4, ?_⟩
  try simp only [Act.put, List.setIfInBounds_toArray, List.set_cons_succ, List.set_cons_zero]
  rw [show valK (oneW h) (zeros 8 16) (padL b 16) ((padL b 16).length / 16) = F from HF.out.symm]
  have D4 := d3.trans (d4.mono d3.size)
  refine h_tail [2] rfl (by simp) ?_
  refine z_storeRow (Z0.out.drew.belowAll D4) rfl rfl (by rw [A8_size, A8_size, hFl, zeros_length]) (A8_ones _) (by rw [A8_size, hFl]; exact Tryz.sizeOf37 _) (fun w5 k5 g5 s5 => ?_)
  refine z_nil (hK' _ _ ?_)
  have B5 := Lib.hid ((B0.out.drew.trans (D4.mono B0.out.size)).grown g5 (Nat.le_trans B0.out.size D4.size) (fun k hk => by cases hk; omega))
  have r5 := k5.row
  clear Q1 hC0 hCb hK' d3 d4 D4 o3 r3 g5 s5 hpl
  go_wp2
  refine bodyPost_row (A8 F) rfl rfl rfl (Tryz.isAgg37 _) (Tryz.sizeOf37 _) (by rw [A8_size]; exact hFl) r5 ⟨rfl, B5.out⟩
set_option linter.unusedSimpArgs false in
set_option maxRecDepth 100000 in
set_option maxHeartbeats 1600000 in
theorem refEncode_any (T M : List (BitVec 8)) (a b : Option Addr) (n c m d : Nat) (w : World) (hT : Rd8 w a n c T) (hM : Rd8 w b m d M) (hn : n ≤ 300) (hm : m ≤ 10000) :
    Calls Tryz.prog 73 #[.slice a n c, .slice b m d] w fun e w' => ∃ v, e = .returned v ∧ Own8 w' w.heap.size 5 v (encB T M) ∧ Below w.heap.size w w' := by
  have hTl := hT.1
  have hMl := hM.1
  have T0 := Lib.hid hT
  have M0 := Lib.hid hM
  obtain ⟨wh, hwh⟩ : ∃ z : Bool, z = (m % 16 == 0) := ⟨_, rfl⟩
  obtain ⟨LB, hLB⟩ : ∃ L, L = lenB n wh := ⟨_, rfl⟩
  have hLBl : LB.length = 16 := by rw [hLB]; rfl
  have henc : encB T M = (LB ++ padL T 16) ++ lastB M := by rw [encB, hTl, hMl, ← hwh, ← hLB, List.append_assoc]
  rw [henc]
  have hpt : (padL T 16).length ≤ 400 := by rw [padL_length, hTl]; have : roomN n 16 ≤ 15 := by { unfold roomN; omega }; omega
  have rl := fun w => refLength_any n wh w hn
  rw [← hLB] at rl
  have RL := Lib.hid rl
  clear hT hM henc rl hLB
  have q1 : IntKind.i64.wrap ((m : Int) % 16) = (m : Int) % 16 := by rw [IntKind.wrap_i64]; omega
  by_cases hm16 : m % 16 = 0
  · obtain rfl : wh = true := by rw [hwh]; simp [hm16]
    have q2 : (m : Int) % 16 = 0 := by omega
    have hlast : lastB M = M := by rw [lastB, hMl, if_pos hm16]
    rw [hlast]
    clear hlast hwh hm16
    go_enter Tryz.func73, Tryz.ntmps73
    go_wp2_with fail
    refine (RL.out w).mono ?_
    rintro e w1 ⟨rfl, d1⟩
    obtain ⟨V, hV⟩ : ∃ V, V = w1.alloc (.cells (A8 LB) 37) := ⟨_, rfl⟩
    have E1 : Below w.heap.size w V := by rw [hV]; exact d1.alloc d1.size _
    have GV0 := Blk.new w1 37 (A8 LB)
    rw [← hV] at GV0
    have rl8 := GV0.rd8 16 (by rw [hLBl]; exact Nat.le_refl _) (by rw [hLBl]; unfold maxLen; omega)
    rw [List.take_of_length_le (by omega)] at rl8
    rw [hLBl] at rl8
    have GV := Lib.hid rl8
    have hVg := Lib.hid hV
    have BV := Lib.hid E1
    clear d1 E1 GV0 rl8 hV RL
    go_upto_region 2 with fail
    rw [← hVg.out]
    clear hVg
    generalize w1.heap.size = g at *
    refine wp_region_plain [2,0,2,0,2,2,0] rfl (fun ops' K4 hK4 => ?_)
    refine z_build0 (B := w.heap.size) BV.out.size Tryz.underlying23 info8 (fun w4 v4 ho4 hb4 => ?_)
    simp only [Act.put, List.setIfInBounds_toArray, List.set_cons_succ, List.set_cons_zero]
    repeat
      first
        | ((with_reducible refine z_move (a' := ?_) ?_ ?_); rotate_left; · (simp only [Act.put, List.setIfInBounds_toArray, List.set_cons_succ, List.set_cons_zero, Act.eval, Array.getD_eq_getD_getElem?, List.getElem?_toArray, List.getElem?_cons_succ, List.getElem?_cons_zero, Option.getD_some]; exact rfl))
        | ((with_reducible refine z_assign (a' := ?_) ?_ ?_); rotate_left; · (simp only [Act.put, List.setIfInBounds_toArray, List.set_cons_succ, List.set_cons_zero, Act.eval, Array.getD_eq_getD_getElem?, List.getElem?_toArray, List.getElem?_cons_succ, List.getElem?_cons_zero, Option.getD_some]; exact rfl))
        | ((with_reducible refine z_obl (v := ?_) (a' := ?_) rfl (fun _ => ?_) ?_ ?_); rotate_left; rotate_left; (focus (go_simp; (try go_bits); exact rfl)); (focus (simp only [Act.put, List.setIfInBounds_toArray, List.set_cons_succ, List.set_cons_zero, Act.eval, Array.getD_eq_getD_getElem?, List.getElem?_toArray, List.getElem?_cons_succ, List.getElem?_cons_zero, Option.getD_some]; exact rfl)))
        | ((with_reducible refine z_read (v := ?_) (a' := ?_) rfl ?_ ?_ ?_); rotate_left; rotate_left; (focus (go_simp; (try go_bits); exact rfl)); (focus (simp only [Act.put, List.setIfInBounds_toArray, List.set_cons_succ, List.set_cons_zero, Act.eval, Array.getD_eq_getD_getElem?, List.getElem?_toArray, List.getElem?_cons_succ, List.getElem?_cons_zero, Option.getD_some]; exact rfl)))
    refine z_append8 ho4 (GV.out.below hb4) rfl rfl Tryz.underlying23 info8 (by simp) (Nat.le_trans BV.out.size hb4.size) (fun w5 v5 o5 g5 b5 => ?_)
    simp only [Act.put, List.setIfInBounds_toArray, List.set_cons_succ, List.set_cons_zero]
    rw [List.nil_append] at o5
    have B5 := (BV.out.trans (hb4.mono BV.out.size)).trans b5
    repeat
      first
        | ((with_reducible refine z_move (a' := ?_) ?_ ?_); rotate_left; · (simp only [Act.put, List.setIfInBounds_toArray, List.set_cons_succ, List.set_cons_zero, Act.eval, Array.getD_eq_getD_getElem?, List.getElem?_toArray, List.getElem?_cons_succ, List.getElem?_cons_zero, Option.getD_some]; exact rfl))
        | ((with_reducible refine z_assign (a' := ?_) ?_ ?_); rotate_left; · (simp only [Act.put, List.setIfInBounds_toArray, List.set_cons_succ, List.set_cons_zero, Act.eval, Array.getD_eq_getD_getElem?, List.getElem?_toArray, List.getElem?_cons_succ, List.getElem?_cons_zero, Option.getD_some]; exact rfl))
        | ((with_reducible refine z_obl (v := ?_) (a' := ?_) rfl (fun _ => ?_) ?_ ?_); rotate_left; rotate_left; (focus (go_simp; (try go_bits); exact rfl)); (focus (simp only [Act.put, List.setIfInBounds_toArray, List.set_cons_succ, List.set_cons_zero, Act.eval, Array.getD_eq_getD_getElem?, List.getElem?_toArray, List.getElem?_cons_succ, List.getElem?_cons_zero, Option.getD_some]; exact rfl)))
        | ((with_reducible refine z_read (v := ?_) (a' := ?_) rfl ?_ ?_ ?_); rotate_left; rotate_left; (focus (go_simp; (try go_bits); exact rfl)); (focus (simp only [Act.put, List.setIfInBounds_toArray, List.set_cons_succ, List.set_cons_zero, Act.eval, Array.getD_eq_getD_getElem?, List.getElem?_toArray, List.getElem?_cons_succ, List.getElem?_cons_zero, Option.getD_some]; exact rfl)))
    (with_reducible refine z_callw rfl ?_)
    go_simp
    refine entersW_of ?_
    refine (refPadded_any T a n c w5 (T0.out.below B5) (by omega)).mono ?_
    rintro e w2 ⟨v2, rfl, o2, d2⟩
    refine ⟨_, rfl, ?_⟩
    try simp only [Act.put, List.setIfInBounds_toArray, List.set_cons_succ, List.set_cons_zero]
    obtain ⟨a2, c2, rfl, r2, _⟩ := o2.rd
    refine z_append8 (o5.below d2) r2 rfl rfl Tryz.underlying23 info8 (by rw [hLBl]; omega) (Nat.le_trans B5.size d2.size) (fun w6 v6 o6 g6 b6 => ?_)
    simp only [Act.put, List.setIfInBounds_toArray, List.set_cons_succ, List.set_cons_zero]
    repeat
      first
        | ((with_reducible refine z_move (a' := ?_) ?_ ?_); rotate_left; · (simp only [Act.put, List.setIfInBounds_toArray, List.set_cons_succ, List.set_cons_zero, Act.eval, Array.getD_eq_getD_getElem?, List.getElem?_toArray, List.getElem?_cons_succ, List.getElem?_cons_zero, Option.getD_some]; exact rfl))
        | ((with_reducible refine z_assign (a' := ?_) ?_ ?_); rotate_left; · (simp only [Act.put, List.setIfInBounds_toArray, List.set_cons_succ, List.set_cons_zero, Act.eval, Array.getD_eq_getD_getElem?, List.getElem?_toArray, List.getElem?_cons_succ, List.getElem?_cons_zero, Option.getD_some]; exact rfl))
        | ((with_reducible refine z_obl (v := ?_) (a' := ?_) rfl (fun _ => ?_) ?_ ?_); rotate_left; rotate_left; (focus (go_simp; (try go_bits); exact rfl)); (focus (simp only [Act.put, List.setIfInBounds_toArray, List.set_cons_succ, List.set_cons_zero, Act.eval, Array.getD_eq_getD_getElem?, List.getElem?_toArray, List.getElem?_cons_succ, List.getElem?_cons_zero, Option.getD_some]; exact rfl)))
        | ((with_reducible refine z_read (v := ?_) (a' := ?_) rfl ?_ ?_ ?_); rotate_left; rotate_left; (focus (go_simp; (try go_bits); exact rfl)); (focus (simp only [Act.put, List.setIfInBounds_toArray, List.set_cons_succ, List.set_cons_zero, Act.eval, Array.getD_eq_getD_getElem?, List.getElem?_toArray, List.getElem?_cons_succ, List.getElem?_cons_zero, Option.getD_some]; exact rfl)))
    refine z_nil (hK4 _ _ ?_)
    have O6 := Lib.hid o6
    have B6' := (B5.trans (d2.mono B5.size)).trans b6
    have M6 := Lib.hid (M0.out.below B6')
    have B6 := Lib.hid B6'
    clear hK4 ho4 hb4 g5 b5 o5 B5 o2 d2 r2 o6 g6 b6 B6' T0 M0 GV BV
    go_upto_region 4 with fail
    refine wp_region_plain [0,0,2,0] rfl (fun ops' K4 hK4 => ?_)
    repeat
      first
        | ((with_reducible refine z_move (a' := ?_) ?_ ?_); rotate_left; · (simp only [Act.put, List.setIfInBounds_toArray, List.set_cons_succ, List.set_cons_zero, Act.eval, Array.getD_eq_getD_getElem?, List.getElem?_toArray, List.getElem?_cons_succ, List.getElem?_cons_zero, Option.getD_some]; exact rfl))
        | ((with_reducible refine z_assign (a' := ?_) ?_ ?_); rotate_left; · (simp only [Act.put, List.setIfInBounds_toArray, List.set_cons_succ, List.set_cons_zero, Act.eval, Array.getD_eq_getD_getElem?, List.getElem?_toArray, List.getElem?_cons_succ, List.getElem?_cons_zero, Option.getD_some]; exact rfl))
        | ((with_reducible refine z_obl (v := ?_) (a' := ?_) rfl (fun _ => ?_) ?_ ?_); rotate_left; rotate_left; (focus (go_simp; (try go_bits); exact rfl)); (focus (simp only [Act.put, List.setIfInBounds_toArray, List.set_cons_succ, List.set_cons_zero, Act.eval, Array.getD_eq_getD_getElem?, List.getElem?_toArray, List.getElem?_cons_succ, List.getElem?_cons_zero, Option.getD_some]; exact rfl)))
        | ((with_reducible refine z_read (v := ?_) (a' := ?_) rfl ?_ ?_ ?_); rotate_left; rotate_left; (focus (go_simp; (try go_bits); exact rfl)); (focus (simp only [Act.put, List.setIfInBounds_toArray, List.set_cons_succ, List.set_cons_zero, Act.eval, Array.getD_eq_getD_getElem?, List.getElem?_toArray, List.getElem?_cons_succ, List.getElem?_cons_zero, Option.getD_some]; exact rfl)))
    refine z_append8 O6.out M6.out rfl rfl Tryz.underlying23 info8 (by rw [List.length_append, hLBl]; omega) B6.out.size (fun w7 v7 o7 g7 b7 => ?_)
    simp only [Act.put, List.setIfInBounds_toArray, List.set_cons_succ, List.set_cons_zero]
    repeat
      first
        | ((with_reducible refine z_move (a' := ?_) ?_ ?_); rotate_left; · (simp only [Act.put, List.setIfInBounds_toArray, List.set_cons_succ, List.set_cons_zero, Act.eval, Array.getD_eq_getD_getElem?, List.getElem?_toArray, List.getElem?_cons_succ, List.getElem?_cons_zero, Option.getD_some]; exact rfl))
        | ((with_reducible refine z_assign (a' := ?_) ?_ ?_); rotate_left; · (simp only [Act.put, List.setIfInBounds_toArray, List.set_cons_succ, List.set_cons_zero, Act.eval, Array.getD_eq_getD_getElem?, List.getElem?_toArray, List.getElem?_cons_succ, List.getElem?_cons_zero, Option.getD_some]; exact rfl))
        | ((with_reducible refine z_obl (v := ?_) (a' := ?_) rfl (fun _ => ?_) ?_ ?_); rotate_left; rotate_left; (focus (go_simp; (try go_bits); exact rfl)); (focus (simp only [Act.put, List.setIfInBounds_toArray, List.set_cons_succ, List.set_cons_zero, Act.eval, Array.getD_eq_getD_getElem?, List.getElem?_toArray, List.getElem?_cons_succ, List.getElem?_cons_zero, Option.getD_some]; exact rfl)))
        | ((with_reducible refine z_read (v := ?_) (a' := ?_) rfl ?_ ?_ ?_); rotate_left; rotate_left; (focus (go_simp; (try go_bits); exact rfl)); (focus (simp only [Act.put, List.setIfInBounds_toArray, List.set_cons_succ, List.set_cons_zero, Act.eval, Array.getD_eq_getD_getElem?, List.getElem?_toArray, List.getElem?_cons_succ, List.getElem?_cons_zero, Option.getD_some]; exact rfl)))
    refine z_nil (hK4 _ _ ?_)
    have O7 := Lib.hid o7
    have B7 := Lib.hid (B6.out.trans b7)
    clear o7 g7 b7 hK4
    go_wp2
    go_ret
    exact ⟨_, rfl, O7.out, B7.out⟩
  · obtain rfl : wh = false := by rw [hwh]; simp [hm16]
    have q2 : ((m : Int) % 16 == 0) = false := by simp; omega
    have hlast : lastB M = padL (M ++ [1#8]) 16 := by rw [lastB, hMl, if_neg hm16]
    rw [hlast]
    obtain ⟨LM, hLM⟩ : ∃ L, L = padL (M ++ [1#8]) 16 := ⟨_, rfl⟩
    have hLMl : LM.length ≤ 20000 := by rw [hLM, padL_length, List.length_append, hMl]; have : roomN (m + 1) 16 ≤ 15 := by { unfold roomN; omega }; simp; omega
    rw [← hLM]
    have HLM := Lib.hid hLM
    clear hlast hwh hm16 hLM
    go_enter Tryz.func73, Tryz.ntmps73
    go_wp2_with fail
    refine (RL.out w).mono ?_
    rintro e w1 ⟨rfl, d1⟩
    obtain ⟨V, hV⟩ : ∃ V, V = w1.alloc (.cells (A8 LB) 37) := ⟨_, rfl⟩
    have E1 : Below w.heap.size w V := by rw [hV]; exact d1.alloc d1.size _
    have GV0 := Blk.new w1 37 (A8 LB)
    rw [← hV] at GV0
    have rl8 := GV0.rd8 16 (by rw [hLBl]; exact Nat.le_refl _) (by rw [hLBl]; unfold maxLen; omega)
    rw [List.take_of_length_le (by omega)] at rl8
    rw [hLBl] at rl8
    have GV := Lib.hid rl8
    have hVg := Lib.hid hV
    have BV := Lib.hid E1
    clear d1 E1 GV0 rl8 hV RL
    go_upto_region 2 with fail
    rw [← hVg.out]
    clear hVg
    generalize w1.heap.size = g at *
    refine wp_region_plain [2,0,2,0,2,2,0] rfl (fun ops' K4 hK4 => ?_)
    refine z_build0 (B := w.heap.size) BV.out.size Tryz.underlying23 info8 (fun w4 v4 ho4 hb4 => ?_)
    simp only [Act.put, List.setIfInBounds_toArray, List.set_cons_succ, List.set_cons_zero]
    repeat
      first
        | ((with_reducible refine z_move (a' := ?_) ?_ ?_); rotate_left; · (simp only [Act.put, List.setIfInBounds_toArray, List.set_cons_succ, List.set_cons_zero, Act.eval, Array.getD_eq_getD_getElem?, List.getElem?_toArray, List.getElem?_cons_succ, List.getElem?_cons_zero, Option.getD_some]; exact rfl))
        | ((with_reducible refine z_assign (a' := ?_) ?_ ?_); rotate_left; · (simp only [Act.put, List.setIfInBounds_toArray, List.set_cons_succ, List.set_cons_zero, Act.eval, Array.getD_eq_getD_getElem?, List.getElem?_toArray, List.getElem?_cons_succ, List.getElem?_cons_zero, Option.getD_some]; exact rfl))
        | ((with_reducible refine z_obl (v := ?_) (a' := ?_) rfl (fun _ => ?_) ?_ ?_); rotate_left; rotate_left; (focus (go_simp; (try go_bits); exact rfl)); (focus (simp only [Act.put, List.setIfInBounds_toArray, List.set_cons_succ, List.set_cons_zero, Act.eval, Array.getD_eq_getD_getElem?, List.getElem?_toArray, List.getElem?_cons_succ, List.getElem?_cons_zero, Option.getD_some]; exact rfl)))
        | ((with_reducible refine z_read (v := ?_) (a' := ?_) rfl ?_ ?_ ?_); rotate_left; rotate_left; (focus (go_simp; (try go_bits); exact rfl)); (focus (simp only [Act.put, List.setIfInBounds_toArray, List.set_cons_succ, List.set_cons_zero, Act.eval, Array.getD_eq_getD_getElem?, List.getElem?_toArray, List.getElem?_cons_succ, List.getElem?_cons_zero, Option.getD_some]; exact rfl)))
    refine z_append8 ho4 (GV.out.below hb4) rfl rfl Tryz.underlying23 info8 (by simp) (Nat.le_trans BV.out.size hb4.size) (fun w5 v5 o5 g5 b5 => ?_)
    simp only [Act.put, List.setIfInBounds_toArray, List.set_cons_succ, List.set_cons_zero]
    rw [List.nil_append] at o5
    have B5 := (BV.out.trans (hb4.mono BV.out.size)).trans b5
    repeat
      first
        | ((with_reducible refine z_move (a' := ?_) ?_ ?_); rotate_left; · (simp only [Act.put, List.setIfInBounds_toArray, List.set_cons_succ, List.set_cons_zero, Act.eval, Array.getD_eq_getD_getElem?, List.getElem?_toArray, List.getElem?_cons_succ, List.getElem?_cons_zero, Option.getD_some]; exact rfl))
        | ((with_reducible refine z_assign (a' := ?_) ?_ ?_); rotate_left; · (simp only [Act.put, List.setIfInBounds_toArray, List.set_cons_succ, List.set_cons_zero, Act.eval, Array.getD_eq_getD_getElem?, List.getElem?_toArray, List.getElem?_cons_succ, List.getElem?_cons_zero, Option.getD_some]; exact rfl))
        | ((with_reducible refine z_obl (v := ?_) (a' := ?_) rfl (fun _ => ?_) ?_ ?_); rotate_left; rotate_left; (focus (go_simp; (try go_bits); exact rfl)); (focus (simp only [Act.put, List.setIfInBounds_toArray, List.set_cons_succ, List.set_cons_zero, Act.eval, Array.getD_eq_getD_getElem?, List.getElem?_toArray, List.getElem?_cons_succ, List.getElem?_cons_zero, Option.getD_some]; exact rfl)))
        | ((with_reducible refine z_read (v := ?_) (a' := ?_) rfl ?_ ?_ ?_); rotate_left; rotate_left; (focus (go_simp; (try go_bits); exact rfl)); (focus (simp only [Act.put, List.setIfInBounds_toArray, List.set_cons_succ, List.set_cons_zero, Act.eval, Array.getD_eq_getD_getElem?, List.getElem?_toArray, List.getElem?_cons_succ, List.getElem?_cons_zero, Option.getD_some]; exact rfl)))
    (with_reducible refine z_callw rfl ?_)
    go_simp
    refine entersW_of ?_
    refine (refPadded_any T a n c w5 (T0.out.below B5) (by omega)).mono ?_
    rintro e w2 ⟨v2, rfl, o2, d2⟩
    refine ⟨_, rfl, ?_⟩
    try simp only [Act.put, List.setIfInBounds_toArray, List.set_cons_succ, List.set_cons_zero]
    obtain ⟨a2, c2, rfl, r2, _⟩ := o2.rd
    refine z_append8 (o5.below d2) r2 rfl rfl Tryz.underlying23 info8 (by rw [hLBl]; omega) (Nat.le_trans B5.size d2.size) (fun w6 v6 o6 g6 b6 => ?_)
    simp only [Act.put, List.setIfInBounds_toArray, List.set_cons_succ, List.set_cons_zero]
    repeat
      first
        | ((with_reducible refine z_move (a' := ?_) ?_ ?_); rotate_left; · (simp only [Act.put, List.setIfInBounds_toArray, List.set_cons_succ, List.set_cons_zero, Act.eval, Array.getD_eq_getD_getElem?, List.getElem?_toArray, List.getElem?_cons_succ, List.getElem?_cons_zero, Option.getD_some]; exact rfl))
        | ((with_reducible refine z_assign (a' := ?_) ?_ ?_); rotate_left; · (simp only [Act.put, List.setIfInBounds_toArray, List.set_cons_succ, List.set_cons_zero, Act.eval, Array.getD_eq_getD_getElem?, List.getElem?_toArray, List.getElem?_cons_succ, List.getElem?_cons_zero, Option.getD_some]; exact rfl))
        | ((with_reducible refine z_obl (v := ?_) (a' := ?_) rfl (fun _ => ?_) ?_ ?_); rotate_left; rotate_left; (focus (go_simp; (try go_bits); exact rfl)); (focus (simp only [Act.put, List.setIfInBounds_toArray, List.set_cons_succ, List.set_cons_zero, Act.eval, Array.getD_eq_getD_getElem?, List.getElem?_toArray, List.getElem?_cons_succ, List.getElem?_cons_zero, Option.getD_some]; exact rfl)))
        | ((with_reducible refine z_read (v := ?_) (a' := ?_) rfl ?_ ?_ ?_); rotate_left; rotate_left; (focus (go_simp; (try go_bits); exact rfl)); (focus (simp only [Act.put, List.setIfInBounds_toArray, List.set_cons_succ, List.set_cons_zero, Act.eval, Array.getD_eq_getD_getElem?, List.getElem?_toArray, List.getElem?_cons_succ, List.getElem?_cons_zero, Option.getD_some]; exact rfl)))
    refine z_nil (hK4 _ _ ?_)
    have O6 := Lib.hid o6
    have B6' := (B5.trans (d2.mono B5.size)).trans b6
    have M6 := Lib.hid (M0.out.below B6')
    have B6 := Lib.hid B6'
    clear hK4 ho4 hb4 g5 b5 o5 B5 o2 d2 r2 o6 g6 b6 B6' T0 M0 GV BV
    go_upto_region 5 with fail
    refine wp_region_plain [0,0,2,2,0] rfl (fun ops' K4 hK4 => ?_)
    repeat
      first
        | ((with_reducible refine z_move (a' := ?_) ?_ ?_); rotate_left; · (simp only [Act.put, List.setIfInBounds_toArray, List.set_cons_succ, List.set_cons_zero, Act.eval, Array.getD_eq_getD_getElem?, List.getElem?_toArray, List.getElem?_cons_succ, List.getElem?_cons_zero, Option.getD_some]; exact rfl))
        | ((with_reducible refine z_assign (a' := ?_) ?_ ?_); rotate_left; · (simp only [Act.put, List.setIfInBounds_toArray, List.set_cons_succ, List.set_cons_zero, Act.eval, Array.getD_eq_getD_getElem?, List.getElem?_toArray, List.getElem?_cons_succ, List.getElem?_cons_zero, Option.getD_some]; exact rfl))
        | ((with_reducible refine z_obl (v := ?_) (a' := ?_) rfl (fun _ => ?_) ?_ ?_); rotate_left; rotate_left; (focus (go_simp; (try go_bits); exact rfl)); (focus (simp only [Act.put, List.setIfInBounds_toArray, List.set_cons_succ, List.set_cons_zero, Act.eval, Array.getD_eq_getD_getElem?, List.getElem?_toArray, List.getElem?_cons_succ, List.getElem?_cons_zero, Option.getD_some]; exact rfl)))
        | ((with_reducible refine z_read (v := ?_) (a' := ?_) rfl ?_ ?_ ?_); rotate_left; rotate_left; (focus (go_simp; (try go_bits); exact rfl)); (focus (simp only [Act.put, List.setIfInBounds_toArray, List.set_cons_succ, List.set_cons_zero, Act.eval, Array.getD_eq_getD_getElem?, List.getElem?_toArray, List.getElem?_cons_succ, List.getElem?_cons_zero, Option.getD_some]; exact rfl)))
    (with_reducible refine z_callw rfl ?_)
    go_simp
    refine entersW_of ?_
    refine (refMarked_any M b m d w6 M6.out (by omega)).mono ?_
    rintro e w7 ⟨v7, rfl, o7, d7⟩
    refine ⟨_, rfl, ?_⟩
    try simp only [Act.put, List.setIfInBounds_toArray, List.set_cons_succ, List.set_cons_zero]
    rw [← HLM.out] at o7
    obtain ⟨a7, c7, rfl, r7, _⟩ := o7.rd
    refine z_append8 (O6.out.below d7) r7 rfl rfl Tryz.underlying23 info8 (by rw [List.length_append, hLBl]; omega) (Nat.le_trans B6.out.size d7.size) (fun w8 v8_ o8 g8 b8 => ?_)
    simp only [Act.put, List.setIfInBounds_toArray, List.set_cons_succ, List.set_cons_zero]
    repeat
      first
        | ((with_reducible refine z_move (a' := ?_) ?_ ?_); rotate_left; · (simp only [Act.put, List.setIfInBounds_toArray, List.set_cons_succ, List.set_cons_zero, Act.eval, Array.getD_eq_getD_getElem?, List.getElem?_toArray, List.getElem?_cons_succ, List.getElem?_cons_zero, Option.getD_some]; exact rfl))
        | ((with_reducible refine z_assign (a' := ?_) ?_ ?_); rotate_left; · (simp only [Act.put, List.setIfInBounds_toArray, List.set_cons_succ, List.set_cons_zero, Act.eval, Array.getD_eq_getD_getElem?, List.getElem?_toArray, List.getElem?_cons_succ, List.getElem?_cons_zero, Option.getD_some]; exact rfl))
        | ((with_reducible refine z_obl (v := ?_) (a' := ?_) rfl (fun _ => ?_) ?_ ?_); rotate_left; rotate_left; (focus (go_simp; (try go_bits); exact rfl)); (focus (simp only [Act.put, List.setIfInBounds_toArray, List.set_cons_succ, List.set_cons_zero, Act.eval, Array.getD_eq_getD_getElem?, List.getElem?_toArray, List.getElem?_cons_succ, List.getElem?_cons_zero, Option.getD_some]; exact rfl)))
        | ((with_reducible refine z_read (v := ?_) (a' := ?_) rfl ?_ ?_ ?_); rotate_left; rotate_left; (focus (go_simp; (try go_bits); exact rfl)); (focus (simp only [Act.put, List.setIfInBounds_toArray, List.set_cons_succ, List.set_cons_zero, Act.eval, Array.getD_eq_getD_getElem?, List.getElem?_toArray, List.getElem?_cons_succ, List.getElem?_cons_zero, Option.getD_some]; exact rfl)))
    refine z_nil (hK4 _ _ ?_)
    have O8 := Lib.hid o8
    have B8 := Lib.hid ((B6.out.trans (d7.mono B6.out.size)).trans b8)
    clear o7 r7 d7 o8 g8 b8 hK4
    go_wp2
    go_ret
    exact ⟨_, rfl, O8.out, B8.out⟩
set_option linter.unusedSimpArgs false in
set_option maxRecDepth 100000 in
set_option maxHeartbeats 800000 in
theorem refHash_any (h T M : List (BitVec 8)) (a b : Option Addr) (n c m d : Nat) (w : World) (hh : h.length = 16) (hT : Rd8 w a n c T) (hM : Rd8 w b m d M) (hn : n ≤ 300) (hm : m ≤ 10000) :
    Calls Tryz.prog 35 #[.agg (A8 h), .slice a n c, .slice b m d] w fun e w' => e = .returned (.agg (A8 (hashB h T M))) ∧ Below w.heap.size w w' := by
  obtain ⟨W, hW⟩ : ∃ W, (w.alloc (.cells (A8 h) 37)).alloc (.cells (A8 (zeros 8 16)) 37) = W := ⟨_, rfl⟩
  obtain ⟨b0, b1, hb, hz⟩ := new2 _ _ _ _ _ _ hW
  have P0 := Lib.hid b0
  have Z0 := Lib.hid b1
  have T0 := Lib.hid (hT.below hb)
  have M0 := Lib.hid (hM.below hb)
  have B0 := Lib.hid hb
  have hel := encB_length T M
  rw [hT.1, hM.1] at hel
  obtain ⟨F, hF⟩ : ∃ F, F = hashB h T M := ⟨_, rfl⟩
  have hFl : F.length = 16 := by rw [hF]; exact hashB_length _ _ _
  rw [← hF]
  have HF := Lib.hid hF
  clear b0 b1 hb hz hT hM hF
  go_enter Tryz.func35, Tryz.ntmps35
  go_upto_region 1 with fail
  clear hW
  refine wp_region_tail [5,0,0,2,2,3] (by kernel_rfl) (by kernel_rfl) (fun C0 hC0 hCb K' hK' => ?_)
  have Q1 : ∀ w1, C0 w1 → rowAt w1 w.heap.size = A8 h := fun w1 hw => (P0.out.drew.belowAll (hCb w1 hw)).row
  repeat
    first
      | ((with_reducible refine h_pure (v := ?_) (a' := ?_) ?_ (fun _ => ?_) ?_ ?_); rotate_left; rotate_left; (focus (exact rfl)); (focus (go_simp; (try go_bits); exact rfl)); (focus (simp only [Act.put, List.setIfInBounds_toArray, List.set_cons_succ, List.set_cons_zero, Act.eval, Array.getD_eq_getD_getElem?, List.getElem?_toArray, List.getElem?_cons_succ, List.getElem?_cons_zero, Option.getD_some]; exact rfl)))
      | ((with_reducible refine h_obl (v := ?_) (a' := ?_) ?_ (fun _ hcw => ?_) ?_ ?_); rotate_left; rotate_left; (focus (exact rfl)); (focus (have f1 := Q1 _ hcw; go_simp; (try go_bits); exact rfl)); (focus (simp only [Act.put, List.setIfInBounds_toArray, List.set_cons_succ, List.set_cons_zero, Act.eval, Array.getD_eq_getD_getElem?, List.getElem?_toArray, List.getElem?_cons_succ, List.getElem?_cons_zero, Option.getD_some]; exact rfl)))
      | ((with_reducible refine h_read (v := ?_) (a' := ?_) ?_ (fun _ hbw => ?_) ?_ ?_); rotate_left; rotate_left; (focus (exact rfl)); (focus (skip; go_simp; (try go_bits); exact rfl)); (focus (simp only [Act.put, List.setIfInBounds_toArray, List.set_cons_succ, List.set_cons_zero, Act.eval, Array.getD_eq_getD_getElem?, List.getElem?_toArray, List.getElem?_cons_succ, List.getElem?_cons_zero, Option.getD_some]; exact rfl)))
  (with_reducible refine h_call ?_ ?_)
  · exact rfl
  go_simp
  refine entersW_of ?_
  refine (refEncode_any T M a b n c m d W.drew T0.out.drew M0.out.drew hn hm).mono ?_
  rintro e w3 ⟨v3, rfl, o3, d3⟩
  refine ⟨_, rfl, d3, ?_⟩
  try simp only [Act.put, List.setIfInBounds_toArray, List.set_cons_succ, List.set_cons_zero]
  obtain ⟨a3, c3, rfl, r3, _⟩ := o3.rd
  (with_reducible refine h_call ?_ ?_)
  · exact rfl
  go_simp
  refine entersW_of ?_
  refine (refSum_any h (encB T M) a3 (encB T M).length c3 w3 hh r3 (by omega)).mono ?_
  rintro e w4 ⟨rfl, d4⟩
  refine ⟨_, rfl, d4, ?_⟩
  try simp only [Act.put, List.setIfInBounds_toArray, List.set_cons_succ, List.set_cons_zero]
  rw [show valSum h (encB T M) = F from HF.out.symm]
  have D4 := d3.trans (d4.mono d3.size)
  refine h_tail [2] rfl (by simp) ?_
  refine z_storeRow (Z0.out.drew.belowAll D4) rfl rfl (by rw [A8_size, A8_size, hFl, zeros_length]) (A8_ones _) (by rw [A8_size, hFl]; exact Tryz.sizeOf37 _) (fun w5 k5 g5 s5 => ?_)
  refine z_nil (hK' _ _ ?_)
  have B5 := Lib.hid ((B0.out.drew.trans (D4.mono B0.out.size)).grown g5 (Nat.le_trans B0.out.size D4.size) (fun k hk => by cases hk; omega))
  have r5 := k5.row
  clear Q1 hC0 hCb hK' d3 d4 D4 o3 r3 g5 s5
  go_wp2
  refine bodyPost_row (A8 F) rfl rfl rfl (Tryz.isAgg37 _) (Tryz.sizeOf37 _) (by rw [A8_size]; exact hFl) r5 ⟨rfl, B5.out⟩
end Go.Proofs.YtfdkmjegcghieaaGreatDoor
