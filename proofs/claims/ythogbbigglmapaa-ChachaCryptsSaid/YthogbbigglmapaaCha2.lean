/- chacha: slanted -/
import Derived.Test.YthogbbigglmapaaOct3
import Derived.Test.YthogbbigglmapaaCha1
import Derived.Test.YthogbbigglmapaaText
namespace Go.Proofs.Ythogbbigglmapaa
open Go.RowKit
/-- a state, four of its numbers turned by a quarter -/
def qround (s : List (BitVec 32)) (i j k l : Nat) : List (BitVec 32) :=
  let q := quarter (nth s i) (nth s j) (nth s k) (nth s l)
  (((s.set i q.1).set j q.2.1).set k q.2.2.1).set l q.2.2.2
theorem qround_length (s : List (BitVec 32)) (i j k l : Nat) : (qround s i j k l).length = s.length := by simp [qround]
/-- all four quarters, slanted by so many places -/
def slantTo (s : List (BitVec 32)) (b : Nat) : Nat → List (BitVec 32)
  | 0 => s
  | i + 1 => qround (slantTo s b i) i (4 + (i + b) % 4) (8 + (i + 2 * b) % 4) (12 + (i + 3 * b) % 4)
theorem slantTo_length (s : List (BitVec 32)) (b i : Nat) : (slantTo s b i).length = s.length := by
  induction i with
  | zero => rfl
  | succ i ih => rw [slantTo, qround_length, ih]
set_option linter.unusedSimpArgs false in
set_option maxRecDepth 100000 in
theorem slant_any (s : List (BitVec 32)) (g b : Nat) (w : World) (hs : s.length = 16) (hb : Blk w g 39 (A32 s)) (hb1 : b ≤ 1) :
    Calls Try.prog 60 #[.pointer (some ⟨g, 0, none⟩), .int .i64 b] w fun e w' => e = .returned (.tuple #[]) ∧ w.grownBy w' (some g) ∧ Blk w' g 39 (A32 (slantTo s b 4)) := by
  have Hb := Lib.hid hb
  clear hb
  go_enter Try.func60, Try.ntmps60
  go_wp2
  go_loopw [8] (fun i wr => ∃ j : Nat, j ≤ 4 ∧ i = .int .i64 j ∧ Blk wr g 39 (A32 (slantTo s b j)) ∧ w.grownBy wr (some g)) (fun i _ => 4 - (intOf i).toNat)
  case atStart => exact ⟨0, Nat.zero_le _, rfl, Hb.out, grown_refl _ _⟩
  case round =>
    obtain ⟨i, hi, rfl, hblk, hgr⟩ := hrel
    have Hg := Lib.hid hgr
    have Hk := Lib.hid hblk
    clear hgr hblk
    by_cases hi4 : i < 4
    · go_wp2_with fail
      obtain ⟨j, hj⟩ : ∃ j : Nat, j = 4 + (i + b) % 4 := ⟨_, rfl⟩
      obtain ⟨k, hk⟩ : ∃ k : Nat, k = 8 + (i + 2 * b) % 4 := ⟨_, rfl⟩
      obtain ⟨m, hm⟩ : ∃ m : Nat, m = 12 + (i + 3 * b) % 4 := ⟨_, rfl⟩
      rw [show (4 + ((i : Int) + (b : Int)) % 4) = (j : Int) by omega, show (8 + ((i : Int) + 2 * (b : Int)) % 4) = (k : Int) by omega, show (12 + ((i : Int) + 3 * (b : Int)) % 4) = (m : Int) by omega]
      have Hj := Lib.hid hj
      have Hkk := Lib.hid hk
      have Hm := Lib.hid hm
      have bj : j < 16 := by omega
      have bk : k < 16 := by omega
      have bm : m < 16 := by omega
      have bi : i < 16 := by omega
      have cj : (j : Int) < 16 := by omega
      have ck : (k : Int) < 16 := by omega
      have cm : (m : Int) < 16 := by omega
      have ci : (i : Int) < 16 := by omega
      have n1 : (0 : Int) ≤ j := by omega
      have n2 : (0 : Int) ≤ k := by omega
      have n3 : (0 : Int) ≤ m := by omega
      have n4 : (0 : Int) ≤ i := by omega
      clear hj hk hm
      have hl : (slantTo s b i).length = 16 := by rw [slantTo_length, hs]
      have hblk := Hk.out
      have hc := hblk.cell32 hl
      have HL := Lib.hid hl
      have Hblk := Lib.hid hblk
      clear hl hblk Hk
      refine wp_region_text' [0,0,0,0,0,0,0,0, 0,0,0,0,1, 0,0,0,0,1, 0,0,0,0,1, 0,0,0,0,1, 3,0,0,0,0,0, 0,0,2, 0,0,2, 0,0,2, 0,0,2] (by kernel_rfl) (by kernel_rfl) (fun ops' K' hK' => ?_)
      repeat
        first
          | ((with_reducible refine z_move (a' := ?_) ?_ ?_); rotate_left; · (simp only [Act.put, List.setIfInBounds_toArray, List.set_cons_succ, List.set_cons_zero, Act.eval, Array.getD_eq_getD_getElem?, List.getElem?_toArray, List.getElem?_cons_succ, List.getElem?_cons_zero, Option.getD_some]; exact rfl))
          | ((with_reducible refine z_assign (a' := ?_) ?_ ?_); rotate_left; · (simp only [Act.put, List.setIfInBounds_toArray, List.set_cons_succ, List.set_cons_zero, Act.eval, Array.getD_eq_getD_getElem?, List.getElem?_toArray, List.getElem?_cons_succ, List.getElem?_cons_zero, Option.getD_some]; exact rfl))
          | ((with_reducible refine z_obl (v := ?_) (a' := ?_) rfl (fun _ => ?_) ?_ ?_); rotate_left; rotate_left; (focus (go_simp; (try go_bits); exact rfl)); (focus (simp only [Act.put, List.setIfInBounds_toArray, List.set_cons_succ, List.set_cons_zero, Act.eval, Array.getD_eq_getD_getElem?, List.getElem?_toArray, List.getElem?_cons_succ, List.getElem?_cons_zero, Option.getD_some]; exact rfl)))
          | ((with_reducible refine z_read (v := ?_) (a' := ?_) rfl ?_ ?_ ?_); rotate_left; rotate_left; (focus (go_simp; (try go_bits); exact rfl)); (focus (simp only [Act.put, List.setIfInBounds_toArray, List.set_cons_succ, List.set_cons_zero, Act.eval, Array.getD_eq_getD_getElem?, List.getElem?_toArray, List.getElem?_cons_succ, List.getElem?_cons_zero, Option.getD_some]; exact rfl)))
      ((with_reducible refine z_call (v := ?_) (a' := ?_) rfl (fun _ => ?_) ?_ ?_); rotate_left; rotate_left)
      · go_simp
        refine enters_of ?_
        exact quarter_any _ _ _ _ _
      · (simp only [Act.put, List.setIfInBounds_toArray, List.set_cons_succ, List.set_cons_zero, Act.eval, Array.getD_eq_getD_getElem?, List.getElem?_toArray, List.getElem?_cons_succ, List.getElem?_cons_zero, Option.getD_some]; exact rfl)
      clear hc
      repeat
        first
          | ((with_reducible refine z_move (a' := ?_) ?_ ?_); rotate_left; · (simp only [Act.put, List.setIfInBounds_toArray, List.set_cons_succ, List.set_cons_zero, Act.eval, Array.getD_eq_getD_getElem?, List.getElem?_toArray, List.getElem?_cons_succ, List.getElem?_cons_zero, Option.getD_some]; exact rfl))
          | ((with_reducible refine z_assign (a' := ?_) ?_ ?_); rotate_left; · (simp only [Act.put, List.setIfInBounds_toArray, List.set_cons_succ, List.set_cons_zero, Act.eval, Array.getD_eq_getD_getElem?, List.getElem?_toArray, List.getElem?_cons_succ, List.getElem?_cons_zero, Option.getD_some]; exact rfl))
          | ((with_reducible refine z_obl (v := ?_) (a' := ?_) rfl (fun _ => ?_) ?_ ?_); rotate_left; rotate_left; (focus (go_simp; (try go_bits); exact rfl)); (focus (simp only [Act.put, List.setIfInBounds_toArray, List.set_cons_succ, List.set_cons_zero, Act.eval, Array.getD_eq_getD_getElem?, List.getElem?_toArray, List.getElem?_cons_succ, List.getElem?_cons_zero, Option.getD_some]; exact rfl)))
          | ((with_reducible refine z_read (v := ?_) (a' := ?_) rfl ?_ ?_ ?_); rotate_left; rotate_left; (focus (go_simp; (try go_bits); exact rfl)); (focus (simp only [Act.put, List.setIfInBounds_toArray, List.set_cons_succ, List.set_cons_zero, Act.eval, Array.getD_eq_getD_getElem?, List.getElem?_toArray, List.getElem?_cons_succ, List.getElem?_cons_zero, Option.getD_some]; exact rfl)))
      refine z_store32 Hblk.out.drew rfl rfl (by rw [HL.out]; omega) (Try.sizeOf37 _) (fun w1 hb1 hg1 _ => ?_)
      have Hb1 := Lib.hid hb1
      have Hg1 := Lib.hid hg1
      clear hb1 hg1
      repeat
        first
          | ((with_reducible refine z_move (a' := ?_) ?_ ?_); rotate_left; · (simp only [Act.put, List.setIfInBounds_toArray, List.set_cons_succ, List.set_cons_zero, Act.eval, Array.getD_eq_getD_getElem?, List.getElem?_toArray, List.getElem?_cons_succ, List.getElem?_cons_zero, Option.getD_some]; exact rfl))
          | ((with_reducible refine z_assign (a' := ?_) ?_ ?_); rotate_left; · (simp only [Act.put, List.setIfInBounds_toArray, List.set_cons_succ, List.set_cons_zero, Act.eval, Array.getD_eq_getD_getElem?, List.getElem?_toArray, List.getElem?_cons_succ, List.getElem?_cons_zero, Option.getD_some]; exact rfl))
          | ((with_reducible refine z_obl (v := ?_) (a' := ?_) rfl (fun _ => ?_) ?_ ?_); rotate_left; rotate_left; (focus (go_simp; (try go_bits); exact rfl)); (focus (simp only [Act.put, List.setIfInBounds_toArray, List.set_cons_succ, List.set_cons_zero, Act.eval, Array.getD_eq_getD_getElem?, List.getElem?_toArray, List.getElem?_cons_succ, List.getElem?_cons_zero, Option.getD_some]; exact rfl)))
          | ((with_reducible refine z_read (v := ?_) (a' := ?_) rfl ?_ ?_ ?_); rotate_left; rotate_left; (focus (go_simp; (try go_bits); exact rfl)); (focus (simp only [Act.put, List.setIfInBounds_toArray, List.set_cons_succ, List.set_cons_zero, Act.eval, Array.getD_eq_getD_getElem?, List.getElem?_toArray, List.getElem?_cons_succ, List.getElem?_cons_zero, Option.getD_some]; exact rfl)))
      refine z_store32 Hb1.out rfl rfl (by simp [HL.out]; omega) (Try.sizeOf37 _) (fun w2 hb2 hg2 _ => ?_)
      have Hb2 := Lib.hid hb2
      have Hg2 := Lib.hid hg2
      clear hb2 hg2
      repeat
        first
          | ((with_reducible refine z_move (a' := ?_) ?_ ?_); rotate_left; · (simp only [Act.put, List.setIfInBounds_toArray, List.set_cons_succ, List.set_cons_zero, Act.eval, Array.getD_eq_getD_getElem?, List.getElem?_toArray, List.getElem?_cons_succ, List.getElem?_cons_zero, Option.getD_some]; exact rfl))
          | ((with_reducible refine z_assign (a' := ?_) ?_ ?_); rotate_left; · (simp only [Act.put, List.setIfInBounds_toArray, List.set_cons_succ, List.set_cons_zero, Act.eval, Array.getD_eq_getD_getElem?, List.getElem?_toArray, List.getElem?_cons_succ, List.getElem?_cons_zero, Option.getD_some]; exact rfl))
          | ((with_reducible refine z_obl (v := ?_) (a' := ?_) rfl (fun _ => ?_) ?_ ?_); rotate_left; rotate_left; (focus (go_simp; (try go_bits); exact rfl)); (focus (simp only [Act.put, List.setIfInBounds_toArray, List.set_cons_succ, List.set_cons_zero, Act.eval, Array.getD_eq_getD_getElem?, List.getElem?_toArray, List.getElem?_cons_succ, List.getElem?_cons_zero, Option.getD_some]; exact rfl)))
          | ((with_reducible refine z_read (v := ?_) (a' := ?_) rfl ?_ ?_ ?_); rotate_left; rotate_left; (focus (go_simp; (try go_bits); exact rfl)); (focus (simp only [Act.put, List.setIfInBounds_toArray, List.set_cons_succ, List.set_cons_zero, Act.eval, Array.getD_eq_getD_getElem?, List.getElem?_toArray, List.getElem?_cons_succ, List.getElem?_cons_zero, Option.getD_some]; exact rfl)))
      refine z_store32 Hb2.out rfl rfl (by simp [HL.out]; omega) (Try.sizeOf37 _) (fun w3 hb3 hg3 _ => ?_)
      have Hb3 := Lib.hid hb3
      have Hg3 := Lib.hid hg3
      clear hb3 hg3
      repeat
        first
          | ((with_reducible refine z_move (a' := ?_) ?_ ?_); rotate_left; · (simp only [Act.put, List.setIfInBounds_toArray, List.set_cons_succ, List.set_cons_zero, Act.eval, Array.getD_eq_getD_getElem?, List.getElem?_toArray, List.getElem?_cons_succ, List.getElem?_cons_zero, Option.getD_some]; exact rfl))
          | ((with_reducible refine z_assign (a' := ?_) ?_ ?_); rotate_left; · (simp only [Act.put, List.setIfInBounds_toArray, List.set_cons_succ, List.set_cons_zero, Act.eval, Array.getD_eq_getD_getElem?, List.getElem?_toArray, List.getElem?_cons_succ, List.getElem?_cons_zero, Option.getD_some]; exact rfl))
          | ((with_reducible refine z_obl (v := ?_) (a' := ?_) rfl (fun _ => ?_) ?_ ?_); rotate_left; rotate_left; (focus (go_simp; (try go_bits); exact rfl)); (focus (simp only [Act.put, List.setIfInBounds_toArray, List.set_cons_succ, List.set_cons_zero, Act.eval, Array.getD_eq_getD_getElem?, List.getElem?_toArray, List.getElem?_cons_succ, List.getElem?_cons_zero, Option.getD_some]; exact rfl)))
          | ((with_reducible refine z_read (v := ?_) (a' := ?_) rfl ?_ ?_ ?_); rotate_left; rotate_left; (focus (go_simp; (try go_bits); exact rfl)); (focus (simp only [Act.put, List.setIfInBounds_toArray, List.set_cons_succ, List.set_cons_zero, Act.eval, Array.getD_eq_getD_getElem?, List.getElem?_toArray, List.getElem?_cons_succ, List.getElem?_cons_zero, Option.getD_some]; exact rfl)))
      refine z_store32 Hb3.out rfl rfl (by simp [HL.out]; omega) (Try.sizeOf37 _) (fun w4 hb4 hg4 _ => ?_)
      have Hb4 := Lib.hid hb4
      have Hg4 := Lib.hid hg4
      clear hb4 hg4
      refine z_nil (hK' _ _ ?_)
      go_wp2
      refine ⟨⟨i + 1, by omega, by go_num, ?_, grown_trans Hg.out (grown_trans (grown_trans (grown_trans (grown_trans (grown_drew (grown_refl _ _)) Hg1.out) Hg2.out) Hg3.out) Hg4.out)⟩, by simp [intOf]; omega⟩
      rw [slantTo, ← Hj.out, ← Hkk.out, ← Hm.out]
      exact Hb4.out
    · obtain rfl : i = 4 := by omega
      go_wp2
      go_end0
      exact ⟨rfl, Hg.out, Hk.out⟩
/-- a state behind so many times two rounds -/
def twice (s : List (BitVec 32)) : List (BitVec 32) := slantTo (slantTo s 0 4) 1 4
theorem twice_length (s : List (BitVec 32)) : (twice s).length = s.length := by rw [twice, slantTo_length, slantTo_length]
def mixTo (s : List (BitVec 32)) : Nat → List (BitVec 32)
  | 0 => s
  | n + 1 => twice (mixTo s n)
theorem mixTo_length (s : List (BitVec 32)) (n : Nat) : (mixTo s n).length = s.length := by
  induction n with
  | zero => rfl
  | succ n ih => rw [mixTo, twice_length, ih]
end Go.Proofs.Ythogbbigglmapaa
