/- chacha: what the chapter's example says (awake), and whether there may be so many rounds (Right). -/
import Derived.Test.YthogbbigglmapaaCha6
namespace Go.Proofs.Ythogbbigglmapaa
open Go.RowKit
@[go_sem high] theorem A8_getE (l : List (BitVec 8)) (i : Nat) (h : i < (A8 l).size) : (A8 l)[i]'h = v8 (nth l i) := by
  have h1 := A8_get l i (by rw [A8_size] at h; exact h)
  rw [Array.getElem?_eq_getElem h] at h1
  exact Option.some.inj h1
@[go_sem high] theorem A32_getE (l : List (BitVec 32)) (i : Nat) (h : i < (A32 l).size) : (A32 l)[i]'h = v32 (nth l i) := by
  have h1 := A32_get l i (by rw [A32_size] at h; exact h)
  rw [Array.getElem?_eq_getElem h] at h1
  exact Option.some.inj h1
@[go_sem high] theorem A64_getE (l : List (BitVec 64)) (i : Nat) (h : i < (A64 l).size) : (A64 l)[i]'h = v64 (nth l i) := by
  have h1 := A64_get l i (by rw [A64_size] at h; exact h)
  rw [Array.getElem?_eq_getElem h] at h1
  exact Option.some.inj h1
def upTo (n : Nat) : List (BitVec 8) := (List.range n).map (BitVec.ofNat 8)
theorem upTo_length (n : Nat) : (upTo n).length = n := by simp [upTo]
def wakeIn : List (BitVec 8) := [1, 0, 0, 0, 0, 0, 0, 9, 0, 0, 0, 74, 0, 0, 0, 0]
theorem wake_block : ((blockOf (startTo (upTo 32) wakeIn 4) 10).take 4) = [0x10, 0xf1, 0xe7, 0xe4] := by decide +kernel
theorem setUpTo (l : List (BitVec 8)) (j : Nat) (h : j < l.length) (hj : l.take j = upTo j) : (l.set j (BitVec.ofNat 8 j)).take (j + 1) = upTo (j + 1) := by
  rw [List.take_succ_eq_append_getElem (by simpa using h), List.take_set_of_le (by omega), hj]
  simp [upTo, List.range_succ]
theorem right_any (r : Int) (w : World) : Calls Try.prog 31 #[.int .i64 r] w fun e w' => e = .returned (.bool (decide (r = 8 ∨ r = 12 ∨ r = 20))) ∧ w = w' := by
  go_enter Try.func31, Try.ntmps31
  by_cases h8 : r = 8
  · subst h8; go_wp2; go_ret; exact ⟨rfl, rfl⟩
  · have d8 : decide (r = 8) = false := by simpa using h8
    by_cases h12 : r = 12
    · subst h12; go_wp2; go_ret; exact ⟨rfl, rfl⟩
    · have d12 : decide (r = 12) = false := by simpa using h12
      go_wp2
      simp only [h8, h12, false_or]
      go_ret
      refine ⟨?_, rfl⟩
      show Ending.returned (Value.bool (r == 8 || r == 12 || r == 20)) = _
      rw [beq_eq_false_iff_ne.2 h8, beq_eq_false_iff_ne.2 h12]
      rfl
set_option maxRecDepth 100000 in
theorem awake_any (w : World) : Calls Try.prog 27 #[] w fun e w' => e = .returned (.bool true) ∧ Below w.heap.size w w' := by
  go_enter Try.func27, Try.ntmps27
  go_wp2
  go_loopw [2] (fun i wr => ∃ (j : Nat) (l : List (BitVec 8)), j ≤ 32 ∧ i = .int .i64 j ∧ l.length = 32 ∧ l.take j = upTo j ∧ Blk wr w.heap.size 35 (A8 l) ∧ Below w.heap.size w wr) (fun i _ => 32 - (intOf i).toNat)
  case atStart =>
    exact ⟨0, zeros 8 32, Nat.zero_le _, rfl, by simp, rfl, Blk.new _ _ _, (Below.refl _ _).alloc (Nat.le_refl _) _⟩
  case round =>
    obtain ⟨j, l, hj, rfl, hl, htake, hb, hlow⟩ := hrel
    by_cases hj32 : j < 32
    · have j0 : (0 : Int) ≤ (j : Int) := by omega
      have j1 : (j : Int) < 32 := by omega
      have c1 := hb.cell8 hl j hj32
      have hf := hb.frozen j
      go_wp2_with fail
      have hb' := hb.set_ j (v8 (BitVec.ofNat 8 j))
      rw [A8_set] at hb'
      exact ⟨⟨j + 1, l.set j (BitVec.ofNat 8 j), by omega, by go_num, by simpa using hl, setUpTo l j (by omega) htake, hb', hlow.setCell (Nat.le_refl _) _⟩, by simp [intOf]; omega⟩
    · obtain rfl : j = 32 := by omega
      rw [List.take_of_length_le (by omega)] at htake
      subst htake
      have r1 := hb.row
      have r2 := hb.whole
      clear hb
      obtain ⟨B, hB⟩ : ∃ B, B = blockOf (startTo (upTo 32) wakeIn 4) 10 := ⟨_, rfl⟩
      have hBl : B.length = 64 := by rw [hB, blockOf_length _ _ (startTo_length _ _ _)]
      have hB4 : B.take 4 = [0x10, 0xf1, 0xe7, 0xe4] := by rw [hB]; exact wake_block
      have hc := blockC_yes (upTo 32) wakeIn 20 wr (upTo_length 32) rfl (by omega)
      rw [show ((20 : Int).toNat / 2) = 10 from rfl, ← hB] at hc
      have HB := Lib.hid hB
      clear hB
      go_wp2_with fail
      refine hc.mono ?_
      rintro e w1 ⟨rfl, hb1⟩
      have n0 : nth B 0 = 0x10 := by rw [← nth_take B 4 0 (by omega), hB4]; rfl
      have n1 : nth B 1 = 0xf1 := by rw [← nth_take B 4 1 (by omega), hB4]; rfl
      have n2 : nth B 2 = 0xe7 := by rw [← nth_take B 4 2 (by omega), hB4]; rfl
      have n3 : nth B 3 = 0xe4 := by rw [← nth_take B 4 3 (by omega), hB4]; rfl
      clear hB4 hc
      go_wp2
      go_ret
      exact ⟨rfl, (hlow.trans (hb1.mono hlow.size)).alloc (Nat.le_trans hlow.size hb1.size) _⟩
end Go.Proofs.Ythogbbigglmapaa
