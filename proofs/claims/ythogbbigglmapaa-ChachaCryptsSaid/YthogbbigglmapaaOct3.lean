/- octet.Block, octet.Xor -/
import Derived.Test.YthogbbigglmapaaOct2
import Derived.Test.YthogbbigglmapaaMem2
import Derived.StillTailTactics
namespace Go.Proofs.Ythogbbigglmapaa
open Go.RowKit
theorem info8 : (Try.prog.info? 5).map (fun i => (i.zero, i.size, i.bytes)) = some (some (.int .u8 0), 1, 1) := by kernel_rfl
theorem size8 : (Try.prog.info? 5).map (·.size) = some 1 := by kernel_rfl
theorem goInt_eq (n : Int) : goInt n = .int .i64 n := rfl
/-- sixteen bytes: the first ones of a row, noughts where there are none -/
def blk (l : List (BitVec 8)) : List (BitVec 8) := splc (zeros 8 16) 0 (l.take 16)
@[simp] theorem blk_length (l : List (BitVec 8)) : (blk l).length = 16 := by
  unfold blk; rw [splc_length _ _ _ (by simp; omega)]; simp
theorem block_any (l : List (BitVec 8)) (a : Option Addr) (n c : Nat) (w : World) (hr : Rd8 w a n c l) :
    Calls Try.prog 42 #[.slice a n c] w fun e w' => e = .returned (.agg (A8 (blk l))) ∧ Below w.heap.size w w' := by
  have hcp := run_copy8 (P := Try.prog) ((w.alloc (.cells (A8 (zeros 8 16)) 36)).alloc (.cells (A8 (zeros 8 16)) 36)) 22 22 3 5 (w.heap.size + 1) 0 16 16 a n c (zeros 8 16) l
    Try.underlying22 size8 (by simp [go_sem]) (by simp [go_sem]) ((hr.alloc _).alloc _) (by simp; omega)
  have e : l.take (min n 16) = l.take 16 := by rw [← hr.1, Nat.min_comm, ← List.take_take, List.take_of_length_le (Nat.le_refl _)]
  rw [e, goInt_eq] at hcp
  clear e
  change _ = Result.ok _ (World.setRow _ _ (A8 (blk l))) at hcp
  generalize (min (n : Int) ((16 : Nat) : Int)) = N at hcp
  go_enter Try.func42, Try.ntmps42
  go_wp2
  refine bodyPost_row (A8 (blk l)) rfl rfl rfl (Try.isAgg36 _) (Try.sizeOf36 _) (by simp [go_sem]) (by simp [go_sem]) ⟨rfl, ?_⟩
  repeat (first | exact Below.refl _ _ | assumption | refine Below.drew ?_ | refine Below.alloc ?_ ?_ _ | refine Below.setCell ?_ ?_ _ | refine below_setRow ?_ ?_ _ | refine Below.trans ?_ (Below.mono (by assumption) ?_))
  all_goals (first | (simp; done) | (simp; omega) | (simp at *; omega))
/-- the exclusive or of two rows, as long as the shorter one -/
def xorl (a b : List (BitVec 8)) : List (BitVec 8) := List.zipWith (· ^^^ ·) a b
theorem xorl_length (a b : List (BitVec 8)) : (xorl a b).length = min a.length b.length := by simp [xorl]
theorem nth_xorl (a b : List (BitVec 8)) (i : Nat) (h : i < min a.length b.length) : nth (xorl a b) i = nth a i ^^^ nth b i := by
  have h1 : i < a.length := by omega
  have h2 : i < b.length := by omega
  unfold nth xorl
  rw [List.getD_eq_getElem?_getD, List.getElem?_zipWith]
  simp [h1, h2]
/-- out so far: i bytes are done -/
def xorTo (a b : List (BitVec 8)) (i : Nat) : List (BitVec 8) := (xorl a b).take i ++ zeros 8 ((xorl a b).length - i)
theorem xorTo_length (a b : List (BitVec 8)) (i : Nat) (h : i ≤ min a.length b.length) : (xorTo a b i).length = min a.length b.length := by
  simp [xorTo, xorl_length]; omega
theorem xorTo_set (a b : List (BitVec 8)) (i : Nat) (h : i < min a.length b.length) : (xorTo a b i).set i (nth a i ^^^ nth b i) = xorTo a b (i + 1) := by
  have hl := xorl_length a b
  apply ext_nth
  · rw [List.length_set, xorTo_length a b i (by omega), xorTo_length a b (i + 1) (by omega)]
  · intro j hj
    rw [List.length_set, xorTo_length a b i (by omega)] at hj
    rw [nth_set _ _ _ _ (by rw [xorTo_length a b i (by omega)]; exact h)]
    unfold xorTo
    simp only [nth_append, List.length_take, nth_zeros]
    by_cases e : i = j
    · subst e
      rw [if_pos rfl, if_pos (by omega), nth_take _ _ _ (by omega), nth_xorl a b i h]
    · rw [if_neg e]
      by_cases h3 : j < i
      · rw [if_pos (by omega), if_pos (by omega), nth_take _ _ _ h3, nth_take _ _ _ (by omega)]
      · rw [if_neg (by omega), if_neg (by omega)]
theorem xorTo_zero (a b : List (BitVec 8)) : xorTo a b 0 = zeros 8 (min a.length b.length) := by simp [xorTo, xorl_length]
theorem xorTo_full (a b : List (BitVec 8)) : xorTo a b (min a.length b.length) = xorl a b := by
  simp [xorTo, ← xorl_length, zeros]
theorem xor_any (l m : List (BitVec 8)) (a b : Option Addr) (n c n' c' : Nat) (w : World) (hr : Rd8 w a n c l) (hs : Rd8 w b n' c' m) (hsz : min n n' ≤ 140737488355328) :
    Calls Try.prog 57 #[.slice a n c, .slice b n' c'] w fun e w' => ∃ v, e = .returned v ∧ Own8 w' w.heap.size 5 v (xorl l m) ∧ Below w.heap.size w w' := by
  have hl := hr.1
  have hl' := hs.1
  have hb1 := hr.2.2.1
  have hb2 := hs.2.2.1
  have hmk := run_make8 (P := Try.prog) w 22 5 (min n n' : Nat) (min n n' : Nat) Try.underlying22 info8 (by omega) (by omega) (by omega)
  rw [Int.toNat_natCast, ← hl, ← hl', ← xorTo_zero, hl, hl'] at hmk
  generalize hk : min n n' = k at hmk hsz
  have hki : min (n : Int) (n' : Int) = (k : Int) := by omega
  have Hk := Lib.hid hk; clear hk
  have Hl := Lib.hid hl; clear hl
  have Hl' := Lib.hid hl'; clear hl'
  go_enter Try.func57, Try.ntmps57
  go_wp2
  go_loopw [15] (fun i wr => ∃ j : Nat, j ≤ k ∧ i = .int .i64 j ∧ Blk wr w.heap.size 5 (A8 (xorTo l m j)) ∧ Below w.heap.size w wr) (fun i _ => k - (intOf i).toNat)
  case atStart => exact ⟨0, Nat.zero_le _, rfl, Blk.new _ _ _, (Below.refl _ _).alloc (Nat.le_refl _) _⟩
  case round =>
    obtain ⟨j, hj, rfl, hblk, hbel⟩ := hrel
    have hk := Hk.out
    have hl := Hl.out
    have hl' := Hl'.out
    by_cases hjk : j < k
    · obtain ⟨ba, oa, rfl, hba, hca⟩ := hr.2.2.2 (by omega)
      obtain ⟨bb, ob, rfl, hbb, hcb⟩ := hs.2.2.2 (by omega)
      have ca : wr.cell? ⟨ba, oa + j, none⟩ = some (v8 (nth l j)) := (hbel.cell hba).trans (hca j (by omega))
      have cb : wr.cell? ⟨bb, ob + j, none⟩ = some (v8 (nth m j)) := (hbel.cell hbb).trans (hcb j (by omega))
      have co : wr.cell? ⟨w.heap.size, j, none⟩ = some (v8 (nth (xorTo l m j) j)) := by rw [hblk.cell, A8_get _ _ (by rw [xorTo_length _ _ _ (by omega)]; omega)]
      have fo := hblk.frozen j
      have i0 : (0 : Int) ≤ (j : Int) := by omega
      have i1 : (j : Int) < (n : Int) := by omega
      have i2 : (j : Int) < (n' : Int) := by omega
      have i3 : (j : Int) < (k : Int) := by omega
      have e2 := hblk.set_ j (v8 (nth l j ^^^ nth m j))
      rw [A8_set, xorTo_set _ _ _ (by omega)] at e2
      have E2 := Lib.hid e2
      have E4 := Lib.hid hbel
      clear e2 hblk hbel hl hl' hk hca hcb hr hs hmk hki
      go_wp2
      go_region
      all_goals go_wp2
      exact ⟨⟨j + 1, by omega, by go_num, E2.out, (E4.out.setCell (Nat.le_refl _) _).drew⟩, by simp [intOf]; omega⟩
    · obtain rfl : j = k := by omega
      have hfull : xorTo l m j = xorl l m := by rw [← hk, ← hl, ← hl', xorTo_full]
      rw [hfull] at hblk
      have hxl : (xorl l m).length = j := by rw [xorl_length, hl, hl', hk]
      have hown := Own8.blk (B := w.heap.size) hblk j (Nat.le_refl _) (by omega) (by unfold maxLen; omega)
      rw [List.take_of_length_le (by omega), hxl] at hown
      have E := Lib.hid hown
      have E4 := Lib.hid hbel
      clear hown hblk hbel hl hl' hk hr hs hmk hki hfull hxl
      go_wp2
      go_ret
      exact ⟨_, rfl, E.out, E4.out⟩
end Go.Proofs.Ythogbbigglmapaa
