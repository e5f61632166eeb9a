/- xctr: Block -/
import Derived.Test.YtfdkmjegcghieaaDoorAes6
import Derived.Test.YtfdkmjegcghieaaDoorXctrP
import Derived.Test.YtfdkmjegcghieaaDoorGk
namespace Go.Proofs.YtfdkmjegcghieaaDoor
open Go.RowKit
def xblock (L : List (BitVec 8)) (m : Nat) (s : List (BitVec 8)) (y : BitVec 64) : List (BitVec 8) := encS L m (xctS s y)
theorem xblock_length (L : List (BitVec 8)) (m : Nat) (s : List (BitVec 8)) (y : BitVec 64) : (xblock L m s y).length = 16 := encS_length _ _ _
@[go_sem ↓ high] theorem index_eight (l : List (BitVec 8)) (j : Nat) (w : World) (h : j < l.length) (hn : j < 8) : (Instr.index 113 (.agg (A8 l)) (.int .i64 j)).run Tryd.prog w = .ok (v8 (nth l j)) w :=
  index_arr8 (n := 8) (e := 5) (by kernel_rfl) (Tryd.isAgg5 _) (Tryd.sizeOf5 _) l j h hn
set_option linter.unusedSimpArgs false in
set_option maxRecDepth 100000 in
set_option maxHeartbeats 800000 in
theorem xblock_any (k p m : Nat) (L s : List (BitVec 8)) (y : BitVec 64) (w : World) (h : KeyAt w k p m L) (hs : s.length = 16) (hm : 3 ≤ m) (hm2 : m ≤ 100) :
    Calls Tryd.prog 59 #[.pointer (some ⟨k, 0, none⟩), .agg (A8 s), v64 y] w fun e w' => e = .returned (.agg (A8 (xblock L m s y))) ∧ Below w.heap.size w w' := by
  obtain ⟨W, hW⟩ : ∃ W, (w.alloc (.cells (A8 s) 40)).alloc (.cells (A8 (zeros 8 16)) 40) = W := ⟨_, rfl⟩
  obtain ⟨b0, b1, hb, hz⟩ := new2 _ _ _ _ _ _ hW
  have HH := Lib.hid h
  have P0 := Lib.hid b0
  have Z0 := Lib.hid b1
  have B0 := Lib.hid hb
  clear b0 b1 hb hz h
  go_enter Tryd.func59, Tryd.ntmps59
  go_wp2_with fail
  clear hW
  refine (putlong_any y _).mono ?_
  rintro e w1 ⟨rfl, d1⟩
  have P1 := Lib.hid (P0.out.belowAll d1)
  have Z1 := Lib.hid (Z0.out.belowAll d1)
  have B1 := Lib.hid (B0.out.trans (d1.mono B0.out.size))
  have hel := le64_length y
  obtain ⟨E, hE⟩ : ∃ E, E = le64 y := ⟨_, rfl⟩
  rw [← hE] at hel ⊢
  have HE := Lib.hid hE
  clear hE P0 Z0 B0 d1
  go_wp2_with fail
  go_loopw [11] (fun i wr => ∃ j : Nat, j ≤ 8 ∧ i = .int .i64 j ∧ Blk wr w.heap.size 40 (A8 (xrTo s E j)) ∧ Blk wr (w.heap.size + 1) 40 (A8 (zeros 8 16)) ∧ Below w.heap.size w wr) (fun i _ => 8 - (intOf i).toNat)
  case atStart => exact ⟨0, by omega, rfl, by rw [xrTo_zero s E hs]; exact P1.out, Z1.out, B1.out⟩
  case round =>
    obtain ⟨j, hj, rfl, hP, hZ, hB⟩ := hrel
    have P2 := Lib.hid hP
    have Z2 := Lib.hid hZ
    have B2 := Lib.hid hB
    clear hP hZ hB P1 Z1 B1
    by_cases hj8 : j < 8
    · have j1 : (j : Int) < 8 := by omega
      have j0 : (0 : Int) ≤ (j : Int) := by omega
      have j2 : (j : Int) < 16 := by omega
      have jl : j < E.length := by omega
      have c1 := P2.out.cell8 (xrTo_length s E j) j (by omega)
      rw [nth_xrTo s E j (by omega)] at c1
      have fo := P2.out.frozen j
      have kk := P2.out.set_ j (v8 (nth s j ^^^ nth E j))
      rw [A8_set, xrTo_set s E j (by omega)] at kk
      have P3 := Lib.hid kk
      have Z3 := Lib.hid (Z2.out.far (p := ⟨w.heap.size, j, none⟩) (by simp) (v8 (nth s j ^^^ nth E j)))
      have B3 := Lib.hid (B2.out.setCell (p := ⟨w.heap.size, j, none⟩) (by simp) (v8 (nth s j ^^^ nth E j)))
      clear kk P2 Z2 B2
      go_wp2
      exact ⟨⟨j + 1, by omega, by go_num, P3.out, Z3.out, B3.out⟩, by simp [intOf]; omega⟩
    · obtain rfl : j = 8 := by omega
      obtain ⟨x, hx⟩ : ∃ x, x = xrTo s E 8 := ⟨_, rfl⟩
      have hxl : x.length = 16 := by rw [hx]; exact xrTo_length _ _ _
      have hxe : encS L m x = xblock L m s y := by rw [hx, HE.out]; rfl
      have HX := Lib.hid hxe
      have P3 := P2.out
      rw [← hx] at P3
      have r1 := P3.row
      obtain ⟨U, hU⟩ : ∃ U, U = xblock L m s y := ⟨_, rfl⟩
      have hUl : U.length = 16 := by rw [hU]; exact xblock_length _ _ _ _
      have HU := Lib.hid hU
      clear hx hxe P3 hU
      go_wp2_with fail
      refine (encrypt_any k p m L x wr (HH.out.below B2.out) hxl hm hm2).mono ?_
      rintro e w3 ⟨rfl, d3⟩
      rw [HX.out, ← HU.out]
      have z3 := Z2.out.belowAll d3
      have r3 := z3.row
      have r4 := z3.whole
      have B3 := B2.out.trans (d3.mono B2.out.size)
      have r5 := (z3.put (A8 U)).row
      have B4 := below_setRow B3 (show w.heap.size ≤ w.heap.size + 1 by omega) (A8 U)
      clear z3 d3 B3
      go_wp2
      rw [← HU.out]
      refine bodyPost_row (A8 U) rfl rfl rfl (Tryd.isAgg40 _) (Tryd.sizeOf40 _) (by rw [A8_size]; exact hUl) r5 ⟨rfl, B4⟩
end Go.Proofs.YtfdkmjegcghieaaDoor
