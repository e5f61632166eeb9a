/- chacha: Start -/
import Derived.Test.YthogbbigglmapaaCha4
import Derived.Lib.SlBytesConst
namespace Go.Proofs.Ythogbbigglmapaa
open Go.RowKit
/-- the letters "expand 32-byte k" -/
def letters : List (BitVec 8) := [101, 120, 112, 97, 110, 100, 32, 51, 50, 45, 98, 121, 116, 101, 32, 107]
/-- the first state, so many numbers of each row done -/
def startTo (key inp : List (BitVec 8)) : Nat → List (BitVec 32)
  | 0 => zeros 32 16
  | i + 1 => ((((startTo key inp i).set i (word letters (4 * i))).set (4 + i) (word key (4 * i))).set (8 + i) (word key (4 * i + 16))).set (12 + i) (word inp (4 * i))
theorem startTo_length (key inp : List (BitVec 8)) (i : Nat) : (startTo key inp i).length = 16 := by
  induction i with
  | zero => simp [startTo]
  | succ i ih => simp [startTo, ih]
theorem rowAt_alloc_mark (w : World) (c : Array Value) (t : TypeId) (f : Nat × Nat) : rowAt (w.alloc (.cells c t f)) w.heap.size = c := by
  unfold rowAt; rw [heap_alloc_new]
theorem letters_rd (w : World) (e : TypeId) (f : Nat × Nat) (cs : Array Value) (h : cs = A8 letters) : Rd8 (w.alloc (.cells cs e f)) (some ⟨w.heap.size, 0, none⟩) 16 16 letters := by
  subst h
  exact Rd8.of_row (rowAt_alloc_mark _ _ _ _) rfl (by simp) (by decide)
structure StartSt (w wr : World) (key inp : List (BitVec 8)) (s : List (BitVec 32)) : Prop where
  k : Blk wr w.heap.size 35 (A8 key)
  i : Blk wr (w.heap.size + 1) 36 (A8 inp)
  z : Blk wr (w.heap.size + 2) 39 (A32 (zeros 32 16))
  s : Blk wr (w.heap.size + 3) 39 (A32 s)
  b : Below w.heap.size w wr
theorem StartSt.below {w wr w' : World} {key inp : List (BitVec 8)} {s : List (BitVec 32)} (h : StartSt w wr key inp s) (hb : Below wr.heap.size wr w') : StartSt w w' key inp s :=
  ⟨h.k.belowAll hb, h.i.belowAll hb, h.z.belowAll hb, h.s.belowAll hb, h.b.trans (hb.mono h.b.size)⟩
theorem StartSt.alloc {w wr : World} {key inp : List (BitVec 8)} {s : List (BitVec 32)} (h : StartSt w wr key inp s) (o : Obj) : StartSt w (wr.alloc o) key inp s :=
  h.below ((Below.refl _ _).alloc (Nat.le_refl _) _)
theorem StartSt.set_ {w wr : World} {key inp : List (BitVec 8)} {s : List (BitVec 32)} (h : StartSt w wr key inp s) (i : Nat) (x : BitVec 32) : StartSt w (wr.setCell ⟨w.heap.size + 3, i, none⟩ (v32 x)) key inp (s.set i x) :=
  ⟨h.k.far (by simp) _, h.i.far (by simp) _, h.z.far (by simp) _, by have := h.s.set_ i (v32 x); rw [A32_set] at this; exact this, h.b.setCell (by simp) _⟩
set_option maxRecDepth 100000 in
theorem start_any (key inp : List (BitVec 8)) (w : World) (hk : key.length = 32) (hi : inp.length = 16) :
    Calls Try.prog 25 #[.agg (A8 key), .agg (A8 inp)] w fun e w' => e = .returned (.agg (A32 (startTo key inp 4))) ∧ Below w.heap.size w w' := by
  have kc := fun (w : World) (C : Array Value) (n c : Nat) => Go.Lib.run_convert_bytes_const (P := Try.prog) w 22 5 C n c Try.underlying22 Try.underlying5
  have HK := Lib.hid hk
  have HI := Lib.hid hi
  go_enter Try.func25, Try.ntmps25
  go_wp2
  go_loopw [7] (fun i wr => ∃ j : Nat, j ≤ 4 ∧ i = .int .i64 j ∧ StartSt w wr key inp (startTo key inp j)) (fun i _ => 4 - (intOf i).toNat)
  case atStart =>
    refine ⟨0, Nat.zero_le _, rfl, ?_⟩
    have h0 := Blk.new w 35 (A8 key)
    have h1 := Blk.new (w.alloc (.cells (A8 key) 35)) 36 (A8 inp)
    have h2 := Blk.new ((w.alloc (.cells (A8 key) 35)).alloc (.cells (A8 inp) 36)) 39 (A32 (zeros 32 16))
    have h3 := Blk.new (((w.alloc (.cells (A8 key) 35)).alloc (.cells (A8 inp) 36)).alloc (.cells (A32 (zeros 32 16)) 39)) 39 (A32 (zeros 32 16))
    simp only [World.size_alloc, Nat.add_assoc, Nat.reduceAdd] at h1 h2 h3
    refine ⟨((h0.alloc _).alloc _).alloc _, (h1.alloc _).alloc _, h2.alloc _, h3, ?_⟩
    repeat (first | exact Below.refl _ _ | assumption | refine Below.drew ?_ | refine Below.alloc ?_ ?_ _ | refine Below.setCell ?_ ?_ _ | refine below_setRow ?_ ?_ _ | refine Below.trans ?_ (Below.mono (by assumption) ?_))
    all_goals (first | (simp; done) | (simp; omega) | (simp at *; omega))
  case round =>
    obtain ⟨j, hj, rfl, hst⟩ := hrel
    have H := Lib.hid hst
    clear hst
    by_cases hj4 : j < 4
    · have hl := startTo_length key inp j
      have HL := Lib.hid hl
      clear hl
      have a0 : (0 : Int) ≤ (j : Int) := by omega
      have a1 : (j : Int) < 16 := by omega
      have a2 : (0 : Int) ≤ 4 + (j : Int) := by omega
      have a3 : 4 + (j : Int) < 16 := by omega
      have a4 : (0 : Int) ≤ 8 + (j : Int) := by omega
      have a5 : 8 + (j : Int) < 16 := by omega
      have a6 : (0 : Int) ≤ 12 + (j : Int) := by omega
      have a7 : 12 + (j : Int) < 16 := by omega
      go_wp2_with fail
      have R0 := letters_rd wr 5 (16, 17) _ (show _ = A8 letters from rfl)
      have H1 := Lib.hid (H.out.alloc (.cells (A8 letters) 5 (16, 17)))
      refine (word_any letters _ _ _ _ _ R0 (by omega) (by omega)).mono ?_
      rintro e w1 ⟨rfl, hb1⟩
      have H2 := Lib.hid (H1.out.below hb1)
      clear R0 hb1
      have f1 := H2.out.s.cell32 HL.out j (by omega)
      have f2 := H2.out.s.frozen j
      go_wp2_with fail
      have H3 := Lib.hid (H2.out.set_ j (word letters (4 * j)))
      clear f1 f2
      have R1 := H3.out.k.rd8 32 (by omega) (by rw [hk]; decide)
      rw [List.take_of_length_le (by omega), hk] at R1
      refine (word_any key _ _ _ _ _ R1 (by omega) (by omega)).mono ?_
      rintro e w2 ⟨rfl, hb2⟩
      have H4 := Lib.hid (H3.out.below hb2)
      clear R1 hb2
      have f1 := H4.out.s.cell32 (m := 16) (by simp [HL.out]) (4 + j) (by omega)
      have f2 := H4.out.s.frozen (4 + j)
      go_wp2_with fail
      have H5 := Lib.hid (H4.out.set_ (4 + j) (word key (4 * j)))
      clear f1 f2
      have R1 := H5.out.k.rd8 32 (by omega) (by rw [hk]; decide)
      rw [List.take_of_length_le (by omega), hk] at R1
      refine (word_any key _ _ _ _ _ R1 (by omega) (by omega)).mono ?_
      rintro e w3 ⟨rfl, hb3⟩
      have H6 := Lib.hid (H5.out.below hb3)
      clear R1 hb3
      have f1 := H6.out.s.cell32 (m := 16) (by simp [HL.out]) (8 + j) (by omega)
      have f2 := H6.out.s.frozen (8 + j)
      go_wp2_with fail
      have H7 := Lib.hid (H6.out.set_ (8 + j) (word key (4 * j + 16)))
      clear f1 f2
      have R1 := H7.out.i.rd8 16 (by omega) (by rw [hi]; decide)
      rw [List.take_of_length_le (by omega), hi] at R1
      refine (word_any inp _ _ _ _ _ R1 (by omega) (by omega)).mono ?_
      rintro e w4 ⟨rfl, hb4⟩
      have H8 := Lib.hid (H7.out.below hb4)
      clear R1 hb4
      have f1 := H8.out.s.cell32 (m := 16) (by simp [HL.out]) (12 + j) (by omega)
      have f2 := H8.out.s.frozen (12 + j)
      go_wp2
      have H9 := Lib.hid (H8.out.set_ (12 + j) (word inp (4 * j)))
      exact ⟨⟨j + 1, by omega, by go_num, H9.out⟩, by simp [intOf]; omega⟩
    · obtain rfl : j = 4 := by omega
      have r1 := H.out.s.row
      have r2 := H.out.z.row
      have r3 := H.out.z.whole
      have hl := startTo_length key inp 4
      go_wp2
      refine bodyPost_row (A32 (startTo key inp 4)) rfl rfl rfl (Try.isAgg39 _) (Try.sizeOf39 _) (by rw [A32_size]; exact hl) (rowAt_setRow _ r3) ⟨rfl, below_setRow H.out.b (by omega) _⟩
end Go.Proofs.Ythogbbigglmapaa
