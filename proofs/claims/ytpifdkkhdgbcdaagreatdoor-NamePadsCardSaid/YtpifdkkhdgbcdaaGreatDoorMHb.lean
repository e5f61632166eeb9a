/- chacha: Start -/
import Derived.Test.YtpifdkkhdgbcdaaGreatDoorMHc
import Derived.Lib.SlBytesConst
import Derived.Test.YtpifdkkhdgbcdaaGreatDoorMGs
import Derived.Test.YtpifdkkhdgbcdaaGreatDoorMGb
import Derived.WalkMore
import Derived.Test.YtpifdkkhdgbcdaaGreatDoorMGu
namespace Go.Proofs.YtpifdkkhdgbcdaaGreatDoor
open Lib (hid)
set_option linter.unusedSimpArgs false
set_option maxRecDepth 100000
set_option maxHeartbeats 1600000
open Go.RowKit
def letters : List (BitVec 8) := [101, 120, 112, 97, 110, 100, 32, 51, 50, 45, 98, 121, 116, 101, 32, 107]
def startTo (key inp : List (BitVec 8)) : Nat → List (BitVec 32)
 | 0 => zeros 32 16
 | i + 1 => ((((startTo key inp i).set i (word letters (4 * i))).set (4 + i) (word key (4 * i))).set (8 + i) (word key (4 * i + 16))).set (12 + i) (word inp (4 * i))
theorem startTo_length (key inp : List (BitVec 8)) (i : Nat) : (startTo key inp i).length = 16 := by
 induction i with
 | zero => simp [startTo]
 | succ i ih => simp [startTo, ih]
theorem rowAt_alloc_mark (w : World) (c : Array Value) (t : TypeId) (f : Nat × Nat) : rowAt (w.alloc (.cells c t f)) w.heap.size = c := by
 unfold rowAt; rw [heap_alloc_new]
theorem letters_rd (w : World) (e : TypeId) (f : Nat × Nat) (cs : Array Value) (h : cs = A8 letters) : Rd8 (w.alloc (.cells cs e f)) (some ⟨w.heap.size, 0, none⟩) 16 16 letters := by
 subst h
 exact Rd8.of_row (rowAt_alloc_mark _ _ _ _) rfl (by simp) (by decide)
structure StartSt (w wr : World) (key inp : List (BitVec 8)) (s : List (BitVec 32)) : Prop where
 k : Blk wr w.heap.size 98 (A8 key)
 i : Blk wr (w.heap.size + 1) 109 (A8 inp)
 z : Blk wr (w.heap.size + 2) 152 (A32 (zeros 32 16))
 s : Blk wr (w.heap.size + 3) 152 (A32 s)
 b : Below w.heap.size w wr
theorem StartSt.below {w wr w' : World} {key inp : List (BitVec 8)} {s : List (BitVec 32)} (h : StartSt w wr key inp s) (hb : Below wr.heap.size wr w') : StartSt w w' key inp s :=
 ⟨h.k.belowAll hb, h.i.belowAll hb, h.z.belowAll hb, h.s.belowAll hb, h.b.trans (hb.mono h.b.size)⟩
theorem StartSt.alloc {w wr : World} {key inp : List (BitVec 8)} {s : List (BitVec 32)} (h : StartSt w wr key inp s) (o : Obj) : StartSt w (wr.alloc o) key inp s :=
 h.below ((Below.refl _ _).alloc (Nat.le_refl _) _)
theorem StartSt.set_ {w wr : World} {key inp : List (BitVec 8)} {s : List (BitVec 32)} (h : StartSt w wr key inp s) (i : Nat) (x : BitVec 32) : StartSt w (wr.setCell ⟨w.heap.size + 3, i, none⟩ (v32 x)) key inp (s.set i x) :=
 ⟨h.k.far (by simp) _, h.i.far (by simp) _, h.z.far (by simp) _, by have := h.s.set_ i (v32 x); rw [A32_set] at this; exact this, h.b.setCell (by simp) _⟩
theorem start_any (key inp : List (BitVec 8)) (w : World) (hk : key.length = 32) (hi : inp.length = 16) :
  Calls Tryz.prog 67 #[.agg (A8 key), .agg (A8 inp)] w fun e w' => e = .returned (.agg (A32 (startTo key inp 4))) ∧ Below w.heap.size w w' := by
 have kc := fun (w : World) (C : Array Value) (n c : Nat) => Go.Lib.run_convert_bytes_const (P := Tryz.prog) w 22 5 C n c Tryz.underlying22 Tryz.underlying5
 have HK := hid hk
 have HI := hid hi
 go_enter Tryz.func67, Tryz.ntmps67
 go_wp2
 go_loopw [7] (fun i wr => ∃ j : Nat, j ≤ 4 ∧ i = .int .i64 j ∧ StartSt w wr key inp (startTo key inp j)) (fun i _ => 4 - (intOf i).toNat)
 case atStart =>
  refine ⟨0, Nat.zero_le _, rfl, ?_⟩
  have h0 := Blk.new w 98 (A8 key)
  have h1 := Blk.new (w.alloc (.cells (A8 key) 98)) 109 (A8 inp)
  have h2 := Blk.new ((w.alloc (.cells (A8 key) 98)).alloc (.cells (A8 inp) 109)) 152 (A32 (zeros 32 16))
  have h3 := Blk.new (((w.alloc (.cells (A8 key) 98)).alloc (.cells (A8 inp) 109)).alloc (.cells (A32 (zeros 32 16)) 152)) 152 (A32 (zeros 32 16))
  simp only [World.size_alloc, Nat.add_assoc, Nat.reduceAdd] at h1 h2 h3
  refine ⟨((h0.alloc _).alloc _).alloc _, (h1.alloc _).alloc _, h2.alloc _, h3, ?_⟩
  repeat (first | exact Below.refl _ _ | assumption | refine Below.drew ?_ | refine Below.alloc ?_ ?_ _ | refine Below.setCell ?_ ?_ _ | refine below_setRow ?_ ?_ _ | refine Below.trans ?_ (Below.mono (by assumption) ?_))
  all_goals (first | (simp; done) | (simp; omega) | (simp at *; omega))
 case round =>
  obtain ⟨j, hj, rfl, hst⟩ := hrel
  have H := hid hst
  clear hst
  by_cases hj4 : j < 4
  ·have hl := startTo_length key inp j
   have HL := hid hl
   clear hl
   have a0 : (0 : Int) ≤ (j : Int) := by omega
   have a1 : (j : Int) < 16 := by omega
   have a2 : (0 : Int) ≤ 4 + (j : Int) := by omega
   have a3 : 4 + (j : Int) < 16 := by omega
   have a4 : (0 : Int) ≤ 8 + (j : Int) := by omega
   have a5 : 8 + (j : Int) < 16 := by omega
   have a6 : (0 : Int) ≤ 12 + (j : Int) := by omega
   have a7 : 12 + (j : Int) < 16 := by omega
   go_wp2_with fail
   have R0 := letters_rd wr 5 (16, 17) _ (show _ = A8 letters from rfl)
   have H1 := hid (H.out.alloc (.cells (A8 letters) 5 (16, 17)))
   refine (word_any letters _ _ _ _ _ R0 (by omega) (by omega)).mono ?_
   rintro e w1 ⟨rfl, hb1⟩
   have H2 := hid (H1.out.below hb1)
   clear R0 hb1
   have f1 := H2.out.s.cell32 HL.out j (by omega)
   have f2 := H2.out.s.frozen j
   go_wp2_with fail
   have H3 := hid (H2.out.set_ j (word letters (4 * j)))
   clear f1 f2
   have R1 := H3.out.k.rd8 32 (by omega) (by rw [hk]; decide)
   rw [List.take_of_length_le (by omega), hk] at R1
   refine (word_any key _ _ _ _ _ R1 (by omega) (by omega)).mono ?_
   rintro e w2 ⟨rfl, hb2⟩
   have H4 := hid (H3.out.below hb2)
   clear R1 hb2
   have f1 := H4.out.s.cell32 (m := 16) (by simp [HL.out]) (4 + j) (by omega)
   have f2 := H4.out.s.frozen (4 + j)
   go_wp2_with fail
   have H5 := hid (H4.out.set_ (4 + j) (word key (4 * j)))
   clear f1 f2
   have R1 := H5.out.k.rd8 32 (by omega) (by rw [hk]; decide)
   rw [List.take_of_length_le (by omega), hk] at R1
   refine (word_any key _ _ _ _ _ R1 (by omega) (by omega)).mono ?_
   rintro e w3 ⟨rfl, hb3⟩
   have H6 := hid (H5.out.below hb3)
   clear R1 hb3
   have f1 := H6.out.s.cell32 (m := 16) (by simp [HL.out]) (8 + j) (by omega)
   have f2 := H6.out.s.frozen (8 + j)
   go_wp2_with fail
   have H7 := hid (H6.out.set_ (8 + j) (word key (4 * j + 16)))
   clear f1 f2
   have R1 := H7.out.i.rd8 16 (by omega) (by rw [hi]; decide)
   rw [List.take_of_length_le (by omega), hi] at R1
   refine (word_any inp _ _ _ _ _ R1 (by omega) (by omega)).mono ?_
   rintro e w4 ⟨rfl, hb4⟩
   have H8 := hid (H7.out.below hb4)
   clear R1 hb4
   have f1 := H8.out.s.cell32 (m := 16) (by simp [HL.out]) (12 + j) (by omega)
   have f2 := H8.out.s.frozen (12 + j)
   go_wp2
   have H9 := hid (H8.out.set_ (12 + j) (word inp (4 * j)))
   exact ⟨⟨j + 1, by omega, by go_num, H9.out⟩, by simp [intOf]; omega⟩
  ·obtain rfl : j = 4 := by omega
   have r1 := H.out.s.row
   have r2 := H.out.z.row
   have r3 := H.out.z.whole
   have hl := startTo_length key inp 4
   go_wp2
   refine bodyPost_row (A32 (startTo key inp 4)) rfl rfl rfl (Tryz.isAgg152 _) (Tryz.sizeOf152 _) (by rw [A32_size]; exact hl) (rowAt_setRow _ r3) ⟨rfl, below_setRow H.out.b (by omega) _⟩
open Go.RowKit
def shortOf (t : List (BitVec 32)) : List (BitVec 8) := bytes32 (t.take 4) ++ bytes32 (t.drop 12)
theorem shortOf_length (t : List (BitVec 32)) (h : t.length = 16) : (shortOf t).length = 32 := by simp [shortOf, bytes32_length, h]
theorem shortOf_eq (t : List (BitVec 32)) (h : t.length = 16) : splc (splc (zeros 8 32) 0 (bytes32 ((t.drop 0).take 4))) 16 (bytes32 ((t.drop 12).take 4)) = shortOf t := by
 have l1 : (bytes32 (t.take 4)).length = 16 := by simp [bytes32_length, h]
 have l2 : (bytes32 (t.drop 12)).length = 16 := by simp [bytes32_length, h]
 rw [List.drop_zero, List.take_of_length_le (l := t.drop 12) (by simp [h])]
 have := splc_splc (zeros 8 32) 0 (bytes32 (t.take 4)) (bytes32 (t.drop 12)) (by rw [l1, l2]; simp)
 rw [l1, Nat.zero_add] at this
 rw [this]
 apply ext_nth
 ·rw [splc_length _ _ _ (by simp [l1, l2]), shortOf_length t h]; simp
 ·intro i hi
  rw [splc_length _ _ _ (by simp [l1, l2])] at hi
  simp at hi
  rw [nth_splc _ _ _ (by simp [l1, l2]), if_pos (by simp [l1, l2]; omega), Nat.sub_zero]
  rfl
theorem short_yes (key inp : List (BitVec 8)) (r : Int) (w : World) (hk : key.length = 32) (hi : inp.length = 16) (h : r = 8 ∨ r = 12 ∨ r = 20) :
  Calls Tryz.prog 49 #[.agg (A8 key), .agg (A8 inp), .int .i64 r] w fun e w' => e = .returned (.tuple #[.agg (A8 (shortOf (mixTo (startTo key inp 4) (r.toNat / 2)))), .int .i64 0]) ∧ Below w.heap.size w w' := by
 have HK := hid hk
 have HI := hid hi
 obtain ⟨t, ht⟩ : ∃ t, t = mixTo (startTo key inp 4) (r.toNat / 2) := ⟨_, rfl⟩
 have hm : t.length = 16 := by rw [ht, mixTo_length, startTo_length]
 have HM := hid hm
 have HT := hid ht
 clear ht hm
 go_enter Tryz.func49, Tryz.ntmps49
 go_wp2_with fail
 refine (known_yes _ _ h).mono ?_
 rintro e w0 ⟨rfl, hw⟩
 obtain ⟨k0, k1, k2, k3, hb, hz⟩ := new4 _ _ _ _ _ _ _ _ _ _ hw
 have r0 := k0.row
 have r1 := k1.row
 have K2 := hid k2
 have K3 := hid k3
 have B0 := hid hb
 have Z0 := hid hz
 clear hw k0 k1 k2 k3 hb hz
 go_wp2_with fail
 refine (start_any key inp _ hk hi).mono ?_
 rintro e w1 ⟨rfl, hb1⟩
 have J2 := hid (K2.out.belowAll hb1)
 have J3 := hid (K3.out.belowAll hb1)
 have B1 := hid (B0.out.trans (hb1.mono B0.out.size))
 clear r0 r1 hb1 K2 K3
 go_wp2_with fail
 refine (mixed_any (startTo key inp 4) r _ (startTo_length _ _ _) (by omega) (by omega)).mono ?_
 rintro e w2 ⟨rfl, hb2⟩
 rw [← HT.out]
 have I2 := hid (J2.out.belowAll hb2)
 have I3 := hid (J3.out.belowAll hb2)
 have B2 := hid (B1.out.trans (hb2.mono B1.out.size))
 clear hb2 J2 J3 B0 B1
 have hm := HM.out
 go_wp2_with fail
 clear hm
 have hsz := I3.out.lt
 have T1 := Blk.new w2 152 (A32 t)
 refine wp_region_text' [0,0,2] (by kernel_rfl) (by kernel_rfl) (fun ops' K' hK' => ?_)
 repeat
  (first
   | (with_reducible refine z_move (a' := ?_) ?_ ?_); rotate_left
   | (with_reducible refine z_assign (a' := ?_) ?_ ?_); rotate_left
   | (with_reducible refine z_obl (v := ?_) (a' := ?_) rfl (fun _ => ?_) ?_ ?_); rotate_left 2; (focus (go_simp; (try go_bits); exact rfl))
   | (with_reducible refine z_read (v := ?_) (a' := ?_) rfl ?_ ?_ ?_); rotate_left 2; (focus (go_simp; (try go_bits); exact rfl)))
  focus (simp only [Act.put, zz1, zz2, zz3, Act.eval, zz4, zz5, zz6, zz7, zz8]; exact rfl)
 (with_reducible refine z_callw rfl ?_)
 go_simp
 refine entersW_of ?_
 refine (chput_any t (zeros 8 32) (w.heap.size + 3) 0 32 32 w2.heap.size 0 4 16 98 152 _ (I3.out.alloc _).drew T1.drew (by omega) (by rw [HM.out]; omega) (by omega) (by omega) (by omega) (by simp)).mono ?_
 rintro e w3 ⟨rfl, hg3, hk3⟩
 refine ⟨_, rfl, ?_⟩
 try simp only [Act.put, zz1, zz2, zz3]
 refine z_nil (hK' _ _ ?_)
 have T2 := hid ((T1.drew).grown hg3 (by simp; omega))
 have P2 := hid ((I2.out.alloc _).drew.grown hg3 (by simp))
 have P3 := hid hk3
 have B3 := hid (((B2.out.alloc B2.out.size (.cells (A32 t) 152)).drew).trans (grown_below hg3 (by omega) (by simp; omega)))
 have sz3 := hg3.size
 simp at sz3
 clear T1 hg3 hk3
 go_wp2_with fail
 refine wp_region_text' [0,0,2] (by kernel_rfl) (by kernel_rfl) (fun ops' K2 hK2 => ?_)
 repeat
  (first
   | (with_reducible refine z_move (a' := ?_) ?_ ?_); rotate_left
   | (with_reducible refine z_assign (a' := ?_) ?_ ?_); rotate_left
   | (with_reducible refine z_obl (v := ?_) (a' := ?_) rfl (fun _ => ?_) ?_ ?_); rotate_left 2; (focus (go_simp; (try go_bits); exact rfl))
   | (with_reducible refine z_read (v := ?_) (a' := ?_) rfl ?_ ?_ ?_); rotate_left 2; (focus (go_simp; (try go_bits); exact rfl)))
  focus (simp only [Act.put, zz1, zz2, zz3, Act.eval, zz4, zz5, zz6, zz7, zz8]; exact rfl)
 (with_reducible refine z_callw rfl ?_)
 go_simp
 refine entersW_of ?_
 refine (chput_any t (splc (zeros 8 32) 0 (bytes32 ((t.drop 0).take 4))) (w.heap.size + 3) 16 16 16 w2.heap.size 12 4 4 98 152 _ P3.out.drew T2.out.drew (by omega) (by rw [HM.out]; omega) (by omega) (by omega) (by omega) (by rw [splc_length _ _ _ (by simp [bytes32_length]; omega)]; simp)).mono ?_
 rintro e w4 ⟨rfl, hg4, hk4⟩
 refine ⟨_, rfl, ?_⟩
 try simp only [Act.put, zz1, zz2, zz3]
 refine z_nil (hK2 _ _ ?_)
 rw [shortOf_eq t HM.out] at hk4
 have Q2 := (P2.out.drew.grown hg4 (by simp))
 have r1 := hk4.row
 have r2 := Q2.row
 have r3 := Q2.whole
 have hso := shortOf_length t HM.out
 have B4 := hid (B3.out.drew.trans (grown_below hg4 (by omega) (by simp; omega)))
 clear hk4 hg4 Q2 T2 P2 P3 B2 I2 I3
 go_wp2
 refine bodyPost_row_tmp (A8 (shortOf t)) rfl rfl rfl (Tryz.isAgg98 _) (Tryz.sizeOf98 _) (by rw [A8_size]; exact hso) (rowAt_setRow _ r3) ⟨?_, below_setRow B4.out (by omega) _⟩
 rw [← HT.out]; rfl
def chsumTo (t s : List (BitVec 32)) : Nat → List (BitVec 32)
 | 0 => t
 | i + 1 => (chsumTo t s i).set i (nth (chsumTo t s i) i + nth s i)
theorem chsumTo_length (t s : List (BitVec 32)) (i : Nat) : (chsumTo t s i).length = t.length := by
 induction i with
 | zero => rfl
 | succ i ih => rw [chsumTo, List.length_set, ih]
def blockOf (s : List (BitVec 32)) (n : Nat) : List (BitVec 8) := bytes32 (chsumTo (mixTo s n) s 16)
theorem blockOf_length (s : List (BitVec 32)) (n : Nat) (h : s.length = 16) : (blockOf s n).length = 64 := by
 rw [blockOf, bytes32_length, chsumTo_length, mixTo_length, h]
theorem blockC_yes (key inp : List (BitVec 8)) (r : Int) (w : World) (hk : key.length = 32) (hi : inp.length = 16) (h : r = 8 ∨ r = 12 ∨ r = 20) :
  Calls Tryz.prog 50 #[.agg (A8 key), .agg (A8 inp), .int .i64 r] w fun e w' => e = .returned (.tuple #[.agg (A8 (blockOf (startTo key inp 4) (r.toNat / 2))), .int .i64 0]) ∧ Below w.heap.size w w' := by
 obtain ⟨s, hs⟩ : ∃ s, s = startTo key inp 4 := ⟨_, rfl⟩
 have hsl : s.length = 16 := by rw [hs, startTo_length]
 obtain ⟨t, ht⟩ : ∃ t, t = mixTo s (r.toNat / 2) := ⟨_, rfl⟩
 have hm : t.length = 16 := by rw [ht, mixTo_length, hsl]
 have HM := hid hm
 have HS := hid hsl
 have HT := hid ht
 have HSE := hid hs
 clear ht hm hs hsl
 go_enter Tryz.func50, Tryz.ntmps50
 go_wp2_with fail
 refine (known_yes _ _ h).mono ?_
 rintro e w0 ⟨rfl, hw⟩
 obtain ⟨k0, k1, k2, k3, hb, hz⟩ := new4 _ _ _ _ _ _ _ _ _ _ hw
 have r0 := k0.row
 have r1 := k1.row
 have K2 := hid k2
 have K3 := hid k3
 have B0 := hid hb
 clear hw k0 k1 k2 k3 hb hz
 go_wp2_with fail
 refine (start_any key inp _ hk hi).mono ?_
 rintro e w1 ⟨rfl, hb1⟩
 rw [← HSE.out]
 have J2 := hid ((K2.out.belowAll hb1).alloc (.cells (A32 s) 152))
 have J3 := hid ((K3.out.belowAll hb1).alloc (.cells (A32 s) 152))
 have B1 := hid ((B0.out.trans (hb1.mono B0.out.size)).alloc (Nat.le_trans B0.out.size hb1.size) (.cells (A32 s) 152))
 have hlt := (K3.out.belowAll hb1).lt
 have JS := hid (Blk.new w1 152 (A32 s))
 clear r0 r1 hb1 K2 K3 hk hi
 have hsl := HS.out
 go_wp2_with fail
 refine (mixed_any s r _ hsl (by omega) (by omega)).mono ?_
 rintro e w2 ⟨rfl, hb2⟩
 rw [← HT.out]
 have I2 := hid (J2.out.belowAll hb2)
 have I3 := hid (J3.out.belowAll hb2)
 have IS := hid (JS.out.belowAll hb2)
 have B2 := hid (B1.out.trans (hb2.mono B1.out.size))
 have hsz := hb2.size
 simp at hsz
 clear hb2 J2 J3 JS B0 B1 hsl
 have hm := HM.out
 go_wp2
 clear hm
 obtain ⟨S, hS⟩ : ∃ S, S = w1.heap.size := ⟨_, rfl⟩
 obtain ⟨T, hT⟩ : ∃ T, T = w2.heap.size := ⟨_, rfl⟩
 rw [← hT, ← hS]
 have hS3 : w.heap.size + 3 < S := by omega
 have hT3 : w.heap.size + 3 < T := by omega
 go_loopw [25] (fun i wr => ∃ j : Nat, j ≤ 16 ∧ i = .int .i64 j ∧ Blk wr (w.heap.size + 2) 122 (A8 (zeros 8 64)) ∧ Blk wr (w.heap.size + 3) 122 (A8 (zeros 8 64)) ∧ Blk wr S 152 (A32 s) ∧ Blk wr T 152 (A32 (chsumTo t s j)) ∧ Below w.heap.size w wr) (fun i _ => 16 - (intOf i).toNat)
 case atStart =>
  exact ⟨0, Nat.zero_le _, rfl, I2.out.alloc _, I3.out.alloc _, by rw [hS]; exact IS.out.alloc _, by rw [hT]; exact Blk.new _ _ _, B2.out.alloc B2.out.size _⟩
 case round =>
  obtain ⟨j, hj, rfl, hz, ho, hs, ht, hb⟩ := hrel
  have Z := hid hz
  have O := hid ho
  have Sx := hid hs
  have Tx := hid ht
  have B := hid hb
  have hST : S < T := by omega
  have HST := hid hS
  have HTT := hid hT
  clear hz ho hs ht hb hS hT I2 I3 IS B2
  by_cases hj16 : j < 16
  ·have j0 : (0 : Int) ≤ (j : Int) := by omega
   have j1 : (j : Int) < 16 := by omega
   have c1 := Sx.out.cell32 HS.out j hj16
   have c2 := Tx.out.cell32 (m := 16) (by rw [chsumTo_length]; exact HM.out) j hj16
   go_wp2_with fail
   refine wp_region_text' [0,0,1,0,0,1,0,0,2] (by kernel_rfl) (by kernel_rfl) (fun ops' K' hK' => ?_)
   repeat
    (first
     | (with_reducible refine z_move (a' := ?_) ?_ ?_); rotate_left
     | (with_reducible refine z_assign (a' := ?_) ?_ ?_); rotate_left
     | (with_reducible refine z_obl (v := ?_) (a' := ?_) rfl (fun _ => ?_) ?_ ?_); rotate_left 2; (focus (go_simp; (try go_bits); exact rfl))
     | (with_reducible refine z_read (v := ?_) (a' := ?_) rfl ?_ ?_ ?_); rotate_left 2; (focus (go_simp; (try go_bits); exact rfl)))
    focus (simp only [Act.put, zz1, zz2, zz3, Act.eval, zz4, zz5, zz6, zz7, zz8]; exact rfl)
   refine z_store32 Tx.out.drew rfl rfl (by rw [chsumTo_length, HM.out]; exact hj16) (Tryz.sizeOf59 _) (fun w3 hb3 hg3 _ => ?_)
   refine z_nil (hK' _ _ ?_)
   have E1 := hid hb3
   have E2 := hid hg3
   clear hb3 hg3 c1 c2
   go_wp2
   exact ⟨⟨j + 1, by omega, by go_num, Z.out.drew.grown E2.out (by simp; omega), O.out.drew.grown E2.out (by simp; omega), Sx.out.drew.grown E2.out (by simp; omega), E1.out, B.out.drew.trans (grown_below E2.out (by omega) B.out.size)⟩, by simp [intOf]; omega⟩
  ·obtain rfl : j = 16 := by omega
   go_wp2_with fail
   refine wp_region_text' [0,0,2] (by kernel_rfl) (by kernel_rfl) (fun ops' K2 hK2 => ?_)
   repeat
    (first
     | (with_reducible refine z_move (a' := ?_) ?_ ?_); rotate_left
     | (with_reducible refine z_assign (a' := ?_) ?_ ?_); rotate_left
     | (with_reducible refine z_obl (v := ?_) (a' := ?_) rfl (fun _ => ?_) ?_ ?_); rotate_left 2; (focus (go_simp; (try go_bits); exact rfl))
     | (with_reducible refine z_read (v := ?_) (a' := ?_) rfl ?_ ?_ ?_); rotate_left 2; (focus (go_simp; (try go_bits); exact rfl)))
    focus (simp only [Act.put, zz1, zz2, zz3, Act.eval, zz4, zz5, zz6, zz7, zz8]; exact rfl)
   (with_reducible refine z_callw rfl ?_)
   go_simp
   refine entersW_of ?_
   refine (chput_any (chsumTo t s 16) (zeros 8 64) (w.heap.size + 3) 0 64 64 T 0 16 16 122 152 _ O.out.drew Tx.out.drew (by omega) (by rw [chsumTo_length, HM.out]; omega) (by omega) (by omega) (by omega) (by simp)).mono ?_
   rintro e w4 ⟨rfl, hg4, hk4⟩
   refine ⟨_, rfl, ?_⟩
   try simp only [Act.put, zz1, zz2, zz3]
   refine z_nil (hK2 _ _ ?_)
   have hbl : (bytes32 (chsumTo t s 16)).length = 64 := by rw [bytes32_length, chsumTo_length, HM.out]
   have e1 : splc (zeros 8 64) 0 (bytes32 (((chsumTo t s 16).drop 0).take 16)) = bytes32 (chsumTo t s 16) := by
    rw [List.drop_zero, List.take_of_length_le (by rw [chsumTo_length, HM.out]; omega), splc_full _ _ (by rw [hbl]; simp)]
   rw [e1] at hk4
   have Q2 := (Z.out.drew.grown hg4 (by simp))
   have r1 := hk4.row
   have r2 := Q2.row
   have r3 := Q2.whole
   have B4 := hid (B.out.drew.trans (grown_below hg4 (by omega) B.out.size))
   clear hk4 hg4 Q2 Z O Sx Tx B e1
   go_wp2
   refine bodyPost_row_tmp (A8 (bytes32 (chsumTo t s 16))) rfl rfl rfl (Tryz.isAgg122 _) (Tryz.sizeOf122 _) (by rw [A8_size]; exact hbl) (rowAt_setRow _ r3) ⟨?_, below_setRow B4.out (by omega) _⟩
   rw [blockOf, ← HSE.out, ← HT.out]; rfl
open Go.RowKit
def streamOf (f : Nat → List (BitVec 8)) (b : List (BitVec 8)) : List (BitVec 8) := (List.range b.length).map fun i => nth b i ^^^ nth (f (i / 64)) (i % 64)
def ownOf (key nonce : List (BitVec 8)) (n : Nat) : List (BitVec 8) := shortOf (mixTo (startTo key (nonce.take 16) 4) n)
def numbered (own nonce : List (BitVec 8)) (n : Nat) (m : Nat) : List (BitVec 8) := blockOf (startTo own (le64 (BitVec.ofNat 64 m) ++ nonce.drop 16) 4) n
def cryptOf (key nonce : List (BitVec 8)) (r : Nat) (b : List (BitVec 8)) : List (BitVec 8) := streamOf (numbered (ownOf key nonce (r / 2)) nonce (r / 2)) b
def sliceLen : Value → Nat
 | .slice _ n _ => n
 | _ => 0
theorem streamOf_length (f : Nat → List (BitVec 8)) (b : List (BitVec 8)) : (streamOf f b).length = b.length := by simp [streamOf]
theorem nth_streamOf (f : Nat → List (BitVec 8)) (b : List (BitVec 8)) (i : Nat) (h : i < b.length) : nth (streamOf f b) i = nth b i ^^^ nth (f (i / 64)) (i % 64) := by
 simp [nth, streamOf, List.getD_eq_getElem?_getD, h]
theorem streamOf_step (f : Nat → List (BitVec 8)) (b : List (BitVec 8)) (m : Nat) (hf : (f m).length = 64) : (streamOf f b).take (64 * m) ++ xorl (b.drop (64 * m)) (f m) = (streamOf f b).take (64 * (m + 1)) := by
 have hl := streamOf_length f b
 have hx := xorl_length (b.drop (64 * m)) (f m)
 rw [hf, List.length_drop] at hx
 apply ext_nth
 ·simp [hl, hx]; omega
 ·intro i hi
  simp [hl, hx] at hi
  rw [nth_append, List.length_take, hl, nth_take (streamOf f b) _ _ (show i < 64 * (m + 1) by omega), nth_streamOf f b i (by omega)]
  by_cases h : i < 64 * m
  ·rw [if_pos (by omega), nth_take _ _ _ h, nth_streamOf f b i (by omega)]
  ·have e1 : i / 64 = m := by omega
   have e2 : i % 64 = i - 64 * m := by omega
   rw [if_neg (by omega), show min (64 * m) b.length = 64 * m by omega, nth_xorl _ _ _ (by rw [hf, List.length_drop]; omega), nth_drop, show 64 * m + (i - 64 * m) = i by omega, e1, e2]
def CryptJ (w : World) (key nonce own l : List (BitVec 8)) (r : Int) (a' : Act) (w' : World) : Prop :=
 ∃ (m n : Nat) (y : BitVec 64) (a : Option Addr) (c : Nat) (v : Value) (x : List (BitVec 8)) (g gi : Nat), (∃ u : Nat → Value, a' = { tmps := (fun u : Nat → Value => #[.agg (A8 key), .agg (A8 nonce), .int .i64 r, .slice a n c, .pointer (some ⟨w.heap.size, 0, none⟩), .pointer (some ⟨w.heap.size + 1, 0, none⟩), u 6, u 7, .slice none 0 0, .int .i64 0, .pointer (some ⟨g, 0, none⟩), .int .i64 0, .pointer (some ⟨gi, 0, none⟩), v, v64 y, u 15, u 16, u 17, u 18, u 19, u 20, u 21, u 22, u 23, u 24, u 25, u 26, u 27, u 28, u 29, u 30, u 31, u 32, u 33, u 34, u 35, u 36, u 37, u 38, u 39, u 40, u 41, u 42, u 43, u 44, u 45, u 46, u 47, u 48, u 49, u 50, u 51, u 52, u 53, u 54, u 55, u 56, u 57, u 58, u 59, u 60, u 61, u 62, u 63, u 64]) u, defers := [] }) ∧
  y = BitVec.ofNat 64 m ∧ n = l.length - 64 * m ∧ Rd8 w a n c (l.drop (64 * m)) ∧ x.length = 8 ∧ Blk w' g 98 (A8 own) ∧ Blk w' gi 109 (A8 (x ++ nonce.drop 16)) ∧ Own8 w' (gi + 1) 5 v ((cryptOf key nonce r.toNat l).take (64 * m)) ∧ Below w.heap.size w w' ∧ w.heap.size + 1 < g ∧ g < gi
theorem crypt_yes (key nonce l : List (BitVec 8)) (r : Int) (a : Option Addr) (n c : Nat) (w : World) (hk : key.length = 32) (hn : nonce.length = 24) (h : r = 8 ∨ r = 12 ∨ r = 20) (hr : Rd8 w a n c l) (hsz : n ≤ 140737488355328) :
  Calls Tryz.prog 40 #[.agg (A8 key), .agg (A8 nonce), .int .i64 r, .slice a n c] w fun e w' => ∃ v, e = .returned (.tuple #[v, .int .i64 0]) ∧ Own8 w' w.heap.size 5 v (cryptOf key nonce r.toNat l) ∧ Below w.heap.size w w' := by
 go_enter Tryz.func40, Tryz.ntmps40
 go_wp2
 have Hr := hid hr
 refine wp_scope_enter 0 (CryptJ w key nonce (ownOf key nonce (r.toNat / 2)) l r) (fun a' _ => sliceLen (a'.tmps.getD 3 undef)) rfl (fun hrest => ?_) ?_
 ·go_wp2
  obtain ⟨W, hW⟩ : ∃ W, (w.alloc (.cells (A8 key) 98)).alloc (.cells (A8 nonce) 104) = W := ⟨_, rfl⟩
  obtain ⟨b0, b1, hb, hz⟩ := new2 _ _ _ _ _ _ hW
  rw [hW]
  refine wp_region_made [1,0,0,1,0,1,0,0,0,9] [2,0] [(9, .cells (A8 (zeros 8 32)) 98)] (by kernel_rfl) (by kernel_rfl) (by kernel_rfl) (by kernel_rfl) ?_ (fun C hC0 hCb hCn K' hK' => ?_)
  ·intro p hp o ho
   simp only [List.mem_singleton] at hp
   subst hp
   simp at ho
   subst ho
   exact ⟨rfl, fun a w => by go_simp⟩
  have R0 : ∀ w1, C w1 → rowAt w1 w.heap.size = A8 key := fun w1 h => (b0.drew.belowAll (hCb w1 h)).row
  have R1 : ∀ w1, C w1 → rowAt w1 (w.heap.size + 1) = A8 nonce := fun w1 h => (b1.drew.belowAll (hCb w1 h)).row
  repeat
   first
    | (with_reducible refine y_made ?_)
    | ((with_reducible refine y_obl (v := ?_) (a' := ?_) ?_ (fun _ => ?_) ?_ ?_); rotate_left; rotate_left; (focus (exact rfl)); (focus (go_simp; (try go_bits); exact rfl)); (focus (simp only [Act.put, zz1, zz2, zz3, Act.eval, zz4, zz5, zz6, zz7, zz8]; exact rfl)))
    | ((with_reducible refine y_read (v := ?_) (a' := ?_) ?_ (fun _ hcw => ?_) ?_ ?_); rotate_left; rotate_left; (focus (exact rfl)); (focus (have f := R0 _ hcw; have f' := R1 _ hcw; go_simp; (try go_bits); exact rfl)); (focus (simp only [Act.put, zz1, zz2, zz3, Act.eval, zz4, zz5, zz6, zz7, zz8]; exact rfl)))
    | ((with_reducible refine y_skip (a' := ?_) ?_ ?_ ?_); rotate_left; (focus (exact rfl)); (focus (simp only [Act.put, zz1, zz2, zz3, Act.eval, zz4, zz5, zz6, zz7, zz8]; exact rfl)))
    | ((with_reducible refine y_skip1 (a' := ?_) ?_ ?_ ?_); rotate_left; (focus (exact rfl)); (focus (simp only [Act.put, zz1, zz2, zz3, Act.eval, zz4, zz5, zz6, zz7, zz8]; exact rfl)))
  ((with_reducible refine y_call (v := ?_) (a' := ?_) ?_ (fun wq hcw => ?_) ?_ ?_); rotate_left; rotate_left)
  ·exact rfl
  ·go_simp
   refine entersB_of ?_
   exact short_yes key (nonce.take 16) r _ hk (by simp [hn]) h
  ·(simp only [Act.put, zz1, zz2, zz3, Act.eval, zz4, zz5, zz6, zz7, zz8]; exact rfl)
  repeat
   first
    | (with_reducible refine y_made ?_)
    | ((with_reducible refine y_obl (v := ?_) (a' := ?_) ?_ (fun _ => ?_) ?_ ?_); rotate_left; rotate_left; (focus (exact rfl)); (focus (go_simp; (try go_bits); exact rfl)); (focus (simp only [Act.put, zz1, zz2, zz3, Act.eval, zz4, zz5, zz6, zz7, zz8]; exact rfl)))
    | ((with_reducible refine y_read (v := ?_) (a' := ?_) ?_ (fun _ hcw => ?_) ?_ ?_); rotate_left; rotate_left; (focus (exact rfl)); (focus (have f := R0 _ hcw; have f' := R1 _ hcw; go_simp; (try go_bits); exact rfl)); (focus (simp only [Act.put, zz1, zz2, zz3, Act.eval, zz4, zz5, zz6, zz7, zz8]; exact rfl)))
    | ((with_reducible refine y_skip (a' := ?_) ?_ ?_ ?_); rotate_left; (focus (exact rfl)); (focus (simp only [Act.put, zz1, zz2, zz3, Act.eval, zz4, zz5, zz6, zz7, zz8]; exact rfl)))
    | ((with_reducible refine y_skip1 (a' := ?_) ?_ ?_ ?_); rotate_left; (focus (exact rfl)); (focus (simp only [Act.put, zz1, zz2, zz3, Act.eval, zz4, zz5, zz6, zz7, zz8]; exact rfl)))
  refine y_nil (fin_one fun g w1 hgW hcw hg => ?_)
  simp only [Act.put, zz1, zz2, zz3, zz6, zz7, Option.bind_some]
  have hg' : Blk w1 g 98 (A8 (zeros 8 32)) := hg
  obtain ⟨own, hown⟩ : ∃ own, own = ownOf key nonce (r.toNat / 2) := ⟨_, rfl⟩
  have hol : own.length = 32 := by rw [hown]; exact shortOf_length _ (by rw [mixTo_length, startTo_length])
  rw [show shortOf (mixTo (startTo key (List.take 16 nonce) 4) (r.toNat / 2)) = own from hown.symm]
  refine z_storeRow hg' rfl rfl (by rw [A8_size, A8_size, hol, zeros_length]) (A8_ones _) (by rw [A8_size, hol]; exact Tryz.sizeOf98 _) (fun w2 hb2 hg2 hs2 => ?_)
  repeat
   (first
    | (with_reducible refine z_move (a' := ?_) ?_ ?_); rotate_left
    | (with_reducible refine z_assign (a' := ?_) ?_ ?_); rotate_left
    | (with_reducible refine z_obl (v := ?_) (a' := ?_) rfl (fun _ => ?_) ?_ ?_); rotate_left 2; (focus (go_simp; (try go_bits); exact rfl))
    | (with_reducible refine z_read (v := ?_) (a' := ?_) rfl ?_ ?_ ?_); rotate_left 2; (focus (go_simp; (try go_bits); exact rfl)))
   focus (simp only [Act.put, zz1, zz2, zz3, Act.eval, zz4, zz5, zz6, zz7, zz8]; exact rfl)
  refine z_nil (hK' _ _ ?_)
  have c1 := hCb w1 hcw
  have n0 := (b1.drew.belowAll c1).grown hg2 (by simp; omega)
  have hB2 : Below w.heap.size w w2 := (hb.drew.trans (c1.mono (by simp; omega))).trans (grown_below hg2 (by omega) (by have := hb.size; have := c1.size; simp at this; omega))
  clear hC0 hCb hCn R0 R1 hg hg' hg2 hs2 c1 b0 b1 hcw hb
  go_wp2_with fail
  obtain ⟨gi, hgi⟩ : ∃ gi, gi = w2.heap.size := ⟨_, rfl⟩
  have hBi := hB2.alloc hB2.size (.cells (A8 (zeros 8 16)) 109)
  have m0 := (n0.alloc (.cells (A8 (zeros 8 16)) 109))
  have mo := (hb2.alloc (.cells (A8 (zeros 8 16)) 109))
  have mi := Blk.new w2 109 (A8 (zeros 8 16))
  have hlg := hb2.lt
  have hln := n0.lt
  rw [← hgi] at mi hlg hln
  rw [← hgi]
  generalize (w2.alloc (.cells (A8 (zeros 8 16)) 109)) = w3 at *
  have hgl : w.heap.size + 1 < g := by omega
  clear hgi hgW hW hz hB2 n0 hb2
  refine wp_region_text' [0,0,2] (by kernel_rfl) (by kernel_rfl) (fun ops' K2 hK2 => ?_)
  repeat
   (first
    | (with_reducible refine z_move (a' := ?_) ?_ ?_); rotate_left
    | (with_reducible refine z_assign (a' := ?_) ?_ ?_); rotate_left
    | (with_reducible refine z_obl (v := ?_) (a' := ?_) rfl (fun _ => ?_) ?_ ?_); rotate_left 2; (focus (go_simp; (try go_bits); exact rfl))
    | (with_reducible refine z_read (v := ?_) (a' := ?_) rfl ?_ ?_ ?_); rotate_left 2; (focus (go_simp; (try go_bits); exact rfl)))
   focus (simp only [Act.put, zz1, zz2, zz3, Act.eval, zz4, zz5, zz6, zz7, zz8]; exact rfl)
  have rn := ((m0.drew.rd8 24 (by omega) (by rw [hn]; unfold maxLen; omega)).cut (j := 16) (k := 24) (by omega) (by omega))
  rw [hn, if_neg (by omega)] at rn
  refine z_copy8 mi.drew rn rfl rfl Tryz.underlying22 size8 (by simp) (fun w4 v4 k4 g4 s4 => ?_)
  refine z_nil (hK2 _ _ ?_)
  have e4 : splc (zeros 8 16) 8 ((((nonce.take 24).take 24).drop 16).take (min (24 - 16) 8)) = zeros 8 8 ++ nonce.drop 16 := by
   rw [List.take_of_length_le (l := nonce) (by omega), List.take_of_length_le (l := nonce) (by omega), List.take_of_length_le (by simp; omega)]
   apply ext_nth
   ·rw [splc_length _ _ _ (by simp [hn])]; simp [hn]
   ·intro i hi
    rw [nth_splc _ _ _ (by simp [hn]), nth_append]
    simp [hn, nth_zeros]
    by_cases h8 : i < 8
    ·rw [if_neg (by omega), if_pos h8]
    ·rw [splc_length _ _ _ (by simp [hn])] at hi
     simp at hi
     rw [if_pos (by omega), if_neg h8]
  rw [e4] at k4
  have mo4 := mo.drew.grown g4 (by simp; omega)
  have hB4 := hBi.drew.trans (grown_below g4 (by omega) hBi.size)
  have hmk := run_make8 (P := Tryz.prog) w4 22 5 0 n Tryz.underlying22 info8 (by omega) (by omega) (by omega)
  rw [Int.toNat_natCast, Int.toNat_zero] at hmk
  have hln := hr.1
  have h4 := k4.lt
  clear e4 g4 s4 rn m0 mo mi hBi
  go_wp2
  go_step3
  obtain ⟨W4, hW4⟩ : ∃ W4, W4 = w4.alloc (.cells (A8 (zeros 8 n)) 5) := ⟨_, rfl⟩
  have q1 := k4.alloc (.cells (A8 (zeros 8 n)) 5)
  have q2 := mo4.alloc (.cells (A8 (zeros 8 n)) 5)
  have q3 := Own8.made w4 (gi + 1) 5 (zeros 8 n) 0 (by omega) (by simp) (by rw [zeros_length]; unfold maxLen; omega)
  have q4 := hB4.alloc hB4.size (.cells (A8 (zeros 8 n)) 5)
  rw [← hW4] at q1 q2 q3 q4 ⊢
  rw [zeros_length] at q3
  refine ‹∀ (a : Act) (w_1 : World), Code.wp _ _ _ a w_1 → _› _ _ (hrest _ _ ?_)
  refine ⟨0, n, _, a, c, _, zeros 8 8, g, gi, ex_frame _ rfl, rfl, by omega, ?_, by simp, ?_, q1, q3, q4, hgl, hlg⟩
  ·rw [Nat.mul_zero, List.drop_zero]; exact hr
  ·rw [← hown]; exact q2
 ·rintro a' w' ⟨m, n, y, a, c, v, x, g, gi, ⟨u, rfl⟩, hy, hn', hr, hx, hkg, hki, hov, hB, h1, h2⟩
  generalize hown : ownOf key nonce (r.toNat / 2) = own at *
  have hol : own.length = 32 := by rw [← hown]; exact shortOf_length _ (by rw [mixTo_length, startTo_length])
  by_cases hn0 : n = 0
  ·have hfin : (cryptOf key nonce r.toNat l).take (64 * m) = cryptOf key nonce r.toNat l := List.take_of_length_le (by rw [cryptOf, streamOf_length]; omega)
   rw [hfin] at hov
   have O := hid (hov.base (show w.heap.size ≤ gi + 1 by omega))
   have B := hid hB
   clear hown hol hr hkg hki hov hB hx hn' hfin
   subst hn0
   go_wp2
   simp only [Exit.jump]
   go_ret2
   exact ⟨_, rfl, O.out, B.out⟩
  ·have O := hid hov
   have B := hid hB
   have R := hid hr
   have G := hid hkg
   have I := hid hki
   have N0 := hid hn'
   have HO := hid hown
   have HL := hid hol
   clear hown hol hr hkg hki hov hB hn'
   have n0 : ¬ (n : Int) = 0 := by omega
   have HY := hid hy
   clear hy
   go_wp2_with fail
   refine (putlong_any y _).mono ?_
   rintro e w1 ⟨rfl, hb1⟩
   have O1 := hid ((O.out.below hb1).alloc (.cells (A8 (le64 y)) 117))
   have G1 := hid ((G.out.belowAll hb1).alloc (.cells (A8 (le64 y)) 117))
   have I1 := hid ((I.out.belowAll hb1).alloc (.cells (A8 (le64 y)) 117))
   have P1 := hid (Blk.new w1 117 (A8 (le64 y)))
   have hB1 := B.out.trans (hb1.mono B.out.size)
   have B1 := hid (hB1.alloc hB1.size (.cells (A8 (le64 y)) 117))
   have hgw := (I.out.belowAll hb1).lt
   clear hb1 hB1 O B G I
   go_wp2_with fail
   generalize w1.alloc (.cells (A8 (le64 y)) 117) = W1 at *
   generalize w1.heap.size = p1 at *
   refine wp_region_text' [0,0,2] (by kernel_rfl) (by kernel_rfl) (fun ops' K2 hK2 => ?_)
   repeat
    (first
     | (with_reducible refine z_move (a' := ?_) ?_ ?_); rotate_left
     | (with_reducible refine z_assign (a' := ?_) ?_ ?_); rotate_left
     | (with_reducible refine z_obl (v := ?_) (a' := ?_) rfl (fun _ => ?_) ?_ ?_); rotate_left 2; (focus (go_simp; (try go_bits); exact rfl))
     | (with_reducible refine z_read (v := ?_) (a' := ?_) rfl ?_ ?_ ?_); rotate_left 2; (focus (go_simp; (try go_bits); exact rfl)))
    focus (simp only [Act.put, zz1, zz2, zz3, Act.eval, zz4, zz5, zz6, zz7, zz8]; exact rfl)
   have rn := P1.out.drew.rd8 8 (by simp) (by simp; unfold maxLen; omega)
   refine z_copy8 I1.out.drew rn rfl rfl Tryz.underlying22 size8 (by simp [hx]) (fun w2 v2 k2 g2 s2 => ?_)
   refine z_nil (hK2 _ _ ?_)
   have e2 : splc (x ++ nonce.drop 16) 0 (((le64 y).take 8).take (min 8 8)) = le64 y ++ nonce.drop 16 := by
    rw [List.take_of_length_le (l := le64 y) (by simp), List.take_of_length_le (by simp)]
    unfold splc
    rw [List.take_zero, List.nil_append, le64_length, Nat.zero_add, List.drop_left' hx]
   have e2' : splc (x ++ nonce.drop 16) 0 (((le64 y).take 8).take (min 8 8)) = splc (x ++ nonce.drop 16) 0 ((((le64 y)).take 8).take (min 8 8)) := rfl
   rw [List.take_take] at k2
   rw [List.take_take] at e2
   rw [e2] at k2
   have il : (le64 y ++ nonce.drop 16).length = 16 := by simp [hn]
   obtain ⟨inn, hin⟩ : ∃ inn, inn = le64 y ++ nonce.drop 16 := ⟨_, rfl⟩
   rw [← hin] at k2 il
   have O2 := hid (O1.out.drew.grown g2 (by omega))
   have G2 := hid (G1.out.drew.grown g2 (by simp; omega))
   have I2 := hid k2
   have B2 := hid (B1.out.drew.trans (grown_below g2 (by omega) B1.out.size))
   have r1 := G2.out.row
   have r2 := I2.out.row
   have hol := HL.out
   have HIN := hid hin
   clear k2 g2 s2 rn e2 e2' hin O1 G1 I1 P1 B1
   go_wp2_with fail
   refine (blockC_yes own inn r _ HL.out il h).mono ?_
   rintro e w3 ⟨rfl, hb3⟩
   obtain ⟨blo, hblo⟩ : ∃ blo, blo = blockOf (startTo own inn 4) (r.toNat / 2) := ⟨_, rfl⟩
   rw [← hblo]
   have hbl : blo.length = 64 := by rw [hblo, blockOf_length _ _ (startTo_length _ _ _)]
   have O3 := hid ((O2.out.below hb3).alloc (.cells (A8 blo) 122))
   have G3 := hid ((G2.out.belowAll hb3).alloc (.cells (A8 blo) 122))
   have I3 := hid ((I2.out.belowAll hb3).alloc (.cells (A8 blo) 122))
   have P3 := hid (Blk.new w3 122 (A8 blo))
   have hB3 := B2.out.trans (hb3.mono B2.out.size)
   have B3 := hid (hB3.alloc hB3.size (.cells (A8 blo) 122))
   have HB := hid hblo
   clear hb3 hB3 O2 G2 I2 B2 r1 r2 hblo hol
   go_wp2_with fail
   generalize w3.alloc (.cells (A8 blo) 122) = W3 at *
   generalize w3.heap.size = p3 at *
   have R3 := hid (P3.out.rd8 64 (by omega) (by rw [hbl]; unfold maxLen; omega))
   rw [hbl, List.take_of_length_le (by omega)] at R3
   refine (xor_any _ _ _ _ _ _ _ _ W3 (R.out.below B3.out) R3.out (by omega)).mono ?_
   rintro e w4 ⟨pv, rfl, hpo, hb4⟩
   obtain ⟨pa, pc, hpv, hpr, hpl⟩ := hpo.rd
   subst hpv
   have hxl : (xorl (l.drop (64 * m)) blo).length = min n 64 := by rw [xorl_length, hbl, R.out.1]
   rw [hxl] at hpr ⊢
   obtain ⟨k, hk'⟩ : ∃ k, k = min n 64 := ⟨_, rfl⟩
   rw [← hk'] at hpr ⊢
   have hcl : (cryptOf key nonce r.toNat l).length = l.length := by rw [cryptOf, streamOf_length]
   have hcut := N0.out
   have hll := Hr.out.1
   have O4 := hid (O3.out.below hb4)
   have G4 := hid (G3.out.belowAll hb4)
   have I4 := hid (I3.out.belowAll hb4)
   have hB4 := B3.out.trans (hb4.mono B3.out.size)
   have B4 := hid hB4
   have PR := hid hpr
   have hlen : ((cryptOf key nonce r.toNat l).take (64 * m)).length + k ≤ 140737488355328 := by simp [hcl]; omega
   have HLEN := hid hlen
   have hkn : k ≤ n := by omega
   have HKN := hid hkn
   have KK := hid hk'
   have LL := hid hll
   clear hb4 hpr hpl hpo hB4 hxl hcl hcut hll hk' hlen hkn O3 G3 I3 P3 R3 B3
   go_upto_region 14 with fail
   refine wp_region_plain [0,0,2,0] rfl (fun ops' K2 hK2 => ?_)
   repeat
    (first
     | (with_reducible refine z_move (a' := ?_) ?_ ?_); rotate_left
     | (with_reducible refine z_assign (a' := ?_) ?_ ?_); rotate_left
     | (with_reducible refine z_obl (v := ?_) (a' := ?_) rfl (fun _ => ?_) ?_ ?_); rotate_left 2; (focus (go_simp; (try go_bits); exact rfl))
     | (with_reducible refine z_read (v := ?_) (a' := ?_) rfl ?_ ?_ ?_); rotate_left 2; (focus (go_simp; (try go_bits); exact rfl)))
    focus (simp only [Act.put, zz1, zz2, zz3, Act.eval, zz4, zz5, zz6, zz7, zz8]; exact rfl)
   refine z_append8 O4.out PR.out rfl rfl Tryz.underlying22 info8 HLEN.out (by have := I4.out.lt; omega) (fun w5 v5 o5 g5 b5 => ?_)
   simp only [Act.put, zz1, zz2, zz3]
   repeat
    (first
     | (with_reducible refine z_move (a' := ?_) ?_ ?_); rotate_left
     | (with_reducible refine z_assign (a' := ?_) ?_ ?_); rotate_left
     | (with_reducible refine z_obl (v := ?_) (a' := ?_) rfl (fun _ => ?_) ?_ ?_); rotate_left 2; (focus (go_simp; (try go_bits); exact rfl))
     | (with_reducible refine z_read (v := ?_) (a' := ?_) rfl ?_ ?_ ?_); rotate_left 2; (focus (go_simp; (try go_bits); exact rfl)))
    focus (simp only [Act.put, zz1, zz2, zz3, Act.eval, zz4, zz5, zz6, zz7, zz8]; exact rfl)
   refine z_nil (hK2 _ _ ?_)
   rw [show cryptOf key nonce r.toNat l = streamOf (numbered (ownOf key nonce (r.toNat / 2)) nonce (r.toNat / 2)) l from rfl] at o5
   rw [show xorl (l.drop (64 * m)) blo = xorl (l.drop (64 * m)) (numbered (ownOf key nonce (r.toNat / 2)) nonce (r.toNat / 2) m) by rw [HB.out, HIN.out, HO.out, numbered, HY.out], streamOf_step _ _ _ (by rw [HO.out, numbered, ← HY.out, ← HIN.out, ← HB.out]; exact hbl)] at o5
   have O5 := hid o5
   have G5 := hid (G4.out.grown g5 (O4.out.apart (by omega)))
   have I5 := hid (I4.out.grown g5 (O4.out.apart (by omega)))
   have B5 := hid (B4.out.trans (b5.mono (by omega)))
   have R5 := hid (R.out.cut (j := k) (k := n) HKN.out (Nat.le_refl _))
   have nc : (n : Int) ≤ (c : Int) := by have := R.out.2.1; omega
   have kn : (k : Int) ≤ (n : Int) := by have := HKN.out; omega
   have k0 : (0 : Int) ≤ (k : Int) := by omega
   clear o5 g5 b5 O4 G4 I4 B4 R PR
   go_wp2
   all_goals
    go_step3
    refine ⟨rfl, ⟨m + 1, n - k, y + 1#64, _, _, v5, le64 y, g, gi, ex_frame _ rfl, by rw [HY.out]; simp [BitVec.ofNat_add], by have := N0.out; have := KK.out; omega, ?_, le64_length y, G5.out, by rw [← HIN.out]; exact I5.out, O5.out, B5.out, h1, h2⟩, ?_⟩
    ·have h5 := R5.out
     have e5 : (List.drop (64 * m) l).length = n := by rw [List.length_drop, N0.out]
     rw [List.take_of_length_le (by omega), List.drop_drop] at h5
     have e6 : (l.drop (64 * m + k)) = l.drop (64 * (m + 1)) := by
      have := N0.out
      have := KK.out
      by_cases h6 : n ≤ 64
      ·rw [List.drop_eq_nil_of_le (by omega), List.drop_eq_nil_of_le (by omega)]
      ·rw [show 64 * m + k = 64 * (m + 1) by omega]
     rw [e6] at h5
     by_cases hck : c = k
     ·first | (exfalso; exact ‹¬ c = k› hck) | simpa [hck] using h5
     ·first | (exfalso; exact hck ‹c = k›) | simpa [hck] using h5
    ·simp [sliceLen]
     have := KK.out
     omega
end Go.Proofs.YtpifdkkhdgbcdaaGreatDoor
