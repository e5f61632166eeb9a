/- What math/bits.RotateLeft32 makes of a number, turned by 0 to 31. -/
import Derived.Test.YtpifdkkhdgbcdaaGreatDoorRows
import Derived.Test.YtpifdkkhdgbcdaaGreatDoorMGa
import Derived.Test.YtpifdkkhdgbcdaaGreatDoorMGb
import Derived.Test.YtpifdkkhdgbcdaaGreatDoorMGt
namespace Go.Proofs.YtpifdkkhdgbcdaaGreatDoor
open Lib (hid)
set_option linter.unusedSimpArgs false
set_option maxRecDepth 100000
set_option maxHeartbeats 1600000
open Go.RowKit
theorem amt_and31 (k : Int) (h0 : 0 ≤ k) (h1 : k < 32) : amt (BitVec.ofInt 64 k &&& 31#64) = k.toNat := by
 obtain ⟨m, rfl⟩ := Int.eq_ofNat_of_zero_le h0
 have hm : m < 32 := by omega
 unfold amt
 rw [BitVec.ofInt_natCast, Int.toNat_natCast]
 have : ∀ i : Fin 32, (BitVec.ofNat 64 i.1 &&& 31#64).toNat = i.1 := by decide
 exact this ⟨m, hm⟩
theorem amt_sub32 (k : Int) (h0 : 0 ≤ k) (h1 : k < 32) : amt (32#64 - (BitVec.ofInt 64 k &&& 31#64)) = 32 - k.toNat := by
 obtain ⟨m, rfl⟩ := Int.eq_ofNat_of_zero_le h0
 have hm : m < 32 := by omega
 unfold amt
 rw [BitVec.ofInt_natCast, Int.toNat_natCast]
 have : ∀ i : Fin 32, (32#64 - (BitVec.ofNat 64 i.1 &&& 31#64)).toNat = 32 - i.1 := by decide
 exact this ⟨m, hm⟩
def rotl32 (x : BitVec 32) (k : Nat) : BitVec 32 := x <<< k ||| x >>> (32 - k)
theorem rot32_any (x : BitVec 32) (k : Int) (w : World) (h0 : 0 ≤ k) (h1 : k < 32) :
  Calls Tryz.prog 89 #[v32 x, .int .i64 k] w fun e w' => e = .returned (v32 (rotl32 x k.toNat)) ∧ w = w' := by
 go_enter Tryz.func89, Tryz.ntmps89
 go_wp2
 go_ret
 refine ⟨?_, rfl⟩
 show Ending.returned (v32 (x <<< amt (BitVec.ofInt 64 k &&& 31#64) ||| x >>> amt (32#64 - (BitVec.ofInt 64 k &&& 31#64)))) = _
 rw [amt_and31 k h0 h1, amt_sub32 k h0 h1]; rfl
open Go.RowKit
def qstep (a b d : BitVec 32) (k : Nat) : BitVec 32 × BitVec 32 := (a + b, rotl32 (d ^^^ (a + b)) k)
theorem step_any (a b d : BitVec 32) (k : Int) (w : World) (h0 : 0 ≤ k) (h1 : k < 32) :
  Calls Tryz.prog 87 #[v32 a, v32 b, v32 d, .int .i64 k] w fun e w' => e = .returned (.tuple #[v32 (qstep a b d k.toNat).1, v32 (qstep a b d k.toNat).2]) ∧ w = w' := by
 go_enter Tryz.func87, Tryz.ntmps87
 go_wp2_with (go_at_call 89; refine (rot32_any _ _ _ h0 h1).mono ?_; rintro e w' ⟨rfl, rfl⟩)
 go_ret2
 exact ⟨rfl, rfl⟩
def quarter (a b c d : BitVec 32) : BitVec 32 × BitVec 32 × BitVec 32 × BitVec 32 :=
 let a1 := a + b
 let d1 := rotl32 (d ^^^ a1) 16
 let c1 := c + d1
 let b1 := rotl32 (b ^^^ c1) 12
 let a2 := a1 + b1
 let d2 := rotl32 (d1 ^^^ a2) 8
 let c2 := c1 + d2
 let b2 := rotl32 (b1 ^^^ c2) 7
 (a2, b2, c2, d2)
theorem quarter_any (a b c d : BitVec 32) (w : World) :
  Calls Tryz.prog 83 #[v32 a, v32 b, v32 c, v32 d] w fun e w' => e = .returned (.tuple #[v32 (quarter a b c d).1, v32 (quarter a b c d).2.1, v32 (quarter a b c d).2.2.1, v32 (quarter a b c d).2.2.2]) ∧ w = w' := by
 go_enter Tryz.func83, Tryz.ntmps83
 go_wp2_with (go_at_call 87; refine (step_any _ _ _ _ _ (by omega) (by omega)).mono ?_; rintro e w' ⟨rfl, rfl⟩)
 refine bodyPost_ret (results_tmp4 rfl _ _ _) rfl ?_
 exact ⟨rfl, rfl⟩
open Go.RowKit
def qround (s : List (BitVec 32)) (i j k l : Nat) : List (BitVec 32) :=
 let q := quarter (nth s i) (nth s j) (nth s k) (nth s l)
 (((s.set i q.1).set j q.2.1).set k q.2.2.1).set l q.2.2.2
theorem qround_length (s : List (BitVec 32)) (i j k l : Nat) : (qround s i j k l).length = s.length := by simp [qround]
def slantTo (s : List (BitVec 32)) (b : Nat) : Nat → List (BitVec 32)
 | 0 => s
 | i + 1 => qround (slantTo s b i) i (4 + (i + b) % 4) (8 + (i + 2 * b) % 4) (12 + (i + 3 * b) % 4)
theorem slantTo_length (s : List (BitVec 32)) (b i : Nat) : (slantTo s b i).length = s.length := by
 induction i with
 | zero => rfl
 | succ i ih => rw [slantTo, qround_length, ih]
theorem slant_any (s : List (BitVec 32)) (g b : Nat) (w : World) (hs : s.length = 16) (hb : Blk w g 152 (A32 s)) (hb1 : b ≤ 1) :
  Calls Tryz.prog 78 #[.pointer (some ⟨g, 0, none⟩), .int .i64 b] w fun e w' => e = .returned (.tuple #[]) ∧ w.grownBy w' (some g) ∧ Blk w' g 152 (A32 (slantTo s b 4)) := by
 have Hb := hid hb
 clear hb
 go_enter Tryz.func78, Tryz.ntmps78
 go_wp2
 go_loopw [8] (fun i wr => ∃ j : Nat, j ≤ 4 ∧ i = .int .i64 j ∧ Blk wr g 152 (A32 (slantTo s b j)) ∧ w.grownBy wr (some g)) (fun i _ => 4 - (intOf i).toNat)
 case atStart => exact ⟨0, Nat.zero_le _, rfl, Hb.out, grown_refl _ _⟩
 case round =>
  obtain ⟨i, hi, rfl, hblk, hgr⟩ := hrel
  have Hg := hid hgr
  have Hk := hid hblk
  clear hgr hblk
  by_cases hi4 : i < 4
  ·go_wp2_with fail
   obtain ⟨j, hj⟩ : ∃ j : Nat, j = 4 + (i + b) % 4 := ⟨_, rfl⟩
   obtain ⟨k, hk⟩ : ∃ k : Nat, k = 8 + (i + 2 * b) % 4 := ⟨_, rfl⟩
   obtain ⟨m, hm⟩ : ∃ m : Nat, m = 12 + (i + 3 * b) % 4 := ⟨_, rfl⟩
   rw [show (4 + ((i : Int) + (b : Int)) % 4) = (j : Int) by omega, show (8 + ((i : Int) + 2 * (b : Int)) % 4) = (k : Int) by omega, show (12 + ((i : Int) + 3 * (b : Int)) % 4) = (m : Int) by omega]
   have Hj := hid hj
   have Hkk := hid hk
   have Hm := hid hm
   have bj : j < 16 := by omega
   have bk : k < 16 := by omega
   have bm : m < 16 := by omega
   have bi : i < 16 := by omega
   have cj : (j : Int) < 16 := by omega
   have ck : (k : Int) < 16 := by omega
   have cm : (m : Int) < 16 := by omega
   have ci : (i : Int) < 16 := by omega
   have n1 : (0 : Int) ≤ j := by omega
   have n2 : (0 : Int) ≤ k := by omega
   have n3 : (0 : Int) ≤ m := by omega
   have n4 : (0 : Int) ≤ i := by omega
   clear hj hk hm
   have hl : (slantTo s b i).length = 16 := by rw [slantTo_length, hs]
   have hblk := Hk.out
   have hc := hblk.cell32 hl
   have HL := hid hl
   have Hblk := hid hblk
   clear hl hblk Hk
   refine wp_region_text' [0,0,0,0,0,0,0,0, 0,0,0,0,1, 0,0,0,0,1, 0,0,0,0,1, 0,0,0,0,1, 3,0,0,0,0,0, 0,0,2, 0,0,2, 0,0,2, 0,0,2] (by kernel_rfl) (by kernel_rfl) (fun ops' K' hK' => ?_)
   repeat
    (first
     | (with_reducible refine z_move (a' := ?_) ?_ ?_); rotate_left
     | (with_reducible refine z_assign (a' := ?_) ?_ ?_); rotate_left
     | (with_reducible refine z_obl (v := ?_) (a' := ?_) rfl (fun _ => ?_) ?_ ?_); rotate_left 2; (focus (go_simp; (try go_bits); exact rfl))
     | (with_reducible refine z_read (v := ?_) (a' := ?_) rfl ?_ ?_ ?_); rotate_left 2; (focus (go_simp; (try go_bits); exact rfl)))
    focus (simp only [Act.put, zz1, zz2, zz3, Act.eval, zz4, zz5, zz6, zz7, zz8]; exact rfl)
   ((with_reducible refine z_call (v := ?_) (a' := ?_) rfl (fun _ => ?_) ?_ ?_); rotate_left; rotate_left)
   ·go_simp
    refine enters_of ?_
    exact quarter_any _ _ _ _ _
   ·(simp only [Act.put, zz1, zz2, zz3, Act.eval, zz4, zz5, zz6, zz7, zz8]; exact rfl)
   clear hc
   repeat
    (first
     | (with_reducible refine z_move (a' := ?_) ?_ ?_); rotate_left
     | (with_reducible refine z_assign (a' := ?_) ?_ ?_); rotate_left
     | (with_reducible refine z_obl (v := ?_) (a' := ?_) rfl (fun _ => ?_) ?_ ?_); rotate_left 2; (focus (go_simp; (try go_bits); exact rfl))
     | (with_reducible refine z_read (v := ?_) (a' := ?_) rfl ?_ ?_ ?_); rotate_left 2; (focus (go_simp; (try go_bits); exact rfl)))
    focus (simp only [Act.put, zz1, zz2, zz3, Act.eval, zz4, zz5, zz6, zz7, zz8]; exact rfl)
   refine z_store32 Hblk.out.drew rfl rfl (by rw [HL.out]; omega) (Tryz.sizeOf59 _) (fun w1 hb1 hg1 _ => ?_)
   have Hb1 := hid hb1
   have Hg1 := hid hg1
   clear hb1 hg1
   repeat
    (first
     | (with_reducible refine z_move (a' := ?_) ?_ ?_); rotate_left
     | (with_reducible refine z_assign (a' := ?_) ?_ ?_); rotate_left
     | (with_reducible refine z_obl (v := ?_) (a' := ?_) rfl (fun _ => ?_) ?_ ?_); rotate_left 2; (focus (go_simp; (try go_bits); exact rfl))
     | (with_reducible refine z_read (v := ?_) (a' := ?_) rfl ?_ ?_ ?_); rotate_left 2; (focus (go_simp; (try go_bits); exact rfl)))
    focus (simp only [Act.put, zz1, zz2, zz3, Act.eval, zz4, zz5, zz6, zz7, zz8]; exact rfl)
   refine z_store32 Hb1.out rfl rfl (by simp [HL.out]; omega) (Tryz.sizeOf59 _) (fun w2 hb2 hg2 _ => ?_)
   have Hb2 := hid hb2
   have Hg2 := hid hg2
   clear hb2 hg2
   repeat
    (first
     | (with_reducible refine z_move (a' := ?_) ?_ ?_); rotate_left
     | (with_reducible refine z_assign (a' := ?_) ?_ ?_); rotate_left
     | (with_reducible refine z_obl (v := ?_) (a' := ?_) rfl (fun _ => ?_) ?_ ?_); rotate_left 2; (focus (go_simp; (try go_bits); exact rfl))
     | (with_reducible refine z_read (v := ?_) (a' := ?_) rfl ?_ ?_ ?_); rotate_left 2; (focus (go_simp; (try go_bits); exact rfl)))
    focus (simp only [Act.put, zz1, zz2, zz3, Act.eval, zz4, zz5, zz6, zz7, zz8]; exact rfl)
   refine z_store32 Hb2.out rfl rfl (by simp [HL.out]; omega) (Tryz.sizeOf59 _) (fun w3 hb3 hg3 _ => ?_)
   have Hb3 := hid hb3
   have Hg3 := hid hg3
   clear hb3 hg3
   repeat
    (first
     | (with_reducible refine z_move (a' := ?_) ?_ ?_); rotate_left
     | (with_reducible refine z_assign (a' := ?_) ?_ ?_); rotate_left
     | (with_reducible refine z_obl (v := ?_) (a' := ?_) rfl (fun _ => ?_) ?_ ?_); rotate_left 2; (focus (go_simp; (try go_bits); exact rfl))
     | (with_reducible refine z_read (v := ?_) (a' := ?_) rfl ?_ ?_ ?_); rotate_left 2; (focus (go_simp; (try go_bits); exact rfl)))
    focus (simp only [Act.put, zz1, zz2, zz3, Act.eval, zz4, zz5, zz6, zz7, zz8]; exact rfl)
   refine z_store32 Hb3.out rfl rfl (by simp [HL.out]; omega) (Tryz.sizeOf59 _) (fun w4 hb4 hg4 _ => ?_)
   have Hb4 := hid hb4
   have Hg4 := hid hg4
   clear hb4 hg4
   refine z_nil (hK' _ _ ?_)
   go_wp2
   refine ⟨⟨i + 1, by omega, by go_num, ?_, grown_trans Hg.out (grown_trans (grown_trans (grown_trans (grown_trans (grown_drew (grown_refl _ _)) Hg1.out) Hg2.out) Hg3.out) Hg4.out)⟩, by simp [intOf]; omega⟩
   rw [slantTo, ← Hj.out, ← Hkk.out, ← Hm.out]
   exact Hb4.out
  ·obtain rfl : i = 4 := by omega
   go_wp2
   go_end0
   exact ⟨rfl, Hg.out, Hk.out⟩
def twice (s : List (BitVec 32)) : List (BitVec 32) := slantTo (slantTo s 0 4) 1 4
theorem twice_length (s : List (BitVec 32)) : (twice s).length = s.length := by rw [twice, slantTo_length, slantTo_length]
def mixTo (s : List (BitVec 32)) : Nat → List (BitVec 32)
 | 0 => s
 | n + 1 => twice (mixTo s n)
theorem mixTo_length (s : List (BitVec 32)) (n : Nat) : (mixTo s n).length = s.length := by
 induction n with
 | zero => rfl
 | succ n ih => rw [mixTo, twice_length, ih]
open Go.RowKit
theorem slant0_any (s : List (BitVec 32)) (g : Nat) (w : World) (hs : s.length = 16) (hb : Blk w g 152 (A32 s)) :
  Calls Tryz.prog 78 #[.pointer (some ⟨g, 0, none⟩), .int .i64 0] w fun e w' => e = .returned (.tuple #[]) ∧ w.grownBy w' (some g) ∧ Blk w' g 152 (A32 (slantTo s 0 4)) := slant_any s g 0 w hs hb (by omega)
theorem slant1_any (s : List (BitVec 32)) (g : Nat) (w : World) (hs : s.length = 16) (hb : Blk w g 152 (A32 s)) :
  Calls Tryz.prog 78 #[.pointer (some ⟨g, 0, none⟩), .int .i64 1] w fun e w' => e = .returned (.tuple #[]) ∧ w.grownBy w' (some g) ∧ Blk w' g 152 (A32 (slantTo s 1 4)) := slant_any s g 1 w hs hb (by omega)
theorem mixed_any (s : List (BitVec 32)) (r : Int) (w : World) (hs : s.length = 16) (hr0 : 0 ≤ r) (hr : r ≤ 20) :
  Calls Tryz.prog 68 #[.agg (A32 s), .int .i64 r] w fun e w' => e = .returned (.agg (A32 (mixTo s (r.toNat / 2)))) ∧ Below w.heap.size w w' := by
 have Hs := hid hs
 obtain ⟨n, rfl⟩ := Int.eq_ofNat_of_zero_le hr0
 obtain ⟨q, hq⟩ : ∃ q : Nat, q = n / 2 := ⟨_, rfl⟩
 have hqi : (n : Int) / 2 = (q : Int) := by omega
 have Hq := hid hq
 clear hq
 go_enter Tryz.func68, Tryz.ntmps68
 go_wp2
 go_loopw [7] (fun i wr => ∃ j : Nat, j ≤ q ∧ i = .int .i64 j ∧ Blk wr w.heap.size 152 (A32 (mixTo s j)) ∧ Blk wr (w.heap.size + 1) 152 (A32 (zeros 32 16)) ∧ Below w.heap.size w wr) (fun i _ => q - (intOf i).toNat)
 case atStart => exact ⟨0, Nat.zero_le _, rfl, (Blk.new _ _ _).alloc _, (by have h := Blk.new (w.alloc (.cells (A32 s) 152)) 152 (A32 (zeros 32 16)); rw [World.size_alloc] at h; exact h), ((Below.refl _ _).alloc (Nat.le_refl _) _).alloc (by simp) _⟩
 case round =>
  obtain ⟨j, hj, rfl, hb1, hb2, hbel⟩ := hrel
  have H1 := hid hb1
  have H2 := hid hb2
  have H3 := hid hbel
  have hl : (mixTo s j).length = 16 := by rw [mixTo_length, hs]
  have Hl := hid hl
  clear hb1 hb2 hbel
  by_cases hlt : j < q
  ·clear hl
   go_wp2_with fail
   refine (slant0_any _ _ _ Hl.out H1.out).mono ?_
   rintro e w1 ⟨rfl, hg1, hk1⟩
   have G1 := hid hg1
   have K1 := hid hk1
   clear hg1 hk1
   go_wp2_with fail
   refine (slant1_any _ _ _ (by rw [slantTo_length]; exact Hl.out) K1.out).mono ?_
   rintro e w2 ⟨rfl, hg2, hk2⟩
   have G2 := hid hg2
   have K2 := hid hk2
   clear hg2 hk2
   go_wp2
   exact ⟨⟨j + 1, by omega, by go_num, K2.out, (H2.out.grown G1.out (by simp)).grown G2.out (by simp), (H3.out.trans (grown_below G1.out (Nat.le_refl _) H3.out.size)).trans (grown_below G2.out (Nat.le_refl _) (Nat.le_trans H3.out.size G1.out.size))⟩, by simp [intOf]; omega⟩
  ·obtain rfl : j = q := by omega
   have r1 := H1.out.row
   have r2 := H2.out.row
   have r3 := H2.out.whole
   go_wp2
   refine bodyPost_row (A32 (mixTo s j)) rfl rfl rfl (Tryz.isAgg152 _) (Tryz.sizeOf152 _) (by rw [A32_size]; exact Hl.out) (rowAt_setRow _ r3) ⟨?_, below_setRow H3.out (by omega) _⟩
   rw [Int.toNat_natCast, ← Hq.out]
theorem known_yes (r : Int) (w : World) (h : r = 8 ∨ r = 12 ∨ r = 20) :
  Calls Tryz.prog 66 #[.int .i64 r] w fun e w' => e = .returned (.int .i64 0) ∧ w = w' := by
 rcases h with rfl | rfl | rfl
 all_goals
  go_enter Tryz.func66, Tryz.ntmps66
  go_wp2
  go_ret
  exact ⟨rfl, rfl⟩
open Go.RowKit
def bytes32 (l : List (BitVec 32)) : List (BitVec 8) := l.flatMap le32
theorem bytes32_length (l : List (BitVec 32)) : (bytes32 l).length = 4 * l.length := by
 induction l with
 | nil => rfl
 | cons x l ih => simp only [bytes32, List.flatMap_cons, List.length_append, le32_length, List.length_cons] at *; omega
theorem bytes32_append (a b : List (BitVec 32)) : bytes32 (a ++ b) = bytes32 a ++ bytes32 b := by simp [bytes32]
theorem splc_splc {n : Nat} (m : List (BitVec n)) (o : Nat) (x y : List (BitVec n)) (h : o + x.length + y.length ≤ m.length) : splc (splc m o x) (o + x.length) y = splc m o (x ++ y) := by
 have hx := splc_length m o x (by omega)
 apply ext_nth
 ·rw [splc_length _ _ _ (by omega), hx, splc_length _ _ _ (by simp; omega)]
 ·intro i _
  rw [nth_splc _ _ _ (by omega), nth_splc _ _ _ (by omega), nth_splc _ _ _ (by simp; omega), nth_append]
  simp only [List.length_append]
  by_cases h1 : i < o
  ·rw [if_neg (by omega), if_neg (by omega), if_neg (by omega)]
  ·by_cases h2 : i < o + x.length
   ·rw [if_neg (by omega), if_pos (by omega), if_pos (by omega), if_pos (by omega)]
   ·by_cases h3 : i < o + x.length + y.length
    ·rw [if_pos (by omega), if_pos (by omega), if_neg (by omega)]
     congr 1; omega
    ·rw [if_neg (by omega), if_neg (by omega), if_neg (by omega)]
theorem take_succ_nth {n : Nat} (l : List (BitVec n)) (j : Nat) (h : j < l.length) : l.take (j + 1) = l.take j ++ [nth l j] := by
 rw [List.take_succ_eq_append_getElem h, nth_get h]
theorem chput_any (s : List (BitVec 32)) (m : List (BitVec 8)) (g o L C h off n c : Nat) (t T : TypeId) (w : World) (hb : Blk w g t (A8 m)) (hs : Blk w h T (A32 s)) (hne : h ≠ g) (hoff : off + n ≤ s.length) (hL : 4 * n ≤ L) (hLC : L ≤ C) (hC : C ≤ 1000000) (ho : o + 4 * n ≤ m.length) :
  Calls Tryz.prog 69 #[.slice (some ⟨g, o, none⟩) L C, .slice (some ⟨h, off, none⟩) n c] w fun e w' => e = .returned (.tuple #[]) ∧ w.grownBy w' (some g) ∧ Blk w' g t (A8 (splc m o (bytes32 ((s.drop off).take n)))) := by
 have Hb := hid hb
 have Hs := hid hs
 clear hb hs
 go_enter Tryz.func69, Tryz.ntmps69
 go_wp2
 go_loopw [9] (fun i wr => ∃ j : Nat, j ≤ n ∧ i = .int .i64 j ∧ Blk wr g t (A8 (splc m o (bytes32 ((s.drop off).take j)))) ∧ w.grownBy wr (some g)) (fun i _ => n - (intOf i).toNat)
 case atStart => exact ⟨0, Nat.zero_le _, rfl, by rw [List.take_zero, show bytes32 [] = [] from rfl, splc_nil]; exact Hb.out, grown_refl _ _⟩
 case round =>
  obtain ⟨j, hj, rfl, hblk, hgr⟩ := hrel
  have Hk := hid hblk
  have Hg := hid hgr
  clear hblk hgr
  by_cases hjn : j < n
  ·have hx : wr.cell? ⟨h, off + j, none⟩ = some (v32 (nth (s.drop off) j)) := by
    rw [nth_drop]
    exact (Hs.out.grown Hg.out (by simpa using hne)).cell32 rfl _ (by omega)
   have i1 : (j : Int) < (n : Int) := by omega
   have i0 : (0 : Int) ≤ (j : Int) := by omega
   go_wp2_with fail
   refine (putword_any _ _).mono ?_
   rintro e w1 ⟨rfl, hb1⟩
   have B1 := hid hb1
   have s1 := hb1.size
   clear hb1 hx
   go_wp2_with fail
   have hnc : ¬ C = 4 * j := by omega
   have c1 : (4 * (j : Int)) ≤ (L : Int) := by omega
   have c0 : (0 : Int) ≤ 4 * (j : Int) := by omega
   have c2 : (4 * (j : Int)).toNat = 4 * j := by omega
   refine wp_region_text' [0,0,0,0,0,2] (by kernel_rfl) (by kernel_rfl) (fun ops' K' hK' => ?_)
   repeat
    (first
     | (with_reducible refine z_move (a' := ?_) ?_ ?_); rotate_left
     | (with_reducible refine z_assign (a' := ?_) ?_ ?_); rotate_left
     | (with_reducible refine z_obl (v := ?_) (a' := ?_) rfl (fun _ => ?_) ?_ ?_); rotate_left 2; (focus (go_simp; (try go_bits); exact rfl))
     | (with_reducible refine z_read (v := ?_) (a' := ?_) rfl ?_ ?_ ?_); rotate_left 2; (focus (go_simp; (try go_bits); exact rfl)))
    focus (simp only [Act.put, zz1, zz2, zz3, Act.eval, zz4, zz5, zz6, zz7, zz8]; exact rfl)
   have K1 := (Hk.out.belowAll B1.out).alloc (.cells (A8 (le32 (nth (s.drop off) j))) 65)
   have R1 := (Blk.new w1 65 (A8 (le32 (nth (s.drop off) j)))).rd8 4 (by simp) (by simp [maxLen])
   rw [List.take_of_length_le (by simp)] at R1
   have hpl : (bytes32 ((s.drop off).take j)).length = 4 * j := by rw [bytes32_length]; simp; omega
   have e4 : min 4 (L - 4 * j) = 4 := by omega
   refine z_copy8 K1.drew R1.drew rfl rfl Tryz.underlying22 size8 ?_ ?_
   ·rw [splc_length _ _ _ (by omega)]; omega
   rintro w2 v k2 g2 _
   have e5 := splc_splc m o (bytes32 ((s.drop off).take j)) (le32 (nth (s.drop off) j)) (by rw [hpl]; simp; omega)
   have e6 : bytes32 ((s.drop off).take j) ++ le32 (nth (s.drop off) j) = bytes32 ((s.drop off).take (j + 1)) := by
    rw [take_succ_nth _ _ (by simp; omega), bytes32_append]; simp [bytes32]
   rw [e4, List.take_of_length_le (l := le32 _) (by simp), ← hpl, e5, e6] at k2
   have K2 := hid k2
   have G2 := hid g2
   clear k2 g2 e5 e6 e4 hpl R1 K1 c0 c1 c2 hnc
   refine z_nil (hK' _ _ ?_)
   go_wp2
   exact ⟨⟨j + 1, by omega, by go_num, K2.out, grown_trans Hg.out (grown_trans (below_grown B1.out _) (grown_trans (World.grownBy_alloc _ _ _) (grown_trans (grown_drew (grown_refl _ _)) G2.out)))⟩, by simp [intOf]; omega⟩
  ·obtain rfl : j = n := by omega
   go_wp2
   go_end0
   exact ⟨rfl, Hg.out, Hk.out⟩
end Go.Proofs.YtpifdkkhdgbcdaaGreatDoor
