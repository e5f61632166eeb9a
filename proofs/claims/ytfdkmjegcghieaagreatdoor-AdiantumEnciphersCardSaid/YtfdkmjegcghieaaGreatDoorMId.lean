/- numbers of 16 bits as the model's ints. No program in sight. -/
import Derived.Test.YtfdkmjegcghieaaGreatDoorMGa
import Derived.Test.YtfdkmjegcghieaaGreatDoorMAesS
import Derived.Test.YtfdkmjegcghieaaGreatDoorMGc
import Derived.WalkMore
namespace Go.Proofs.YtfdkmjegcghieaaGreatDoor
open Lib (hid)
set_option linter.unusedSimpArgs false
set_option maxRecDepth 100000
set_option maxHeartbeats 1600000
open Go.RowKit
def i16 (x : BitVec 16) : Value := .int .i64 (x.toNat : Int)
theorem ofInt64_16 (a : BitVec 16) : BitVec.ofInt 64 (a.toNat : Int) = a.setWidth 64 := by
 rw [BitVec.ofInt_natCast]; apply BitVec.eq_of_toNat_eq; simp
@[go_sem high] theorem i16_xor (t : TypeId) (a b : BitVec 16) : binOp .xor t (i16 a) (i16 b) = pure (i16 (a ^^^ b)) := by
 simp only [i16, binOp_xor, Op.intBits]
 have h := (a ^^^ b).isLt
 have e : (BitVec.ofInt IntKind.i64.bits (a.toNat : Int) ^^^ BitVec.ofInt IntKind.i64.bits (b.toNat : Int)).toNat = (a ^^^ b).toNat := by
  show (BitVec.ofInt 64 (a.toNat : Int) ^^^ BitVec.ofInt 64 (b.toNat : Int)).toNat = _
  rw [ofInt64_16, ofInt64_16, ← BitVec.setWidth_xor, BitVec.toNat_setWidth]; omega
 rw [e, IntWalk.i64_in _ (by omega)]
@[go_sem high] theorem i16_shl (t : TypeId) (yk : IntKind) (a : BitVec 8) (m : Nat) (hm : m ≤ 8) : binOp .shl t (.int .i64 (a.toNat : Int)) (.int yk (m : Int)) = pure (i16 (a.setWidth 16 <<< m)) := by
 have h := a.isLt
 have e : (a.setWidth 16 <<< m).toNat = a.toNat * 2 ^ m := by
  have h1 : 2 ^ m ≤ 2 ^ 8 := Nat.pow_le_pow_right (by omega) hm
  have h2 : a.toNat * 2 ^ m ≤ 255 * 2 ^ 8 := Nat.mul_le_mul (by omega) h1
  rw [BitVec.toNat_shiftLeft, BitVec.toNat_setWidth, Nat.shiftLeft_eq, Nat.mod_eq_of_lt (show a.toNat < 2 ^ 16 by omega), Nat.mod_eq_of_lt (by omega)]
 have h1 : 2 ^ m ≤ 2 ^ 8 := Nat.pow_le_pow_right (by omega) hm
 have h2 : a.toNat * 2 ^ m ≤ 255 * 2 ^ 8 := Nat.mul_le_mul (by omega) h1
 simp only [i16, binOp, Op.shift, if_neg (show ¬ (m : Int) < 0 by omega), Int.toNat_natCast]
 rw [e, Nat.min_eq_left (show m ≤ IntKind.i64.bits by show m ≤ 64; omega), show ((a.toNat : Int) * 2 ^ m) = ((a.toNat * 2 ^ m : Nat) : Int) by simp, IntWalk.i64_in _ (by omega)]
@[go_sem high] theorem lit_shl (t : TypeId) (yk : IntKind) (m : Nat) (hm : m ≤ 6) : binOp .shl t (.int .i64 283) (.int yk (m : Int)) = pure (i16 (283#16 <<< m)) := by
 have : m = 0 ∨ m = 1 ∨ m = 2 ∨ m = 3 ∨ m = 4 ∨ m = 5 ∨ m = 6 := by omega
 rcases this with rfl | rfl | rfl | rfl | rfl | rfl | rfl <;> rfl
@[go_sem high] theorem i16_shr (t : TypeId) (yk : IntKind) (a : BitVec 16) (m : Nat) (hm : m ≤ 64) : binOp .shr t (i16 a) (.int yk (m : Int)) = pure (i16 (a >>> m)) := by
 simp only [i16, binOp, Op.shift, if_neg (show ¬ (m : Int) < 0 by omega), Int.toNat_natCast]
 rw [BitVec.toNat_ushiftRight, Nat.shiftRight_eq_div_pow, Int.fdiv_eq_ediv_of_nonneg _ (by exact_mod_cast Nat.zero_le _), Nat.min_eq_left (show m ≤ IntKind.i64.bits from hm)]
 show pure (Value.int .i64 _) = _
 congr 2
@[go_sem high] theorem i16_rem2 (t : TypeId) (a : BitVec 16) : binOp .rem t (i16 a) (.int .i64 2) = pure (i16 (a % 2#16)) := by
 simp [i16, binOp, Op.intDiv, Int.tmod_eq_emod_of_nonneg]
@[go_sem high] theorem i16_eql1 (t : TypeId) (a : BitVec 16) : binOp .eql t (i16 a) (.int .i64 1) = pure (.bool (a == 1#16)) := by
 rw [i16, binOp_eql]; congr 2; rw [Bool.eq_iff_iff, beq_iff_eq, beq_iff_eq]
 constructor
 ·intro h; apply BitVec.eq_of_toNat_eq; simp at h ⊢; omega
 ·intro h; subst h; rfl
@[go_sem high] theorem i16_guard (op : BinOp) (t : TypeId) (x y : Operand) (a : BitVec 16) (v : Value) : eqGuard op t x y (i16 a) v = pure () := by unfold eqGuard i16; split <;> rfl
@[go_sem high] theorem i16_cells (a : BitVec 16) : (i16 a).cells = #[i16 a] := rfl
@[go_sem high] theorem i16_one' (a : BitVec 16) : (i16 a).oneCell' = true := rfl
@[go_sem high] theorem i16_cv8 (x : BitVec 16) {P : Program} (w : World) (s d : TypeId) (hs : P.underlying s = some (.int .i64)) (hd : P.underlying d = some (.int .u8)) : (convert s d (i16 x)).run P w = .ok (v8 (x.setWidth 8)) w := by
 rw [i16, v8_of_int w s d _ hs hd, BitVec.ofInt_natCast]
 congr 2
open Go.RowKit
def pstep (a b : BitVec 8) (n : BitVec 16) (i : Nat) : BitVec 16 := if b.getLsbD i then n ^^^ a.setWidth 16 <<< i else n
def ppr (a b : BitVec 8) : Nat → BitVec 16
 | 0 => 0#16
 | i + 1 => pstep a b (ppr a b i) i
def rstep (n : BitVec 16) (i : Nat) : BitVec 16 := if n.getLsbD i then n ^^^ 283#16 <<< (i - 8) else n
def prs (n : BitVec 16) : Nat → BitVec 16
 | 0 => n
 | t + 1 => rstep (prs n t) (14 - t)
def refT (a b : BitVec 8) : BitVec 8 := (prs (ppr a b 8) 7).setWidth 8
theorem rstep_xor (n m : BitVec 16) (i : Nat) : rstep (n ^^^ m) i = rstep n i ^^^ rstep m i := by
 unfold rstep
 rw [BitVec.getLsbD_xor]
 generalize 283#16 <<< (i - 8) = c
 cases n.getLsbD i <;> cases m.getLsbD i <;> simp
 ·ac_rfl
 ·ac_rfl
 ·rw [show n ^^^ c ^^^ (m ^^^ c) = n ^^^ m ^^^ (c ^^^ c) by ac_rfl, BitVec.xor_self, BitVec.xor_zero]
theorem prs_xor (n m : BitVec 16) : ∀ t, prs (n ^^^ m) t = prs n t ^^^ prs m t
 | 0 => rfl
 | t + 1 => by rw [prs, prs_xor n m t, rstep_xor]; rfl
theorem ppr_xor (a b c : BitVec 8) : ∀ i, ppr a (b ^^^ c) i = ppr a b i ^^^ ppr a c i
 | 0 => (BitVec.xor_self (x := 0#16)).symm
 | i + 1 => by
  rw [ppr, ppr_xor a b c i, ppr, ppr]
  unfold pstep
  rw [BitVec.getLsbD_xor]
  generalize ppr a b i = x
  generalize ppr a c i = y
  generalize a.setWidth 16 <<< i = s
  cases b.getLsbD i <;> cases c.getLsbD i <;> simp
  ·ac_rfl
  ·ac_rfl
  ·rw [show x ^^^ s ^^^ (y ^^^ s) = x ^^^ y ^^^ (s ^^^ s) by ac_rfl, BitVec.xor_self, BitVec.xor_zero]
theorem refT_xor (a b c : BitVec 8) : refT a (b ^^^ c) = refT a b ^^^ refT a c := by
 unfold refT; rw [ppr_xor, prs_xor, BitVec.setWidth_xor]
theorem bits_of8 : ∀ b : BitVec 8, b = (b &&& 1#8) ^^^ (b &&& 2#8) ^^^ (b &&& 4#8) ^^^ (b &&& 8#8) ^^^ (b &&& 16#8) ^^^ (b &&& 32#8) ^^^ (b &&& 64#8) ^^^ (b &&& 128#8) := of_decide_eq_true (by kernel_rfl)
def ones_8 : List (BitVec 8) := [1#8, 2#8, 4#8, 8#8, 16#8, 32#8, 64#8, 128#8]
theorem one_bit_or : ∀ b : BitVec 8, ∀ c ∈ ones_8, b &&& c = 0#8 ∨ b &&& c = c := of_decide_eq_true (by kernel_rfl)
theorem linear8 (f g : BitVec 8 → BitVec 8) (hf : ∀ b c, f (b ^^^ c) = f b ^^^ f c) (hg : ∀ b c, g (b ^^^ c) = g b ^^^ g c) (h : ∀ c ∈ ones_8, f c = g c) (b : BitVec 8) : f b = g b := by
 have z : f 0#8 = g 0#8 := by
  have a := hf 0#8 0#8; have b := hg 0#8 0#8
  rw [BitVec.xor_self, BitVec.xor_self] at a b
  rw [a, b]
 have k : ∀ c ∈ ones_8, f (b &&& c) = g (b &&& c) := by
  intro c hc
  rcases one_bit_or b c hc with e | e <;> rw [e]
  ·exact z
  ·exact h c hc
 rw [bits_of8 b]
 simp only [hf, hg]
 rw [k 1#8 (by decide), k 2#8 (by decide), k 4#8 (by decide), k 8#8 (by decide), k 16#8 (by decide), k 32#8 (by decide), k 64#8 (by decide), k 128#8 (by decide)]
theorem refT_ones : ∀ a : BitVec 8, ∀ c ∈ ones_8, refT a c = gmul a c := of_decide_eq_true (by kernel_rfl)
theorem refT_gmul (a b : BitVec 8) : refT a b = gmul a b := linear8 (refT a) (gmul a) (refT_xor a) (gmul_xor a) (refT_ones a) b
def invT : List (BitVec 8) := [0, 1, 141, 246, 203, 82, 123, 209, 232, 79, 41, 192, 176, 225, 229, 199, 116, 180, 170, 75, 153, 43, 96, 95, 88, 63, 253, 204, 255, 64, 238, 178, 58, 110, 90, 241, 85, 77, 168, 201, 193, 10, 152, 21, 48, 68, 162, 194, 44, 69, 146, 108, 243, 57, 102, 66, 242, 53, 32, 111, 119, 187, 89, 25, 29, 254, 55, 103, 45, 49, 245, 105, 167, 100, 171, 19, 84, 37, 233, 9, 237, 92, 5, 202, 76, 36, 135, 191, 24, 62, 34, 240, 81, 236, 97, 23, 22, 94, 175, 211, 73, 166, 54, 67, 244, 71, 145, 223, 51, 147, 33, 59, 121, 183, 151, 133, 16, 181, 186, 60, 182, 112, 208, 6, 161, 250, 129, 130, 131, 126, 127, 128, 150, 115, 190, 86, 155, 158, 149, 217, 247, 2, 185, 164, 222, 106, 50, 109, 216, 138, 132, 114, 42, 20, 159, 136, 249, 220, 137, 154, 251, 124, 46, 195, 143, 184, 101, 72, 38, 200, 18, 74, 206, 231, 210, 98, 12, 224, 31, 239, 17, 117, 120, 113, 165, 142, 118, 61, 189, 188, 134, 87, 11, 40, 47, 163, 218, 212, 228, 15, 169, 39, 83, 4, 27, 252, 172, 230, 122, 7, 174, 99, 197, 219, 226, 234, 148, 139, 196, 213, 157, 248, 144, 107, 177, 13, 214, 235, 198, 14, 207, 173, 8, 78, 215, 227, 93, 80, 30, 179, 91, 35, 56, 52, 104, 70, 3, 140, 221, 156, 125, 160, 205, 26, 65, 28]
def invS (a : BitVec 8) : BitVec 8 := nth invT a.toNat
theorem inv_one : ∀ a : BitVec 8, a = 0#8 ∨ gmul a (invS a) = 1#8 := of_decide_eq_true (by kernel_rfl)
theorem inv_ones : ∀ a : BitVec 8, a = 0#8 ∨ ∀ c ∈ ones_8, gmul (invS a) (gmul a c) = c := of_decide_eq_true (by kernel_rfl)
theorem inv_back (a z : BitVec 8) (h : ¬ a = 0#8) : gmul (invS a) (gmul a z) = z :=
 linear8 (fun z => gmul (invS a) (gmul a z)) (fun z => z) (fun b c => by simp only [gmul_xor]) (fun _ _ => rfl) ((inv_ones a).resolve_left h) z
theorem gm_none : ∀ (k : Nat) (b : BitVec 8), gm k 0#8 b = 0#8
 | 0, _ => rfl
 | k + 1, b => by
  unfold gm
  rw [show dbl 0#8 = 0#8 from rfl, gm_none k, mul_bit]; simp
theorem inv_only (a i : BitVec 8) (h : gmul a i = 1#8) : i = invS a := by
 by_cases h0 : a = 0#8
 ·subst h0
  have := gm_none 8 i
  unfold gmul at h
  rw [this] at h
  exact absurd h (by decide)
 ·have := inv_back a i h0
  rw [h] at this
  rw [← this]
  have h2 := inv_back a (invS a) h0
  rw [(inv_one a).resolve_left h0] at h2
  exact h2
def bitS (a : BitVec 8) (i : Nat) : BitVec 8 := a >>> (i % 8) % 2#8
def boxB (i : BitVec 8) (k : Nat) : BitVec 8 := bitS i k ^^^ bitS i (k + 7) ^^^ bitS i (k + 6) ^^^ bitS i (k + 5) ^^^ bitS i (k + 4) ^^^ bitS 99#8 k
def boxU (i : BitVec 8) : Nat → BitVec 8
 | 0 => 0#8
 | k + 1 => boxU i k ||| boxB i k <<< k
theorem boxU_box : ∀ a : BitVec 8, boxU (invS a) 8 = box a := of_decide_eq_true (by kernel_rfl)
open Go.RowKit
@[go_sem high] theorem v8_rem2g (t : TypeId) (a : BitVec 8) : binOp .rem t (v8 a) (.int .u8 2) = pure (v8 (a % 2#8)) := by
 simp [v8, binOp, Op.intDiv, Int.tmod_eq_emod_of_nonneg]
theorem v64_nat (s : BitVec 64) : v64 s = .int .u64 (s.toNat : Int) := rfl
theorem amt_nat (j : Nat) (h : j < 2 ^ 64) : amt (BitVec.ofNat 64 j) = j := by
 unfold amt
 rw [BitVec.toNat_ofNat, Nat.mod_eq_of_lt h]
@[go_sem high] theorem i16_shl64 (t : TypeId) (a : BitVec 8) (s : BitVec 64) (hm : amt s ≤ 8) : binOp .shl t (.int .i64 (a.toNat : Int)) (v64 s) = pure (i16 (a.setWidth 16 <<< amt s)) := by
 rw [v64_nat, show s.toNat = amt s from rfl, i16_shl _ _ _ _ hm]
@[go_sem high] theorem lit_shl64 (t : TypeId) (s : BitVec 64) (hm : amt s ≤ 6) : binOp .shl t (.int .i64 283) (v64 s) = pure (i16 (283#16 <<< amt s)) := by
 rw [v64_nat, show s.toNat = amt s from rfl, lit_shl _ _ _ hm]
@[go_sem high] theorem i16_shr64 (t : TypeId) (a : BitVec 16) (s : BitVec 64) (hm : amt s ≤ 64) : binOp .shr t (i16 a) (v64 s) = pure (i16 (a >>> amt s)) := by
 rw [v64_nat, show s.toNat = amt s from rfl, i16_shr _ _ _ _ hm]
theorem bit8 (x : BitVec 8) (R : Nat) (hR : R < 8) : ((x >>> R) % 2#8 == 1#8) = x.getLsbD R := by
 have hall : ∀ R : Fin 8, ∀ x : BitVec 8, ((x >>> R.1) % 2#8 == 1#8) = x.getLsbD R.1 := of_decide_eq_true (by kernel_rfl)
 exact hall ⟨R, hR⟩ x
theorem bit16 (x : BitVec 16) (R : Nat) : ((x >>> R) % 2#16 == 1#16) = x.getLsbD R := by
 rw [Bool.eq_iff_iff, beq_iff_eq]
 have h1 : ((x >>> R) % 2#16).toNat = (x.toNat >>> R) % 2 := by simp
 rw [BitVec.getLsbD, Nat.testBit_eq_decide_div_mod_eq, decide_eq_true_eq, ← Nat.shiftRight_eq_div_pow, ← h1]
 constructor
 ·intro h; rw [h]; rfl
 ·intro h; exact BitVec.eq_of_toNat_eq (by rw [h]; rfl)
theorem refTimes_any (a b : BitVec 8) (w : World) :
  Calls Tryz.prog 112 #[v8 a, v8 b] w fun e w' => e = .returned (v8 (gmul a b)) ∧ w = w' := by
 go_enter Tryz.func112, Tryz.ntmps112
 go_wp2_with fail
 go_loopw [5, 6] (fun n i wr => ∃ j : Nat, j ≤ 8 ∧ i = .int .i64 j ∧ n = i16 (ppr a b j) ∧ wr = w) (fun _ i _ => 8 - (intOf i).toNat)
 case atStart => exact ⟨0, by omega, rfl, rfl, rfl⟩
 case round =>
  obtain ⟨j, hj, rfl, rfl, rfl⟩ := hrel
  by_cases hj8 : j < 8
  ·have j1 : (j : Int) < 8 := by omega
   have j0 : (0 : Int) ≤ (j : Int) := by omega
   have e0 := amt_nat j (by omega)
   have e1 : amt (BitVec.ofNat 64 j) ≤ 8 := by omega
   have hp : ppr a b (j + 1) = pstep a b (ppr a b j) j := rfl
   have hb := bit8 b j hj8
   unfold pstep at hp
   obtain ⟨N, hN⟩ : ∃ N, N = ppr a b j := ⟨_, rfl⟩
   rw [← hN] at hp ⊢
   by_cases hbit : b.getLsbD j = true
   ·rw [if_pos hbit] at hp
    rw [hbit] at hb
    have HP := hid hp
    clear hp hN hbit
    go_wp2
    exact ⟨⟨j + 1, by omega, by go_num, by rw [HP.out], trivial⟩, by simp [intOf]; omega⟩
   ·rw [if_neg hbit] at hp
    have hbf : b.getLsbD j = false := by simpa using hbit
    rw [hbf] at hb
    have HP := hid hp
    clear hp hN hbit hbf
    go_wp2
    exact ⟨⟨j + 1, by omega, by go_num, by rw [HP.out], trivial⟩, by simp [intOf]; omega⟩
  ·obtain rfl : j = 8 := by omega
   obtain ⟨N, hN⟩ : ∃ N, N = ppr a b 8 := ⟨_, rfl⟩
   rw [← hN]
   have HN := hid hN
   clear hN
   go_wp2_with fail
   go_loopw [5, 7] (fun n i wz => ∃ t J : Nat, t ≤ 7 ∧ J + t = 14 ∧ i = .int .i64 J ∧ n = i16 (prs N t) ∧ wz = wr) (fun _ i _ => (intOf i).toNat)
   case atStart => exact ⟨0, 14, by omega, by omega, rfl, rfl, rfl⟩
   case round =>
    obtain ⟨t, J, ht, hJ, rfl, rfl, rfl⟩ := hrel
    obtain ⟨R, hR⟩ : ∃ R, R = prs N t := ⟨_, rfl⟩
    rw [← hR]
    by_cases ht7 : t < 7
    ·have j1 : (8 : Int) ≤ (J : Int) := by omega
     have j0 : (0 : Int) ≤ (J : Int) := by omega
     obtain ⟨I, hI⟩ : ∃ I, I = J - 1 := ⟨_, rfl⟩
     obtain ⟨S, hS⟩ : ∃ S, S = J - 8 := ⟨_, rfl⟩
     have i1 : (J : Int) - 1 = (I : Int) := by omega
     have i2 : IntKind.i64.wrap (I : Int) = (I : Int) := by rw [IntKind.wrap_i64]; omega
     have s1 : (J : Int) - 8 = (S : Int) := by omega
     have s2 : IntKind.i64.wrap (S : Int) = (S : Int) := by rw [IntKind.wrap_i64]; omega
     have e0 := amt_nat J (by omega)
     have e1 : J ≤ 64 := by omega
     have e2 := amt_nat S (by omega)
     have e3 : S ≤ 6 := by omega
     have hp : prs N (t + 1) = rstep (prs N t) (14 - t) := rfl
     have hb := bit16 R J
     rw [show 14 - t = J by omega] at hp
     unfold rstep at hp
     rw [← hR, show J - 8 = S by omega] at hp
     have hIJ : I + (t + 1) = 14 := by omega
     have HIJ := hid hIJ
     have hlt : I < J := by omega
     by_cases hbit : R.getLsbD J = true
     ·rw [if_pos hbit] at hp
      rw [hbit] at hb
      have HP := hid hp
      clear hp hR hbit hI hS hJ hIJ
      go_wp2
      exact ⟨⟨t + 1, I, by omega, HIJ.out, rfl, by rw [HP.out], trivial⟩, by simp [intOf]; omega⟩
     ·rw [if_neg hbit] at hp
      have hbf : R.getLsbD J = false := by simpa using hbit
      rw [hbf] at hb
      have HP := hid hp
      clear hp hR hbit hbf hI hS hJ hIJ
      go_wp2
      exact ⟨⟨t + 1, I, by omega, HIJ.out, rfl, by rw [HP.out], trivial⟩, by simp [intOf]; omega⟩
    ·obtain rfl : t = 7 := by omega
     obtain rfl : J = 7 := by omega
     have hfin : R.setWidth 8 = gmul a b := by
      rw [hR, HN.out, ← refT_gmul]; rfl
     have HF := hid hfin
     clear hR hfin hJ
     go_wp2
     go_ret
     rw [HF.out]
     exact ⟨rfl, rfl⟩
theorem gmul_two : ∀ a : BitVec 8, gmul a 2#8 = dbl a := of_decide_eq_true (by kernel_rfl)
def rcp : Nat → BitVec 8
 | 0 => 1#8
 | k + 1 => dbl (rcp k)
theorem refPower_two (n : Nat) (w : World) (hn : n ≤ 1000) :
  Calls Tryz.prog 67 #[v8 2#8, .int .i64 n] w fun e w' => e = .returned (v8 (rcp n)) ∧ w = w' := by
 have n0 : ¬ (n : Int) < 0 := by omega
 go_enter Tryz.func67, Tryz.ntmps67
 go_wp2_with fail
 go_loopw [5, 6] (fun x i wr => ∃ j : Nat, j ≤ n ∧ i = .int .i64 j ∧ x = v8 (rcp j) ∧ wr = w) (fun _ i _ => n - (intOf i).toNat)
 case atStart => exact ⟨0, by omega, rfl, rfl, rfl⟩
 case round =>
  obtain ⟨j, hj, rfl, rfl, rfl⟩ := hrel
  by_cases hjn : j < n
  ·have j1 : (j : Int) < (n : Int) := by omega
   go_wp2_with fail
   refine (refTimes_any (rcp j) 2#8 wr).mono ?_
   rintro e w1 ⟨rfl, rfl⟩
   rw [gmul_two]
   go_wp2
   exact ⟨⟨j + 1, by omega, by go_num, rfl, trivial⟩, by simp [intOf]; omega⟩
  ·obtain rfl : j = n := by omega
   go_wp2
   go_ret
   exact ⟨rfl, rfl⟩
end Go.Proofs.YtfdkmjegcghieaaGreatDoor
