/- the products, inverses and boxes of the document, plain: those of the tables -/
import Derived.Test.YtepijmidafndaaaDoorAesS
namespace Go.Proofs.YtepijmidafndaaaDoor
open Go.RowKit
def pstep (a b : BitVec 8) (n : BitVec 16) (i : Nat) : BitVec 16 := if b.getLsbD i then n ^^^ a.setWidth 16 <<< i else n
/-- the product of two polynomials, by so many bits -/
def ppr (a b : BitVec 8) : Nat → BitVec 16
  | 0 => 0#16
  | i + 1 => pstep a b (ppr a b i) i
def rstep (n : BitVec 16) (i : Nat) : BitVec 16 := if n.getLsbD i then n ^^^ 283#16 <<< (i - 8) else n
/-- its rest, by so many steps -/
def prs (n : BitVec 16) : Nat → BitVec 16
  | 0 => n
  | t + 1 => rstep (prs n t) (14 - t)
def refT (a b : BitVec 8) : BitVec 8 := (prs (ppr a b 8) 7).setWidth 8
theorem rstep_xor (n m : BitVec 16) (i : Nat) : rstep (n ^^^ m) i = rstep n i ^^^ rstep m i := by
  unfold rstep
  rw [BitVec.getLsbD_xor]
  generalize 283#16 <<< (i - 8) = c
  cases n.getLsbD i <;> cases m.getLsbD i <;> simp
  · ac_rfl
  · ac_rfl
  · rw [show n ^^^ c ^^^ (m ^^^ c) = n ^^^ m ^^^ (c ^^^ c) by ac_rfl, BitVec.xor_self, BitVec.xor_zero]
theorem prs_xor (n m : BitVec 16) : ∀ t, prs (n ^^^ m) t = prs n t ^^^ prs m t
  | 0 => rfl
  | t + 1 => by rw [prs, prs_xor n m t, rstep_xor]; rfl
theorem ppr_xor (a b c : BitVec 8) : ∀ i, ppr a (b ^^^ c) i = ppr a b i ^^^ ppr a c i
  | 0 => (BitVec.xor_self (x := 0#16)).symm
  | i + 1 => by
    rw [ppr, ppr_xor a b c i, ppr, ppr]
    unfold pstep
    rw [BitVec.getLsbD_xor]
    generalize ppr a b i = x
    generalize ppr a c i = y
    generalize a.setWidth 16 <<< i = s
    cases b.getLsbD i <;> cases c.getLsbD i <;> simp
    · ac_rfl
    · ac_rfl
    · rw [show x ^^^ s ^^^ (y ^^^ s) = x ^^^ y ^^^ (s ^^^ s) by ac_rfl, BitVec.xor_self, BitVec.xor_zero]
theorem refT_xor (a b c : BitVec 8) : refT a (b ^^^ c) = refT a b ^^^ refT a c := by
  unfold refT; rw [ppr_xor, prs_xor, BitVec.setWidth_xor]
theorem bits_of8 : ∀ b : BitVec 8, b = (b &&& 1#8) ^^^ (b &&& 2#8) ^^^ (b &&& 4#8) ^^^ (b &&& 8#8) ^^^ (b &&& 16#8) ^^^ (b &&& 32#8) ^^^ (b &&& 64#8) ^^^ (b &&& 128#8) := of_decide_eq_true (by kernel_rfl)
def ones_8 : List (BitVec 8) := [1#8, 2#8, 4#8, 8#8, 16#8, 32#8, 64#8, 128#8]
theorem one_bit_or : ∀ b : BitVec 8, ∀ c ∈ ones_8, b &&& c = 0#8 ∨ b &&& c = c := of_decide_eq_true (by kernel_rfl)
/-- two linear maps that answer alike at each bit are one -/
theorem linear8 (f g : BitVec 8 → BitVec 8) (hf : ∀ b c, f (b ^^^ c) = f b ^^^ f c) (hg : ∀ b c, g (b ^^^ c) = g b ^^^ g c) (h : ∀ c ∈ ones_8, f c = g c) (b : BitVec 8) : f b = g b := by
  have z : f 0#8 = g 0#8 := by
    have a := hf 0#8 0#8; have b := hg 0#8 0#8
    rw [BitVec.xor_self, BitVec.xor_self] at a b
    rw [a, b]
  have k : ∀ c ∈ ones_8, f (b &&& c) = g (b &&& c) := by
    intro c hc
    rcases one_bit_or b c hc with e | e <;> rw [e]
    · exact z
    · exact h c hc
  rw [bits_of8 b]
  simp only [hf, hg]
  rw [k 1#8 (by decide), k 2#8 (by decide), k 4#8 (by decide), k 8#8 (by decide), k 16#8 (by decide), k 32#8 (by decide), k 64#8 (by decide), k 128#8 (by decide)]
theorem refT_ones : ∀ a : BitVec 8, ∀ c ∈ ones_8, refT a c = gmul a c := of_decide_eq_true (by kernel_rfl)
theorem refT_gmul (a b : BitVec 8) : refT a b = gmul a b := linear8 (refT a) (gmul a) (refT_xor a) (gmul_xor a) (refT_ones a) b
def invT : List (BitVec 8) := [0, 1, 141, 246, 203, 82, 123, 209, 232, 79, 41, 192, 176, 225, 229, 199, 116, 180, 170, 75, 153, 43, 96, 95, 88, 63, 253, 204, 255, 64, 238, 178, 58, 110, 90, 241, 85, 77, 168, 201, 193, 10, 152, 21, 48, 68, 162, 194, 44, 69, 146, 108, 243, 57, 102, 66, 242, 53, 32, 111, 119, 187, 89, 25, 29, 254, 55, 103, 45, 49, 245, 105, 167, 100, 171, 19, 84, 37, 233, 9, 237, 92, 5, 202, 76, 36, 135, 191, 24, 62, 34, 240, 81, 236, 97, 23, 22, 94, 175, 211, 73, 166, 54, 67, 244, 71, 145, 223, 51, 147, 33, 59, 121, 183, 151, 133, 16, 181, 186, 60, 182, 112, 208, 6, 161, 250, 129, 130, 131, 126, 127, 128, 150, 115, 190, 86, 155, 158, 149, 217, 247, 2, 185, 164, 222, 106, 50, 109, 216, 138, 132, 114, 42, 20, 159, 136, 249, 220, 137, 154, 251, 124, 46, 195, 143, 184, 101, 72, 38, 200, 18, 74, 206, 231, 210, 98, 12, 224, 31, 239, 17, 117, 120, 113, 165, 142, 118, 61, 189, 188, 134, 87, 11, 40, 47, 163, 218, 212, 228, 15, 169, 39, 83, 4, 27, 252, 172, 230, 122, 7, 174, 99, 197, 219, 226, 234, 148, 139, 196, 213, 157, 248, 144, 107, 177, 13, 214, 235, 198, 14, 207, 173, 8, 78, 215, 227, 93, 80, 30, 179, 91, 35, 56, 52, 104, 70, 3, 140, 221, 156, 125, 160, 205, 26, 65, 28]
def invS (a : BitVec 8) : BitVec 8 := nth invT a.toNat
theorem inv_one : ∀ a : BitVec 8, a = 0#8 ∨ gmul a (invS a) = 1#8 := of_decide_eq_true (by kernel_rfl)
theorem inv_ones : ∀ a : BitVec 8, a = 0#8 ∨ ∀ c ∈ ones_8, gmul (invS a) (gmul a c) = c := of_decide_eq_true (by kernel_rfl)
theorem inv_back (a z : BitVec 8) (h : ¬ a = 0#8) : gmul (invS a) (gmul a z) = z :=
  linear8 (fun z => gmul (invS a) (gmul a z)) (fun z => z) (fun b c => by simp only [gmul_xor]) (fun _ _ => rfl) ((inv_ones a).resolve_left h) z
theorem gm_none : ∀ (k : Nat) (b : BitVec 8), gm k 0#8 b = 0#8
  | 0, _ => rfl
  | k + 1, b => by
    unfold gm
    rw [show dbl 0#8 = 0#8 from rfl, gm_none k, mul_bit]; simp
theorem inv_only (a i : BitVec 8) (h : gmul a i = 1#8) : i = invS a := by
  by_cases h0 : a = 0#8
  · subst h0
    have := gm_none 8 i
    unfold gmul at h
    rw [this] at h
    exact absurd h (by decide)
  · have := inv_back a i h0
    rw [h] at this
    rw [← this]
    have h2 := inv_back a (invS a) h0
    rw [(inv_one a).resolve_left h0] at h2
    exact h2
/-- a bit, counted round -/
def bitS (a : BitVec 8) (i : Nat) : BitVec 8 := a >>> (i % 8) % 2#8
def boxB (i : BitVec 8) (k : Nat) : BitVec 8 := bitS i k ^^^ bitS i (k + 7) ^^^ bitS i (k + 6) ^^^ bitS i (k + 5) ^^^ bitS i (k + 4) ^^^ bitS 99#8 k
def boxU (i : BitVec 8) : Nat → BitVec 8
  | 0 => 0#8
  | k + 1 => boxU i k ||| boxB i k <<< k
theorem boxU_box : ∀ a : BitVec 8, boxU (invS a) 8 = box a := of_decide_eq_true (by kernel_rfl)
end Go.Proofs.YtepijmidafndaaaDoor
