/- ring, plain: the field of 2^128 elements by the lowest bit first; dots -/
import Derived.Test.YtfdkmjegcghieaaGreatDoorGw
namespace Go.Proofs.YtfdkmjegcghieaaGreatDoor
open Go.RowKit
/- two linear functions that agree at each bit are the same -/
def bitsum {n : Nat} (x : BitVec n) : Nat → BitVec n
  | 0 => 0#n
  | k + 1 => bitsum x k ^^^ (if x.getLsbD k then 1#n <<< k else 0#n)
theorem bitsum_bit {n : Nat} (x : BitVec n) (i : Nat) (hi : i < n) : ∀ k, (bitsum x k).getLsbD i = (decide (i < k) && x.getLsbD i)
  | 0 => by simp [bitsum]
  | k + 1 => by
    rw [bitsum, BitVec.getLsbD_xor, bitsum_bit x i hi k]
    by_cases hk : x.getLsbD k
    · rw [if_pos hk, BitVec.getLsbD_shiftLeft, BitVec.getLsbD_one]
      by_cases h : i = k
      · subst h
        have h1 : 0 < n := by omega
        simp [hk, hi, h1]
      · by_cases h2 : i < k
        · have : i < k + 1 := by omega
          simp [h2, this]
        · have h3 : ¬ i < k + 1 := by omega
          have h4 : ¬ i - k = 0 := by omega
          simp [h2, h3, h4]
    · rw [if_neg hk]
      by_cases h : i = k
      · subst h
        have h2 : x.getLsbD i = false := by simpa using hk
        simp [h2]
      · by_cases h2 : i < k
        · have : i < k + 1 := by omega
          simp [h2, this]
        · have h3 : ¬ i < k + 1 := by omega
          simp [h2, h3]
theorem bitsum_all {n : Nat} (x : BitVec n) : bitsum x n = x := by
  apply BitVec.eq_of_getLsbD_eq
  intro i hi
  rw [bitsum_bit x i hi n]; simp [hi]
theorem lin_zero {n m : Nat} {f : BitVec n → BitVec m} (hf : ∀ a b, f (a ^^^ b) = f a ^^^ f b) : f 0#n = 0#m := by
  have h := hf 0#n 0#n
  rw [BitVec.xor_self, BitVec.xor_self] at h
  exact h
theorem linN {n m : Nat} {f g : BitVec n → BitVec m} (hf : ∀ a b, f (a ^^^ b) = f a ^^^ f b) (hg : ∀ a b, g (a ^^^ b) = g a ^^^ g b) (h : ∀ j, j < n → f (1#n <<< j) = g (1#n <<< j)) (x : BitVec n) : f x = g x := by
  have key : ∀ k, k ≤ n → f (bitsum x k) = g (bitsum x k) := by
    intro k
    induction k with
    | zero => intro _; rw [bitsum, lin_zero hf, lin_zero hg]
    | succ k ih =>
      intro hk
      rw [bitsum, hf, hg, ih (by omega)]
      split
      · rw [h k (by omega)]
      · rw [lin_zero hf, lin_zero hg]
  have := key n (Nat.le_refl _)
  rwa [bitsum_all] at this
def upW (w : W2) : W2 := (w.1 <<< 1 ^^^ w.2 >>> 63, w.2 <<< 1 ^^^ w.1 >>> 63 ^^^ (w.2 >>> 63) * 0xc200000000000000#64)
def downW (w : W2) : W2 := (w.1 >>> 1 ^^^ w.2 <<< 63, w.2 >>> 1 ^^^ (w.1 &&& 1#64) * 0xe100000000000000#64)
def bitW (w : W2) (i : Nat) : BitVec 64 := if i < 64 then w.1 >>> i &&& 1#64 else w.2 >>> (i - 64) &&& 1#64
def plusW (a b : W2) (f : BitVec 64) : W2 := (a.1 ^^^ f * b.1, a.2 ^^^ f * b.2)
def dotTo (x y : W2) : Nat → W2
  | 0 => (0#64, 0#64)
  | i + 1 => downW (plusW (dotTo x y i) x (bitW y i))
def dotW (x y : W2) : W2 := dotTo x y 128
def upN (w : W2) : Nat → W2
  | 0 => w
  | k + 1 => upW (upN w k)
/-- a number of 128 bits -/
def tb (w : W2) : BitVec 128 := w.2 ++ w.1
def xorW (a b : W2) : W2 := (a.1 ^^^ b.1, a.2 ^^^ b.2)
theorem tb_xor (a b : W2) : tb (xorW a b) = tb a ^^^ tb b := by
  apply BitVec.eq_of_getLsbD_eq
  intro i hi
  simp only [tb, xorW, BitVec.getLsbD_xor, BitVec.getLsbD_append]
  split <;> rfl
theorem tb_inj {a b : W2} (h : tb a = tb b) : a = b := by
  have h1 : a.1 = b.1 := by
    apply BitVec.eq_of_getLsbD_eq; intro i hi
    have := congrArg (fun x => BitVec.getLsbD x i) h
    simp only [tb, BitVec.getLsbD_append, if_pos hi] at this
    exact this
  have h2 : a.2 = b.2 := by
    apply BitVec.eq_of_getLsbD_eq; intro i hi
    have := congrArg (fun x => BitVec.getLsbD x (64 + i)) h
    have h4 : ¬ 64 + i < 64 := by omega
    simp only [tb, BitVec.getLsbD_append, if_neg h4, Nat.add_sub_cancel_left] at this
    exact this
  exact Prod.ext h1 h2
theorem shr63 (x : BitVec 64) : x >>> 63 = if x.getLsbD 63 then 1#64 else 0#64 := by
  apply BitVec.eq_of_getLsbD_eq
  intro i hi
  by_cases h : x.getLsbD 63
  · rw [if_pos h, BitVec.getLsbD_ushiftRight, BitVec.getLsbD_one]
    by_cases h0 : i = 0
    · subst h0; simpa using h
    · rw [BitVec.getLsbD_of_ge _ _ (by omega)]; simp [h0]
  · rw [if_neg h, BitVec.getLsbD_ushiftRight]
    by_cases h0 : i = 0
    · subst h0; simpa using h
    · rw [BitVec.getLsbD_of_ge _ _ (by omega)]; simp
theorem and_one64 (b : BitVec 64) : b &&& 1#64 = if b.getLsbD 0 then 1#64 else 0#64 := by
  apply BitVec.eq_of_getLsbD_eq
  intro i hi
  rw [BitVec.getLsbD_and, BitVec.getLsbD_one]
  by_cases h : b.getLsbD 0
  · rw [if_pos h, BitVec.getLsbD_one]
    by_cases h0 : i = 0
    · subst h0; simp [h]
    · simp [h0]
  · rw [if_neg h]
    by_cases h0 : i = 0
    · subst h0; simpa using h
    · simp [h0]
theorem bits_mul (x y : Bool) (c : BitVec 64) : ((if x then 1#64 else 0#64) ^^^ (if y then 1#64 else 0#64)) * c = (if x then c else 0#64) ^^^ (if y then c else 0#64) := by cases x <;> cases y <;> simp
theorem bit_mul (x : Bool) (c : BitVec 64) : (if x then 1#64 else 0#64) * c = if x then c else 0#64 := by cases x <;> simp
theorem if_xor {n : Nat} (x y : Bool) (c : BitVec n) : (if (x ^^ y) then c else 0#n) = (if x then c else 0#n) ^^^ (if y then c else 0#n) := by cases x <;> cases y <;> simp
theorem bitW_tb (w : W2) (i : Nat) : bitW w i = if (tb w).getLsbD i then 1#64 else 0#64 := by
  unfold bitW tb
  rw [BitVec.getLsbD_append]
  by_cases h : i < 64
  · rw [if_pos h, and_one64, BitVec.getLsbD_ushiftRight]
    simp [h]
  · rw [if_neg h, and_one64, BitVec.getLsbD_ushiftRight]
    simp [h]
theorem plusW_one (a b : W2) : plusW a b 1#64 = xorW a b := by simp [plusW, xorW]
theorem plusW_bit (a b : W2) (x : Bool) : tb (plusW a b (if x then 1#64 else 0#64)) = tb a ^^^ if x then tb b else 0#128 := by
  cases x
  · simp [plusW]
  · rw [if_pos rfl, plusW_one, tb_xor, if_pos rfl]
/- the steps in numbers of 128 bits -/
def upB (x : BitVec 128) : BitVec 128 := x <<< 1 ^^^ (if x.getLsbD 127 then 0xc2000000000000000000000000000001#128 else 0#128)
def downB (x : BitVec 128) : BitVec 128 := x >>> 1 ^^^ (if x.getLsbD 0 then 0xe1000000000000000000000000000000#128 else 0#128)
theorem xor_four {n : Nat} (a b c d : BitVec n) : (a ^^^ b) ^^^ (c ^^^ d) = (a ^^^ c) ^^^ (b ^^^ d) := by
  rw [BitVec.xor_assoc, BitVec.xor_assoc, ← BitVec.xor_assoc b c d, BitVec.xor_comm b c, BitVec.xor_assoc c b d]
theorem upB_xor (a b : BitVec 128) : upB (a ^^^ b) = upB a ^^^ upB b := by
  unfold upB
  rw [BitVec.shiftLeft_xor_distrib, BitVec.getLsbD_xor, if_xor, xor_four]
theorem downB_xor (a b : BitVec 128) : downB (a ^^^ b) = downB a ^^^ downB b := by
  unfold downB
  rw [BitVec.ushiftRight_xor_distrib, BitVec.getLsbD_xor, if_xor, xor_four]
theorem tb_zero_left (b : BitVec 64) : tb (0#64, b) = b.setWidth 128 <<< 64 := by
  apply BitVec.eq_of_getLsbD_eq
  intro i hi
  simp only [tb, BitVec.getLsbD_append, BitVec.getLsbD_shiftLeft, BitVec.getLsbD_setWidth]
  by_cases h : i < 64
  · simp [h]
  · have : i - 64 < 128 := by omega
    simp [h, hi, this]
theorem upW_xor (a b : W2) : upW (xorW a b) = xorW (upW a) (upW b) := by
  simp only [upW, xorW, shr63, bits_mul, bit_mul, BitVec.shiftLeft_xor_distrib, BitVec.getLsbD_xor, if_xor]
  refine Prod.ext ?_ ?_
  · exact xor_four _ _ _ _
  · simp only []
    rw [xor_four (a.2 <<< 1), xor_four (a.2 <<< 1 ^^^ _)]
theorem downW_xor (a b : W2) : downW (xorW a b) = xorW (downW a) (downW b) := by
  simp only [downW, xorW, and_one64, bits_mul, bit_mul, BitVec.ushiftRight_xor_distrib, BitVec.shiftLeft_xor_distrib, BitVec.getLsbD_xor, if_xor]
  refine Prod.ext ?_ ?_
  · exact xor_four _ _ _ _
  · exact xor_four _ _ _ _
/-- a number of 128 bits as two words -/
def bt (x : BitVec 128) : W2 := (x.setWidth 64, (x >>> 64).setWidth 64)
theorem tb_bt (x : BitVec 128) : tb (bt x) = x := by
  apply BitVec.eq_of_getLsbD_eq
  intro i hi
  simp only [tb, bt, BitVec.getLsbD_append, BitVec.getLsbD_setWidth, BitVec.getLsbD_ushiftRight]
  by_cases h : i < 64
  · simp [h]
  · have : i - 64 < 64 := by omega
    have h2 : 64 + (i - 64) = i := by omega
    simp [h, this, h2]
theorem bt_tb (w : W2) : bt (tb w) = w := tb_inj (tb_bt _)
theorem bt_xor (a b : BitVec 128) : bt (a ^^^ b) = xorW (bt a) (bt b) := tb_inj (by rw [tb_bt, tb_xor, tb_bt, tb_bt])
theorem upW_tb (w : W2) : tb (upW w) = upB (tb w) := by
  have h := linN (f := fun x => tb (upW (bt x))) (g := upB) (fun a b => by rw [bt_xor, upW_xor, tb_xor]) upB_xor (fun j hj => by
    have hall : ∀ j : Fin 128, tb (upW (bt (1#128 <<< j.1))) = upB (1#128 <<< j.1) := of_decide_eq_true (by kernel_rfl)
    exact hall ⟨j, hj⟩) (tb w)
  rwa [bt_tb] at h
theorem downW_tb (w : W2) : tb (downW w) = downB (tb w) := by
  have h := linN (f := fun x => tb (downW (bt x))) (g := downB) (fun a b => by rw [bt_xor, downW_xor, tb_xor]) downB_xor (fun j hj => by
    have hall : ∀ j : Fin 128, tb (downW (bt (1#128 <<< j.1))) = downB (1#128 <<< j.1) := of_decide_eq_true (by kernel_rfl)
    exact hall ⟨j, hj⟩) (tb w)
  rwa [bt_tb] at h
theorem down_up (x : BitVec 128) : downB (upB x) = x :=
  linN (f := fun x => downB (upB x)) (g := fun x => x) (fun a b => by rw [upB_xor, downB_xor]) (fun _ _ => rfl) (fun j hj => by
    have hall : ∀ j : Fin 128, downB (upB (1#128 <<< j.1)) = 1#128 <<< j.1 := of_decide_eq_true (by kernel_rfl)
    exact hall ⟨j, hj⟩) x
theorem up_down (x : BitVec 128) : upB (downB x) = x :=
  linN (f := fun x => upB (downB x)) (g := fun x => x) (fun a b => by rw [downB_xor, upB_xor]) (fun _ _ => rfl) (fun j hj => by
    have hall : ∀ j : Fin 128, upB (downB (1#128 <<< j.1)) = 1#128 <<< j.1 := of_decide_eq_true (by kernel_rfl)
    exact hall ⟨j, hj⟩) x
def ups (x : BitVec 128) : Nat → BitVec 128
  | 0 => x
  | k + 1 => upB (ups x k)
def downs (x : BitVec 128) : Nat → BitVec 128
  | 0 => x
  | k + 1 => downB (downs x k)
theorem upN_tb (w : W2) : ∀ k, tb (upN w k) = ups (tb w) k
  | 0 => rfl
  | k + 1 => by rw [upN, upW_tb, upN_tb w k, ups]
theorem ups_add (x : BitVec 128) (a : Nat) : ∀ b, ups x (a + b) = ups (ups x a) b
  | 0 => rfl
  | b + 1 => by rw [← Nat.add_assoc, ups, ups_add x a b, ups]
theorem downs_add (x : BitVec 128) (a : Nat) : ∀ b, downs x (a + b) = downs (downs x a) b
  | 0 => rfl
  | b + 1 => by rw [← Nat.add_assoc, downs, downs_add x a b, downs]
theorem ups_xor (a b : BitVec 128) : ∀ k, ups (a ^^^ b) k = ups a k ^^^ ups b k
  | 0 => rfl
  | k + 1 => by rw [ups, ups_xor a b k, upB_xor, ups, ups]
theorem downs_xor (a b : BitVec 128) : ∀ k, downs (a ^^^ b) k = downs a k ^^^ downs b k
  | 0 => rfl
  | k + 1 => by rw [downs, downs_xor a b k, downB_xor, downs, downs]
theorem ups_zero : ∀ k, ups 0#128 k = 0#128
  | 0 => rfl
  | k + 1 => by rw [ups, ups_zero k]; rfl
theorem downs_zero : ∀ k, downs 0#128 k = 0#128
  | 0 => rfl
  | k + 1 => by rw [downs, downs_zero k]; rfl
theorem downs_ups (x : BitVec 128) : ∀ k, downs (ups x k) k = x
  | 0 => rfl
  | k + 1 => by
    rw [show k + 1 = 1 + k by omega, downs_add, show downs (ups x (1 + k)) 1 = downB (ups x (1 + k)) from rfl, show 1 + k = k + 1 by omega, ups, down_up, downs_ups x k]
theorem up_downs (x : BitVec 128) : ∀ k, upB (downs x k) = downs (upB x) k
  | 0 => rfl
  | k + 1 => by rw [downs, up_down, downs, ← up_downs x k, down_up]
theorem ups_downs (x : BitVec 128) (k : Nat) : ∀ j, ups (downs x k) j = downs (ups x j) k
  | 0 => rfl
  | j + 1 => by rw [ups, ups_downs x k j, up_downs, ups]
/-- the sum of those multiples by powers of x whose bits are set -/
def evTo (o y : BitVec 128) : Nat → BitVec 128
  | 0 => 0#128
  | j + 1 => evTo o y j ^^^ (if y.getLsbD j then ups o j else 0#128)
def ev (o y : BitVec 128) : BitVec 128 := evTo o y 128
def dotB (x y : BitVec 128) : BitVec 128 := downs (ev x y) 128
theorem downs_if (b : Bool) (x : BitVec 128) (k : Nat) : downs (if b then x else 0#128) k = if b then downs x k else 0#128 := by cases b; exact downs_zero k; rfl
theorem dotTo_tb (x y : W2) : ∀ i, i ≤ 128 → tb (dotTo x y i) = downs (evTo (tb x) (tb y) i) i
  | 0, _ => by kernel_rfl
  | i + 1, h => by
    rw [dotTo, downW_tb, bitW_tb _ _, plusW_bit, dotTo_tb x y i (by omega), downs, evTo, downs_xor, downs_if, downs_ups]
theorem dotW_tb (x y : W2) : tb (dotW x y) = dotB (tb x) (tb y) := dotTo_tb x y 128 (Nat.le_refl _)
theorem evTo_xor (a b y : BitVec 128) : ∀ j, evTo (a ^^^ b) y j = evTo a y j ^^^ evTo b y j
  | 0 => by rw [evTo, evTo, evTo, BitVec.xor_self]
  | j + 1 => by
    rw [evTo, evTo, evTo, evTo_xor a b y j, ups_xor, xor_four]
    congr 1
    split <;> simp
theorem evTo_downs (x y : BitVec 128) (k : Nat) : ∀ j, evTo (downs x k) y j = downs (evTo x y j) k
  | 0 => (downs_zero k).symm
  | j + 1 => by rw [evTo, evTo, downs_xor, downs_if, evTo_downs x y k j, ups_downs]
/-- the table of an element: at each number of four bits the sum of its powers -/
def tabW (one : W2) (n : Nat) : W2 :=
  xorW (xorW (xorW (if n.testBit 0 then upN one 0 else (0#64, 0#64)) (if n.testBit 1 then upN one 1 else (0#64, 0#64))) (if n.testBit 2 then upN one 2 else (0#64, 0#64))) (if n.testBit 3 then upN one 3 else (0#64, 0#64))
/-- a dot by a table, so many half bytes -/
def dotN (t : Nat → W2) (y : BitVec 128) : Nat → W2
  | 0 => (0#64, 0#64)
  | k + 1 => plusW (upN (dotN t y k) 4) (t ((y >>> (4 * (31 - k))).toNat % 16)) 1#64
def part (o y : BitVec 128) (lo : Nat) : Nat → BitVec 128
  | 0 => 0#128
  | c + 1 => part o y lo c ^^^ (if y.getLsbD (lo + c) then ups o c else 0#128)
theorem upB_if (b : Bool) (x : BitVec 128) : upB (if b then x else 0#128) = if b then upB x else 0#128   := by cases b <;> first | rfl | kernel_rfl
theorem part_front (o y : BitVec 128) (lo : Nat) : ∀ c, part o y lo (c + 1) = (if y.getLsbD lo then o else 0#128) ^^^ upB (part o y (lo + 1) c)
  | 0 => by rw [part, part, part, Nat.add_zero, BitVec.zero_xor, show upB 0#128 = 0#128 by kernel_rfl, BitVec.xor_zero]; rfl
  | c + 1 => by
    rw [part, part_front o y lo c, part, upB_xor, upB_if, BitVec.xor_assoc, show lo + (c + 1) = lo + 1 + c by omega, ups]
theorem part_ev (o y : BitVec 128) : ∀ c, part o y 0 c = evTo o y c
  | 0 => rfl
  | c + 1 => by rw [part, part_ev o y c, evTo, Nat.zero_add]
theorem tb_if (b : Bool) (w : W2) : tb (if b then w else (0#64, 0#64)) = if b then tb w else 0#128   := by cases b <;> first | rfl | kernel_rfl
theorem nib_bit (y : BitVec 128) (s k : Nat) (hk : k < 4) : ((y >>> s).toNat % 16).testBit k = y.getLsbD (s + k) := by
  rw [show (16 : Nat) = 2 ^ 4 from rfl, Nat.testBit_mod_two_pow]
  simp [hk, BitVec.getLsbD, Nat.testBit_shiftRight]
theorem tabW_tb (one : W2) (y : BitVec 128) (s : Nat) : tb (tabW one ((y >>> s).toNat % 16)) = part (tb one) y s 4 := by
  simp only [tabW, tb_xor, tb_if, upN_tb, nib_bit _ _ _ (show 0 < 4 by omega), nib_bit _ _ _ (show 1 < 4 by omega), nib_bit _ _ _ (show 2 < 4 by omega), nib_bit _ _ _ (show 3 < 4 by omega), part]
  simp
theorem part_four (o y : BitVec 128) (lo c : Nat) : part o y lo (c + 4) = part o y lo 4 ^^^ ups (part o y (lo + 4) c) 4 := by
  have e : ∀ x : BitVec 128, ups x 4 = upB (upB (upB (upB x))) := fun _ => rfl
  have z : part o y (lo + 4) 0 = 0#128 := rfl
  rw [e, part_front o y lo (c + 3), part_front o y (lo + 1) (c + 2), part_front o y (lo + 2) (c + 1), part_front o y (lo + 3) c, part_front o y lo 3, part_front o y (lo + 1) 2, part_front o y (lo + 2) 1, part_front o y (lo + 3) 0]
  simp only [upB_xor, BitVec.xor_assoc, show part o y (lo + 3 + 1) 0 = 0#128 from rfl, show upB 0#128 = 0#128 by kernel_rfl, BitVec.zero_xor, Nat.add_assoc, Nat.reduceAdd]
theorem dotN_tb (one : W2) (y : BitVec 128) : ∀ k, k ≤ 32 → tb (dotN (tabW one) y k) = part (tb one) y (128 - 4 * k) (4 * k)
  | 0, _ => by kernel_rfl
  | k + 1, h => by
    rw [dotN, plusW_one, tb_xor, upN_tb, dotN_tb one y k (by omega), tabW_tb, show 4 * (k + 1) = 4 * k + 4 by omega, part_four _ _ _ (4 * k), show 128 - (4 * k + 4) + 4 = 128 - 4 * k by omega, show 4 * (31 - k) = 128 - (4 * k + 4) by omega, BitVec.xor_comm]
/-- what a table is made of: an element divided by x to the 128 -/
theorem dotW_one (x : W2) : tb (dotW x (1#64, 0#64)) = downs (tb x) 128 := by
  rw [dotW_tb, dotB, ev]
  congr 1
  have key : ∀ j, evTo (tb x) (tb (1#64, 0#64)) (j + 1) = tb x := by
    intro j
    induction j with
    | zero => rw [evTo, evTo, if_pos (by kernel_rfl), ups, BitVec.zero_xor]
    | succ j ih =>
      rw [evTo, ih, if_neg ?_, BitVec.xor_zero]
      have e : tb (1#64, 0#64) = 1#128 := by kernel_rfl
      rw [e, BitVec.getLsbD_one]; simp
  exact key 127
theorem dotN_dot (h : W2) (y : BitVec 128) : tb (dotN (tabW (dotW h (1#64, 0#64))) y 32) = dotB (tb h) y := by
  rw [dotN_tb _ _ 32 (Nat.le_refl _), dotW_one, part_ev, evTo_downs]; rfl
end Go.Proofs.YtfdkmjegcghieaaGreatDoor
