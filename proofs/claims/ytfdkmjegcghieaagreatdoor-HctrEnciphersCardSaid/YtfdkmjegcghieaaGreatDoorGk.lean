/- what the laws of AES say of the schedule and of rounds (plain) -/
import Derived.Test.YtfdkmjegcghieaaGreatDoorGh
import Derived.Test.YtfdkmjegcghieaaGreatDoorGs
import Derived.Test.YtfdkmjegcghieaaGreatDoorGb
namespace Go.Proofs.YtfdkmjegcghieaaGreatDoor
open Go.RowKit
theorem sch_grows (n : Nat) (key : List (BitVec 8)) (k : Nat) : ∀ j, ∃ t, sch n key (k + j) = sch n key k ++ t
  | 0 => ⟨[], by simp⟩
  | j + 1 => by
    obtain ⟨t, ht⟩ := sch_grows n key k j
    exact ⟨_, by rw [← Nat.add_assoc, sch, ht, List.append_assoc]⟩
theorem nth_sch (n : Nat) (key : List (BitVec 8)) (k j i : Nat) (h : i < (sch n key k).length) : nth (sch n key (k + j)) i = nth (sch n key k) i := by
  obtain ⟨t, ht⟩ := sch_grows n key k j
  rw [ht, nth_append, if_pos h]
theorem sch_first (n : Nat) (key : List (BitVec 8)) (k i : Nat) (h : i < key.length) : nth (sch n key k) i = nth key i := by
  have := nth_sch n key 0 k i h
  rw [Nat.zero_add] at this
  exact this
theorem nth_keyAt (L : List (BitVec 8)) (j i : Nat) (h : i < 16) : nth (keyAt L j) i = nth L (16 * j + i) := by
  rw [keyAt, nth_take _ _ _ h, nth_drop, Nat.mul_comm]
theorem nth_wordAt (L : List (BitVec 8)) (j i : Nat) (h : i < 4) : nth (wordAt L j) i = nth L (4 * j + i) := by
  rw [wordAt, nth_take _ _ _ h, nth_drop, Nat.mul_comm]
theorem nth_xor4 (a b : List (BitVec 8)) (i : Nat) (h : i < 4) : nth (xor4 a b) i = nth a i ^^^ nth b i := by
  have : i = 0 ∨ i = 1 ∨ i = 2 ∨ i = 3 := by omega
  rcases this with rfl | rfl | rfl | rfl <;> rfl
/-- a word that is not turned -/
theorem sch_word (n : Nat) (key : List (BitVec 8)) (hk : key.length = 4 * n) (M i r : Nat) (h1 : n ≤ i) (h2 : i < n + M) (hr : r < 4) (hn : 0 < n) (ha : ¬ i % n = 0) (hb : ¬ (n = 8 ∧ i % 8 = 4)) :
    nth (sch n key M) (4 * i + r) = nth (sch n key M) (4 * (i - 1) + r) ^^^ nth (sch n key M) (4 * (i - n) + r) := by
  have hs : ∀ k t, t < 4 * (n + k) → k ≤ M → nth (sch n key M) t = nth (sch n key k) t := by
    intro k t ht hkM
    have := nth_sch n key k (M - k) t (by rw [sch_length n key hk]; exact ht)
    rwa [Nat.add_sub_cancel' hkM] at this
  obtain ⟨j, hj⟩ : ∃ j, j = i - n := ⟨_, rfl⟩
  rw [hs (j + 1) (4 * i + r) (by omega) (by omega), hs j (4 * (i - 1) + r) (by omega) (by omega), hs j (4 * (i - n) + r) (by omega) (by omega)]
  rw [sch, nth_append, sch_length n key hk, if_neg (by omega), show 4 * i + r - 4 * (n + j) = r by omega, nth_xor4 _ _ _ hr, nth_wordAt _ _ _ hr, stepW, if_neg (by rw [show n + j = i by omega]; exact ha), if_neg (by rw [show n + j = i by omega]; exact hb), nth_wordAt _ _ _ hr, show n + j - 1 = i - 1 by omega, ← hj, BitVec.xor_comm]
theorem rnds_bare (L : List (BitVec 8)) (m : Nat) (b : List (BitVec 8)) (j : Nat) (hj : j + 2 < m) (hL : L.length = m * 16) : rnds (midKeys L m) b (j + 1) = roundS (rnds (midKeys L m) b j) (keyAt L (j + 1)) := by
  rw [rnds, mid_keyAt L m j hj hL]
theorem enc_inj_aes (L : List (BitVec 8)) (m : Nat) (a b : List (BitVec 8)) (ha : a.length = 16) (hb : b.length = 16) (hL : L.length = m * 16) (hm : 3 ≤ m) : encS L m a = encS L m b ↔ a = b := by
  constructor
  · intro h
    rw [← dec_enc_aes L m a ha hL hm, h, dec_enc_aes L m b hb hL hm]
  · intro h; rw [h]
theorem encS_length (L : List (BitVec 8)) (m : Nat) (b : List (BitVec 8)) : (encS L m b).length = 16 := lastS_length _ _
theorem decS_length (L : List (BitVec 8)) (m : Nat) (b : List (BitVec 8)) : (decS L m b).length = 16 := xor16_length _ _
/-- the schedule of a key of so many bytes -/
def schK (key : List (BitVec 8)) : List (BitVec 8) := sch (key.length / 4) key (3 * (key.length / 4) + 28)
theorem schK_length (key : List (BitVec 8)) (h : key.length = 16 ∨ key.length = 24 ∨ key.length = 32) : (schK key).length = (key.length / 4 + 7) * 16 := by
  rw [schK, sch_length _ _ (by omega)]; omega
/-- the example of the chapter -/
theorem awake_block : (fun b : List (BitVec 8) => (nth b 0, nth b 1, nth b 15)) (encS (sch 4 (zeros 8 16) 40) 11 (zeros 8 16)) = (102#8, 233#8, 46#8) := by kernel_rfl
end Go.Proofs.YtfdkmjegcghieaaGreatDoor
/- Key: a key's bytes and which length it has; the tables, made anew -/
namespace Go.Proofs.YtfdkmjegcghieaaGreatDoor
open Go.ChangeShapes Go.WideShapes Go.ChangeAt Go.RowKit
theorem A8_of_toList {T : Array Value} {l : List (BitVec 8)} (h : T.toList = l.map v8) : T = A8 l := by
  apply Array.ext'; rw [A8_toList]; exact h
/-- how many of a key's bytes count -/
def keyN (K : List (BitVec 8)) : Nat := 16 + 8 * (nth K 32 % 3#8).toNat
def keyB (K : List (BitVec 8)) : List (BitVec 8) := K.take (keyN K)
theorem keyN_or (K : List (BitVec 8)) : keyN K = 16 ∨ keyN K = 24 ∨ keyN K = 32 := by
  have h : (nth K 32 % 3#8).toNat < 3 := by rw [BitVec.toNat_umod]; exact Nat.mod_lt _ (by decide)
  unfold keyN; omega
theorem keyB_length (K : List (BitVec 8)) (h : K.length = 33) : (keyB K).length = keyN K := by
  have := keyN_or K
  rw [keyB, List.length_take, h]; omega
@[go_sem high] theorem v8_rem3 (t : TypeId) (a : BitVec 8) : binOp .rem t (v8 a) (.int .u8 3) = pure (v8 (a % 3#8)) := by
  simp [v8, binOp, Op.intDiv, Int.tmod_eq_emod_of_nonneg]
end Go.Proofs.YtfdkmjegcghieaaGreatDoor
/- a key's rounds -/
namespace Go.Proofs.YtfdkmjegcghieaaGreatDoor
open Go.RowKit
/-- how many round keys, and which -/
def mK (K : List (BitVec 8)) : Nat := keyN K / 4 + 7
def LK (K : List (BitVec 8)) : List (BitVec 8) := sch (keyN K / 4) (keyB K) (3 * (keyN K / 4) + 28)
theorem LK_length (K : List (BitVec 8)) (hK : K.length = 33) : (LK K).length = mK K * 16 := by
  have := keyN_or K
  rw [LK, mK, sch_length _ _ (by rw [keyB_length K hK]; omega)]
  omega
theorem mK_bounds (K : List (BitVec 8)) : 11 ≤ mK K ∧ mK K ≤ 15 := by
  have := keyN_or K
  unfold mK; omega
theorem expandK_any (p : Nat) (K : List (BitVec 8)) (a : Option Addr) (c : Nat) (w : World) (hT : TabAt w p) (hr : Rd8 w a (keyN K) c (keyB K)) :
    Calls Tryz.prog 53 #[.pointer (some ⟨p, 0, none⟩), .slice a (keyN K) c] w fun e w' => ∃ k, e = .returned (.tuple #[.pointer (some ⟨k, 0, none⟩), .int .i64 0]) ∧ KeyAt w' k p (mK K) (LK K) ∧ Below w.heap.size w w' :=
  (expand_yes p (keyB K) a (keyN K) c w hT hr (keyN_or K)).mono fun _ _ ⟨k, h1, h2, _, h4⟩ => ⟨k, h1, h2, h4⟩
end Go.Proofs.YtfdkmjegcghieaaGreatDoor
