/- hctr: what it computes, plain; either direction undoes the other one -/
import Derived.Test.YtfdkmjegcghieaaGreatDoorVal3
import Derived.Test.YtfdkmjegcghieaaGreatDoorIi
namespace Go.Proofs.YtfdkmjegcghieaaGreatDoor
open Go.RowKit
def padL (l : List (BitVec 8)) (m : Nat) : List (BitVec 8) := l ++ zeros 8 (roomN l.length m)
theorem roomN_whole (n : Nat) : (n + roomN n 16) % 16 = 0 := by unfold roomN; omega
theorem padL_length (l : List (BitVec 8)) : (padL l 16).length = l.length + roomN l.length 16 := by simp [padL]
theorem padL_mod (l : List (BitVec 8)) : (padL l 16).length % 16 = 0 := by rw [padL_length]; exact roomN_whole _
/-- the value behind bytes -/
def valR (one : W2) (s l : List (BitVec 8)) : List (BitVec 8) := valK one s (padL l 16) ((padL l 16).length / 16)
theorem valR_length (one : W2) (s l : List (BitVec 8)) (h : s.length = 16) : (valR one s l).length = 16 := valK_length _ _ _ h _
def valSum (h l : List (BitVec 8)) : List (BitVec 8) := valR (oneW h) (zeros 8 16) l
theorem valSum_length (h l : List (BitVec 8)) : (valSum h l).length = 16 := valR_length _ _ _ rfl
/-- a length block -/
def lenB (n : Nat) (whole : Bool) : List (BitVec 8) := le64 (BitVec.ofNat 64 n <<< 4 ||| (if whole then 2#64 else 3#64)) ++ le64 (BitVec.ofNat 64 n >>> 60)
theorem lenB_length (n : Nat) (whole : Bool) : (lenB n whole).length = 16 := rfl
def lastB (M : List (BitVec 8)) : List (BitVec 8) := if M.length % 16 = 0 then M else padL (M ++ [1#8]) 16
def encB (T M : List (BitVec 8)) : List (BitVec 8) := lenB T.length (M.length % 16 == 0) ++ (padL T 16 ++ lastB M)
def hashB (h T M : List (BitVec 8)) : List (BitVec 8) := valSum h (encB T M)
@[simp] theorem hashB_length (h T M : List (BitVec 8)) : (hashB h T M).length = 16 := valSum_length _ _
theorem xor16_comm (a b : List (BitVec 8)) : xor16 a b = xor16 b a := by
  unfold xor16; congr 1; funext i; exact BitVec.xor_comm _ _
theorem xor16_assoc (a b c : List (BitVec 8)) : xor16 (xor16 a b) c = xor16 a (xor16 b c) := by
  apply ext_nth (by simp)
  intro i hi
  have hi' : i < 16 := by simpa using hi
  rw [xor16, nth_r16 _ _ hi', xor16, nth_r16 _ _ hi', xor16, nth_r16 _ _ hi', xor16, nth_r16 _ _ hi', BitVec.xor_assoc]
/-- either direction: the block between is made by S -/
def oneH (h T M : List (BitVec 8)) : List (BitVec 8) := xor16 (M.take 16) (hashB h T (M.drop 16))
def bulkH (S : List (BitVec 8) → List (BitVec 8)) (L : List (BitVec 8)) (m : Nat) (h lb T M : List (BitVec 8)) : List (BitVec 8) :=
  xcrypt L m (xor16 (xor16 (oneH h T M) (S (oneH h T M))) lb) (M.drop 16)
def doesS (S : List (BitVec 8) → List (BitVec 8)) (L : List (BitVec 8)) (m : Nat) (h lb T M : List (BitVec 8)) : List (BitVec 8) :=
  xor16 (S (oneH h T M)) (hashB h T (bulkH S L m h lb T M)) ++ bulkH S L m h lb T M
@[simp] theorem oneH_length (h T M : List (BitVec 8)) : (oneH h T M).length = 16 := xor16_length _ _
theorem bulkH_length (S : List (BitVec 8) → List (BitVec 8)) (L : List (BitVec 8)) (m : Nat) (h lb T M : List (BitVec 8)) : (bulkH S L m h lb T M).length = M.length - 16 := by
  rw [bulkH, xcrypt_length, List.length_drop]
theorem doesS_length (S : List (BitVec 8) → List (BitVec 8)) (L : List (BitVec 8)) (m : Nat) (h lb T M : List (BitVec 8)) (hM : 16 ≤ M.length) : (doesS S L m h lb T M).length = M.length := by
  rw [doesS, List.length_append, bulkH_length, xor16_length]; omega
theorem doesS_take (S : List (BitVec 8) → List (BitVec 8)) (L : List (BitVec 8)) (m : Nat) (h lb T M : List (BitVec 8)) : (doesS S L m h lb T M).take 16 = xor16 (S (oneH h T M)) (hashB h T (bulkH S L m h lb T M)) := by
  rw [doesS, List.take_left' (xor16_length _ _)]
theorem doesS_drop (S : List (BitVec 8) → List (BitVec 8)) (L : List (BitVec 8)) (m : Nat) (h lb T M : List (BitVec 8)) : (doesS S L m h lb T M).drop 16 = bulkH S L m h lb T M := by
  rw [doesS, List.drop_left' (xor16_length _ _)]
theorem oneH_does (S : List (BitVec 8) → List (BitVec 8)) (hS : ∀ x : List (BitVec 8), x.length = 16 → (S x).length = 16) (L : List (BitVec 8)) (m : Nat) (h lb T M : List (BitVec 8)) : oneH h T (doesS S L m h lb T M) = S (oneH h T M) := by
  rw [oneH, doesS_take, doesS_drop, xor16_back _ _ (hS _ (oneH_length _ _ _))]
theorem does_back (S R : List (BitVec 8) → List (BitVec 8)) (hS : ∀ x : List (BitVec 8), x.length = 16 → (S x).length = 16) (hR : ∀ x : List (BitVec 8), x.length = 16 → R (S x) = x) (L : List (BitVec 8)) (m : Nat) (h lb T M : List (BitVec 8)) (hM : 16 ≤ M.length) :
    doesS R L m h lb T (doesS S L m h lb T M) = M := by
  have h1 := oneH_does S hS L m h lb T M
  have h2 : R (oneH h T (doesS S L m h lb T M)) = oneH h T M := by rw [h1, hR _ (oneH_length _ _ _)]
  have h3 : bulkH R L m h lb T (doesS S L m h lb T M) = M.drop 16 := by
    rw [bulkH, h2, h1, doesS_drop, bulkH, xor16_comm (S (oneH h T M)) (oneH h T M)]
    exact str16_back _ _
  rw [doesS, h2, h3, oneH, xor16_back _ _ (by rw [List.length_take]; omega), List.take_append_drop]
end Go.Proofs.YtfdkmjegcghieaaGreatDoor
