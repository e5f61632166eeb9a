/- a row of bytes converted to its own type -/
import Derived.Test.YtfdkmjegcghieaaGreatDoorMGs
import Derived.Test.YtfdkmjegcghieaaGreatDoorMGb
import Derived.Test.YtfdkmjegcghieaaGreatDoorMHc
import Derived.Test.YtfdkmjegcghieaaGreatDoorMHb
import Derived.Test.YtfdkmjegcghieaaGreatDoorMGc
namespace Go.Proofs.YtfdkmjegcghieaaGreatDoor
set_option linter.unusedSimpArgs false
set_option maxRecDepth 100000
set_option maxHeartbeats 1600000
open Go.RowKit
theorem freeze_new (w : World) (C : Array Value) (e : TypeId) (n : Nat) : (w.alloc (.cells C e)).freeze ⟨w.heap.size, n, none⟩ 1 = w.alloc (.cells C e (n, n + 1)) := by
 have hm : ∀ (a : Array Obj) (x : Obj) (f : Obj → Obj), (a.push x).modify a.size f = a.push (f x) := by
  intro a x f
  apply Array.ext
  ·simp
  ·intro i h1 h2
   simp only [Array.getElem_modify, Array.getElem_push]
   by_cases h : a.size = i
   ·subst h
    simp
   ·have hi : i < a.size := by simp at h1; omega
    simp [h, hi]
 unfold World.freeze
 rw [if_neg (by decide)]
 show ({ w.alloc (.cells C e) with heap := (w.heap.push (.cells C e)).modify w.heap.size _ } : World) = _
 rw [hm]
 rfl
theorem convert_same {P : Program} (w : World) (src e : TypeId) (C : Array Value) (n c : Nat) (hs : P.underlying src = some (.slice e)) (he : P.underlying e = some (.int .u8)) :
  (convert src src (.slice (some ⟨w.heap.size, 0, none⟩) n c)).run P (w.alloc (.cells C e)) = .ok (.slice (some ⟨w.heap.size, 0, none⟩) n c) (w.alloc (.cells C e (C.size, C.size + 1))) := by
 have hsh : (w.alloc (.cells C e)).shape? w.heap.size = some (e, C.size) := by
  unfold World.shape?
  rw [heap_alloc_new]
 simp [convert, run_underlying hs, run_underlying he, markStringish, hsh]
 exact freeze_new w C e _
theorem nth_sumTo (t s : List (BitVec 32)) (k : Nat) (hk : k < t.length) : ∀ j, j ≤ t.length → nth (chsumTo t s j) k = if k < j then nth t k + nth s k else nth t k
 | 0, _ => by simp [chsumTo]
 | j + 1, h => by
  rw [chsumTo, nth_set _ _ _ _ (by rw [chsumTo_length]; omega)]
  by_cases e : j = k
  ·subst e
   rw [if_pos rfl, if_pos (by omega), nth_sumTo t s j hk j (by omega), if_neg (by omega)]
  ·rw [if_neg e, nth_sumTo t s k hk j (by omega)]
   by_cases h1 : k < j
   ·rw [if_pos h1, if_pos (by omega)]
   ·rw [if_neg h1, if_neg (by omega)]
open Go.RowKit
theorem startTo_lit (key inp : List (BitVec 8)) : startTo key inp 4 = [word letters 0, word letters 4, word letters 8, word letters 12, word key 0, word key 4, word key 8, word key 12, word key 16, word key 20, word key 24, word key 28, word inp 0, word inp 4, word inp 8, word inp 12] := rfl
theorem start_bytes (key inp : List (BitVec 8)) (hk : key.length = 32) (hi : inp.length = 16) (j : Nat) (hj : j < 16) : le32 (nth (startTo key inp 4) j) = ((letters ++ key ++ inp).drop (4 * j)).take 4 := by
 have hl : letters.length = 16 := rfl
 have hlen : (letters ++ key ++ inp).length = 64 := by simp [hk, hi, hl]
 rw [take4 _ _ (by rw [hlen]; omega), startTo_lit]
 have : j = 0 ∨ j = 1 ∨ j = 2 ∨ j = 3 ∨ j = 4 ∨ j = 5 ∨ j = 6 ∨ j = 7 ∨ j = 8 ∨ j = 9 ∨ j = 10 ∨ j = 11 ∨ j = 12 ∨ j = 13 ∨ j = 14 ∨ j = 15 := by omega
 rcases this with rfl | rfl | rfl | rfl | rfl | rfl | rfl | rfl | rfl | rfl | rfl | rfl | rfl | rfl | rfl | rfl <;>
  (show le32 (word _ _) = _; rw [le32_word]; simp [nth_append, hk, hl])
end Go.Proofs.YtfdkmjegcghieaaGreatDoor
