/- val: what Write makes of blocks, plain; slices apart from a block -/
import Derived.Test.YtfdkmjegcghieaaDoorGv
import Derived.Test.YtfdkmjegcghieaaDoorWd6
import Derived.Test.YtfdkmjegcghieaaDoorGm
namespace Go.Proofs.YtfdkmjegcghieaaDoor
open Go.RowKit
theorem Rd8.away {w w' : World} {a : Option Addr} {n c p : Nat} {l : List (BitVec 8)} (h : Rd8 w a n c l) (hg : w.grownBy w' (some p)) (ha : ∀ ad, a = some ad → ad.block ≠ p) : Rd8 w' a n c l :=
  ⟨h.1, h.2.1, h.2.2.1, fun hn => by
    obtain ⟨b, o, rfl, hb, hc⟩ := h.2.2.2 hn
    have hne : b ≠ p := ha _ rfl
    have hs := hg.size
    refine ⟨b, o, rfl, by omega, fun i hi => ?_⟩
    rw [cell_rowAt, show rowAt w' b = rowAt w b by unfold rowAt; rw [hg.block b hb (by intro e; cases e; exact hne rfl)], ← cell_rowAt]
    exact hc i hi⟩
/-- a row of 16 bytes times a key, by the key's table -/
def dotBy (one : W2) (s : List (BitVec 8)) : List (BitVec 8) := le64 (dotL (tabW one) s 32).1 ++ le64 (dotL (tabW one) s 32).2
@[simp] theorem dotBy_length (one : W2) (s : List (BitVec 8)) : (dotBy one s).length = 16 := rfl
/-- the value after so many blocks -/
def valK (one : W2) (s b : List (BitVec 8)) : Nat → List (BitVec 8)
  | 0 => s
  | k + 1 => dotBy one (blk (xorl (valK one s b k) (b.drop (16 * k))))
theorem valK_length (one : W2) (s b : List (BitVec 8)) (h : s.length = 16) : ∀ k, (valK one s b k).length = 16
  | 0 => h
  | _ + 1 => rfl
end Go.Proofs.YtfdkmjegcghieaaDoor
