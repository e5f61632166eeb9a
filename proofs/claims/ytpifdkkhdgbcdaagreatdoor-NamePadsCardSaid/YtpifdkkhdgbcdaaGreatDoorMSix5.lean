/- strings that come in, as lists of bit vectors -/
import Derived.Test.YtpifdkkhdgbcdaaGreatDoorMGs
import Derived.ChangeMaps5
namespace Go.Proofs.YtpifdkkhdgbcdaaGreatDoor
set_option linter.unusedSimpArgs false
set_option maxRecDepth 100000
set_option maxHeartbeats 1600000
open Go.ChangeShapes Go.WideShapes Go.ChangeAt Go.RowKit
theorem str_of (s : ByteArray) : ∃ l : List (BitVec 8), s = str l ∧ l.length = s.size := by
 refine ⟨s.data.toList.map (·.toBitVec), ?_, by simp⟩
 unfold str
 rw [List.map_map]
 have e : (UInt8.ofBitVec ∘ fun x : UInt8 => x.toBitVec) = id := by funext x; rfl
 rw [e, List.map_id]
theorem open_str {H : Type} {enc : TypeId × Value → H} {P : Program} {w : World} {base : Nat} {spare : Nat → Bool} {held : Bool} {r : Reach} {b0 : Nat} {t : TypeId} {v : Value} {d : DataW H} {p : List MemPlace} (ht : P.underlying t = some .string)
  (hv : Value.okWide P w r b0 t v) (h : DataW.Trod enc P w base spare held t v d p) : ∃ l : List (BitVec 8), v = .string (str l) ∧ l.length ≤ maxLen := by
 obtain ⟨s, rfl, _, _, hs⟩ := Go.ChangeMaps.open_string ht hv h
 obtain ⟨l, rfl, hl⟩ := str_of s
 exact ⟨l, rfl, by omega⟩
end Go.Proofs.YtpifdkkhdgbcdaaGreatDoor
