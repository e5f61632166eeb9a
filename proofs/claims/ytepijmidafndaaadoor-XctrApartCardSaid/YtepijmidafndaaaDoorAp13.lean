/- Apart: a key, two starts, two places, as one row of cells -/
import Derived.Test.YtepijmidafndaaaDoorLaw13
import Derived.Test.YtepijmidafndaaaDoorGs
namespace Go.Proofs.YtepijmidafndaaaDoor
open Go.ChangeShapes Go.WideShapes Go.ChangeAt Go.RowKit
/-- an Apart's cells -/
structure ApartAt (T : Array Value) (K P Q : List (BitVec 8)) (i j : BitVec 64) : Prop where
  size : T.size = 67
  z : T.extract 0 33 = A8 K
  p : T.extract 33 49 = A8 P
  q : T.extract 49 65 = A8 Q
  i : T[65]? = some (v64 i)
  j : T[66]? = some (v64 j)
  lK : K.length = 33
  lP : P.length = 16
  lQ : Q.length = 16
@[go_sem] theorem cellsOf51 : Tryd.prog.cellsOf 51 = 67 := by kernel_rfl
section
variable {H : Type} {enc : TypeId × Value → H} {w : World} {base : Nat} {spare : Nat → Bool} {held : Bool}
set_option maxRecDepth 100000 in
theorem open_apart {r : Reach} {b0 : Nat} {v : Value} {d : DataW H} {pp : List MemPlace}
    (hv : Value.okWide Tryd.prog w r b0 51 v) (h : DataW.Trod enc Tryd.prog w base spare held 51 v d pp) :
    ∃ (T : Array Value) (K P Q : List (BitVec 8)) (i j : BitVec 64), ApartAt T K P Q i j ∧ v = .agg T := by
  unfold Value.okWide at hv
  rw [Tryd.underlying51] at hv
  obtain ⟨T, rfl, hs, _⟩ := hv
  rw [cellsOf51] at hs
  obtain ⟨fuel, hf⟩ := h
  obtain ⟨xs, m, rfl, _, hl, hxl, hi⟩ := DataW.trod_struct Tryd.underlying51 hf
  have get : ∀ i, i < 5 → ∃ y, xs[i]? = some y := fun i hi4 => ⟨xs[i]'(by rw [hxl]; simpa using hi4), List.getElem?_eq_getElem _⟩
  obtain ⟨y0, e0⟩ := get 0 (by omega)
  obtain ⟨y1, e1⟩ := get 1 (by omega)
  obtain ⟨y2, e2⟩ := get 2 (by omega)
  obtain ⟨y3, e3⟩ := get 3 (by omega)
  obtain ⟨y4, e4⟩ := get 4 (by omega)
  have h0 : DataW.trod enc Tryd.prog w base spare held m 43 ((T.toList.drop 0).take (Tryd.prog.cellsOf 43)) = some y0 := (hi 0 _ rfl).trans e0
  have h1 : DataW.trod enc Tryd.prog w base spare held m 31 ((T.toList.drop 33).take (Tryd.prog.cellsOf 31)) = some y1 := (hi 1 _ rfl).trans e1
  have h2 : DataW.trod enc Tryd.prog w base spare held m 31 ((T.toList.drop 49).take (Tryd.prog.cellsOf 31)) = some y2 := (hi 2 _ rfl).trans e2
  have h3 : DataW.trod enc Tryd.prog w base spare held m 44 ((T.toList.drop 65).take (Tryd.prog.cellsOf 44)) = some y3 := (hi 3 _ rfl).trans e3
  have h4 : DataW.trod enc Tryd.prog w base spare held m 44 ((T.toList.drop 66).take (Tryd.prog.cellsOf 44)) = some y4 := (hi 4 _ rfl).trans e4
  rw [show Tryd.prog.cellsOf 43 = 33 from cellsOf43] at h0
  rw [show Tryd.prog.cellsOf 31 = 16 from cellsOf31] at h1 h2
  rw [show Tryd.prog.cellsOf 44 = 1 by kernel_rfl] at h3 h4
  obtain ⟨K, hK, hcK⟩ := cells_key13 (by simp [hs]) h0
  obtain ⟨P, hP, hcP⟩ := cells_v8 Tryd.underlying31 Tryd.underlying5 (by kernel_rfl) (by kernel_rfl) h1
  obtain ⟨Q, hQ, hcQ⟩ := cells_v8 Tryd.underlying31 Tryd.underlying5 (by kernel_rfl) (by kernel_rfl) h2
  obtain ⟨i, hqi, _, zi⟩ := DataW.trod_int Tryd.underlying44 h3
  obtain ⟨j, hqj, _, zj⟩ := DataW.trod_int Tryd.underlying44 h4
  obtain ⟨I, hI⟩ := int_v64 zi
  obtain ⟨J, hJ⟩ := int_v64 zj
  refine ⟨T, K, P, Q, I, J, ⟨hs, ?_, ?_, ?_, ?_, ?_, hK, hP, hQ⟩, rfl⟩
  · refine A8_of_toList ?_
    rw [← hcK, Array.toList_extract]
  · refine A8_of_toList ?_
    rw [← hcP, Array.toList_extract]
  · refine A8_of_toList ?_
    rw [← hcQ, Array.toList_extract]
  · have := congrArg (fun l : List Value => l[0]?) hqi
    simp at this
    rw [← hI, ← this]
  · have := congrArg (fun l : List Value => l[0]?) hqj
    simp at this
    rw [← hJ, ← this]
end
end Go.Proofs.YtepijmidafndaaaDoor
