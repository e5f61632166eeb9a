/- Key: a key's bytes and which length it has; the tables, made anew -/
import Derived.Test.YtepijmidafndaaaDoorGs
import Derived.Test.YtepijmidafndaaaDoorGb
import Derived.Test.YtepijmidafndaaaDoorAesP
namespace Go.Proofs.YtepijmidafndaaaDoor
open Go.ChangeShapes Go.WideShapes Go.ChangeAt Go.RowKit
theorem A8_of_toList {T : Array Value} {l : List (BitVec 8)} (h : T.toList = l.map v8) : T = A8 l := by
  apply Array.ext'; rw [A8_toList]; exact h
@[go_sem] theorem cellsOf58 : Tryd.prog.cellsOf 58 = 33 := by kernel_rfl
section
variable {H : Type} {enc : TypeId × Value → H} {w : World} {base : Nat} {spare : Nat → Bool} {held : Bool}
set_option maxRecDepth 100000 in
theorem cells_key4 {fuel : Nat} {cs : List Value} {x : DataW H × List MemPlace} (hs : cs.length = 33) (hf : DataW.trod enc Tryd.prog w base spare held fuel 58 cs = some x) : ∃ K : List (BitVec 8), K.length = 33 ∧ cs = K.map v8 := by
  obtain ⟨xs, m, rfl, _, hl, hxl, hi⟩ := DataW.trod_struct Tryd.underlying58 hf
  have get : ∀ i, i < 2 → ∃ y, xs[i]? = some y := fun i hi4 => ⟨xs[i]'(by rw [hxl]; simpa using hi4), List.getElem?_eq_getElem _⟩
  obtain ⟨y0, e0⟩ := get 0 (by omega)
  obtain ⟨y1, e1⟩ := get 1 (by omega)
  have h0 : DataW.trod enc Tryd.prog w base spare held m 41 ((cs.drop 0).take (Tryd.prog.cellsOf 41)) = some y0 := (hi 0 _ rfl).trans e0
  have h1 : DataW.trod enc Tryd.prog w base spare held m 5 ((cs.drop 32).take (Tryd.prog.cellsOf 5)) = some y1 := (hi 1 _ rfl).trans e1
  rw [show Tryd.prog.cellsOf 41 = 32 from cellsOf41] at h0
  rw [show Tryd.prog.cellsOf 5 = 1 by kernel_rfl] at h1
  obtain ⟨k, hk, hck⟩ := cells_v8 Tryd.underlying41 Tryd.underlying5 (by kernel_rfl) (by kernel_rfl) h0
  obtain ⟨q, hq, _, hw⟩ := DataW.trod_int Tryd.underlying5 h1
  obtain ⟨z, hz⟩ := int_v8 hw
  refine ⟨k ++ [z], by simp [hk], ?_⟩
  rw [List.map_append, ← hck, List.map_cons, List.map_nil, ← hz, ← hq, List.drop_zero]
  conv => lhs; rw [← List.take_append_drop 32 cs]
  rw [List.take_of_length_le (l := cs.drop 32) (by simp [hs])]
set_option maxRecDepth 100000 in
theorem open_key4 {r : Reach} {b0 : Nat} {v : Value} {d : DataW H} {p : List MemPlace}
    (hv : Value.okWide Tryd.prog w r b0 58 v) (h : DataW.Trod enc Tryd.prog w base spare held 58 v d p) : ∃ K : List (BitVec 8), K.length = 33 ∧ v = .agg (A8 K) := by
  unfold Value.okWide at hv
  rw [Tryd.underlying58] at hv
  obtain ⟨T, rfl, hs, _⟩ := hv
  rw [cellsOf58] at hs
  obtain ⟨fuel, hf⟩ := h
  have hf' : DataW.trod enc Tryd.prog w base spare held fuel 58 T.toList = some (d, p) := hf
  obtain ⟨K, hK, hc⟩ := cells_key4 (by simpa using hs) hf'
  exact ⟨K, hK, by rw [A8_of_toList (T := T) hc]⟩
end
@[go_sem] theorem cellsOf43 : Tryd.prog.cellsOf 43 = 33 := by kernel_rfl
section
variable {H : Type} {enc : TypeId × Value → H} {w : World} {base : Nat} {spare : Nat → Bool} {held : Bool}
set_option maxRecDepth 100000 in
theorem cells_key13 {fuel : Nat} {cs : List Value} {x : DataW H × List MemPlace} (hs : cs.length = 33) (hf : DataW.trod enc Tryd.prog w base spare held fuel 43 cs = some x) : ∃ K : List (BitVec 8), K.length = 33 ∧ cs = K.map v8 := by
  obtain ⟨xs, m, rfl, _, hl, hxl, hi⟩ := DataW.trod_struct Tryd.underlying43 hf
  have get : ∀ i, i < 2 → ∃ y, xs[i]? = some y := fun i hi4 => ⟨xs[i]'(by rw [hxl]; simpa using hi4), List.getElem?_eq_getElem _⟩
  obtain ⟨y0, e0⟩ := get 0 (by omega)
  obtain ⟨y1, e1⟩ := get 1 (by omega)
  have h0 : DataW.trod enc Tryd.prog w base spare held m 41 ((cs.drop 0).take (Tryd.prog.cellsOf 41)) = some y0 := (hi 0 _ rfl).trans e0
  have h1 : DataW.trod enc Tryd.prog w base spare held m 5 ((cs.drop 32).take (Tryd.prog.cellsOf 5)) = some y1 := (hi 1 _ rfl).trans e1
  rw [show Tryd.prog.cellsOf 41 = 32 from cellsOf41] at h0
  rw [show Tryd.prog.cellsOf 5 = 1 by kernel_rfl] at h1
  obtain ⟨k, hk, hck⟩ := cells_v8 Tryd.underlying41 Tryd.underlying5 (by kernel_rfl) (by kernel_rfl) h0
  obtain ⟨q, hq, _, hw⟩ := DataW.trod_int Tryd.underlying5 h1
  obtain ⟨z, hz⟩ := int_v8 hw
  refine ⟨k ++ [z], by simp [hk], ?_⟩
  rw [List.map_append, ← hck, List.map_cons, List.map_nil, ← hz, ← hq, List.drop_zero]
  conv => lhs; rw [← List.take_append_drop 32 cs]
  rw [List.take_of_length_le (l := cs.drop 32) (by simp [hs])]
set_option maxRecDepth 100000 in
theorem open_key13 {r : Reach} {b0 : Nat} {v : Value} {d : DataW H} {p : List MemPlace}
    (hv : Value.okWide Tryd.prog w r b0 43 v) (h : DataW.Trod enc Tryd.prog w base spare held 43 v d p) : ∃ K : List (BitVec 8), K.length = 33 ∧ v = .agg (A8 K) := by
  unfold Value.okWide at hv
  rw [Tryd.underlying43] at hv
  obtain ⟨T, rfl, hs, _⟩ := hv
  rw [cellsOf43] at hs
  obtain ⟨fuel, hf⟩ := h
  have hf' : DataW.trod enc Tryd.prog w base spare held fuel 43 T.toList = some (d, p) := hf
  obtain ⟨K, hK, hc⟩ := cells_key13 (by simpa using hs) hf'
  exact ⟨K, hK, by rw [A8_of_toList (T := T) hc]⟩
end
/-- how many of a key's bytes count -/
def keyN (K : List (BitVec 8)) : Nat := 16 + 8 * (nth K 32 % 3#8).toNat
def keyB (K : List (BitVec 8)) : List (BitVec 8) := K.take (keyN K)
theorem keyN_or (K : List (BitVec 8)) : keyN K = 16 ∨ keyN K = 24 ∨ keyN K = 32 := by
  have h : (nth K 32 % 3#8).toNat < 3 := by rw [BitVec.toNat_umod]; exact Nat.mod_lt _ (by decide)
  unfold keyN; omega
theorem keyB_length (K : List (BitVec 8)) (h : K.length = 33) : (keyB K).length = keyN K := by
  have := keyN_or K
  rw [keyB, List.length_take, h]; omega
@[go_sem high] theorem v8_rem3 (t : TypeId) (a : BitVec 8) : binOp .rem t (v8 a) (.int .u8 3) = pure (v8 (a % 3#8)) := by
  simp [v8, binOp, Op.intDiv, Int.tmod_eq_emod_of_nonneg]
end Go.Proofs.YtepijmidafndaaaDoor
