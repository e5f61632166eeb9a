/- chacha by definition: places, Mix -/
import Derived.Test.YthogbbigglmapaaRef1
import Derived.Test.YthogbbigglmapaaStill2
import Derived.Test.YthogbbigglmapaaText4
namespace Go.Proofs.Ythogbbigglmapaa
open Go.RowKit
def flat : List Nat := [0, 4, 8, 12, 1, 5, 9, 13, 2, 6, 10, 14, 3, 7, 11, 15, 0, 5, 10, 15, 1, 6, 11, 12, 2, 7, 8, 13, 3, 4, 9, 14]
/-- the quarters of two rounds, as cells -/
def PL : Array Value := (flat.map fun (n : Nat) => Value.int .i64 (n : Int)).toArray
def placeAt (k j : Nat) : Nat := flat.getD (4 * k + j) 0
theorem PL_get (k j : Nat) (hk : k < 8) (hj : j < 4) : PL[4 * k + j]? = some (.int .i64 (placeAt k j)) := by
  have hl : 4 * k + j < flat.length := by show _ < 32; omega
  unfold PL placeAt
  rw [List.getElem?_toArray, List.getElem?_map, List.getElem?_eq_getElem hl, List.getD_eq_getElem?_getD, List.getElem?_eq_getElem hl]
  rfl
theorem placeAt_lt : ∀ (k : Fin 8) (j : Fin 4), placeAt k.val j.val < 16 := by decide
theorem PL_lit : PL = #[Value.int .i64 0, Value.int .i64 4, Value.int .i64 8, Value.int .i64 12, Value.int .i64 1, Value.int .i64 5, Value.int .i64 9, Value.int .i64 13, Value.int .i64 2, Value.int .i64 6, Value.int .i64 10, Value.int .i64 14, Value.int .i64 3, Value.int .i64 7, Value.int .i64 11, Value.int .i64 15, Value.int .i64 0, Value.int .i64 5, Value.int .i64 10, Value.int .i64 15, Value.int .i64 1, Value.int .i64 6, Value.int .i64 11, Value.int .i64 12, Value.int .i64 2, Value.int .i64 7, Value.int .i64 8, Value.int .i64 13, Value.int .i64 3, Value.int .i64 4, Value.int .i64 9, Value.int .i64 14] := rfl
@[go_sem] theorem cellsOf86 : Try.prog.cellsOf 86 = 32 := by kernel_rfl
@[go_sem] theorem cellsOf85 : Try.prog.cellsOf 85 = 4 := by kernel_rfl
set_option linter.unusedSimpArgs false in
set_option maxRecDepth 100000 in
theorem places_any (w : World) : Calls Try.prog 51 #[] w fun e w' => e = .returned (.agg PL) ∧ Below w.heap.size w w' := by
  obtain ⟨W, hW⟩ : ∃ W, w.alloc (.cells #[Value.int .i64 0, Value.int .i64 0, Value.int .i64 0, Value.int .i64 0, Value.int .i64 0, Value.int .i64 0, Value.int .i64 0, Value.int .i64 0, Value.int .i64 0, Value.int .i64 0, Value.int .i64 0, Value.int .i64 0, Value.int .i64 0, Value.int .i64 0, Value.int .i64 0, Value.int .i64 0, Value.int .i64 0, Value.int .i64 0, Value.int .i64 0, Value.int .i64 0, Value.int .i64 0, Value.int .i64 0, Value.int .i64 0, Value.int .i64 0, Value.int .i64 0, Value.int .i64 0, Value.int .i64 0, Value.int .i64 0, Value.int .i64 0, Value.int .i64 0, Value.int .i64 0, Value.int .i64 0] 86) = W := ⟨_, rfl⟩
  obtain ⟨b0, hb, hz⟩ := new1 _ _ _ _ hW
  have r0 := b0.row
  have r1 := b0.whole
  have ho : ones #[Value.int .i64 0, Value.int .i64 4, Value.int .i64 8, Value.int .i64 12, Value.int .i64 1, Value.int .i64 5, Value.int .i64 9, Value.int .i64 13, Value.int .i64 2, Value.int .i64 6, Value.int .i64 10, Value.int .i64 14, Value.int .i64 3, Value.int .i64 7, Value.int .i64 11, Value.int .i64 15, Value.int .i64 0, Value.int .i64 5, Value.int .i64 10, Value.int .i64 15, Value.int .i64 1, Value.int .i64 6, Value.int .i64 11, Value.int .i64 12, Value.int .i64 2, Value.int .i64 7, Value.int .i64 8, Value.int .i64 13, Value.int .i64 3, Value.int .i64 4, Value.int .i64 9, Value.int .i64 14] = true := by simp [ones, Value.oneCell']
  have hs : (rowAt W w.heap.size).size = 32 := by rw [r0]; rfl
  have B := Lib.hid hb
  clear hb hz b0 r0
  go_enter Try.func51, Try.ntmps51
  go_wp2
  rw [← PL_lit]
  have r2 := rowAt_setRow (w := W) (g := w.heap.size) PL r1
  refine bodyPost_row PL rfl rfl rfl (Try.isAgg86 _) (Try.sizeOf86 _) rfl r2 ⟨rfl, below_setRow B.out (by omega) _⟩
end Go.Proofs.Ythogbbigglmapaa
