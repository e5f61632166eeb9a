/- Arguments that come in: arrays and slices of numbers, as lists of bit vectors. -/
import Derived.Test.YthogbbigglmapaaRows
import Derived.Test.YthogbbigglmapaaStr
import Derived.ProofKit
import Derived.OpenShut
import Derived.ShutString
import Derived.ChangeOld
import Derived.Below
namespace Go.Proofs.Ythogbbigglmapaa
open Go.ChangeShapes Go.WideShapes Go.ChangeAt Go.RowKit
theorem own : ownKnob Try.prog.godebug = none := by kernel_rfl
theorem laidOut : laidOutB Try.prog = true := by kernel_rfl
section
variable {H : Type} {enc : TypeId × Value → H} {P : Program} {w : World} {base : Nat} {spare : Nat → Bool} {held : Bool}
theorem int_v8 {a : Int} (h : (Lit.int .u8 a).wf = true) : ∃ x : BitVec 8, Value.int .u8 a = v8 x := by
  have hb := bounds_u8 h
  refine ⟨BitVec.ofInt 8 a, ?_⟩
  unfold v8
  congr 1
  rw [BitVec.toNat_ofInt]
  omega
theorem list_v8 : ∀ (zs : List Int), (∀ n ∈ zs, (Lit.int .u8 n).wf = true) → ∃ l : List (BitVec 8), zs.map (Value.int .u8) = l.map v8
  | [], _ => ⟨[], rfl⟩
  | z :: zs, h => by
    obtain ⟨x, hx⟩ := int_v8 (h z (by simp))
    obtain ⟨l, hl⟩ := list_v8 zs (fun n hn => h n (by simp [hn]))
    exact ⟨x :: l, by simp [hx, hl]⟩
theorem zs_v8 : ∀ cs : List Value, (∀ i, i < cs.length → ∃ a : Int, cs[i]? = some (.int .u8 a) ∧ (Lit.int .u8 a).wf = true) → ∃ zs : List Int, cs = zs.map (Value.int .u8) ∧ ∀ n ∈ zs, (Lit.int .u8 n).wf = true
  | [], _ => ⟨[], rfl, by simp⟩
  | c :: cs, step => by
    obtain ⟨a, ha, hw⟩ := step 0 (by simp)
    obtain ⟨zs, hz, hzw⟩ := zs_v8 cs (fun i hi => by
      obtain ⟨b, hb, hwb⟩ := step (i + 1) (by simpa using hi)
      exact ⟨b, by simpa using hb, hwb⟩)
    simp at ha
    refine ⟨a :: zs, by rw [ha, hz]; rfl, fun n hn => ?_⟩
    rcases List.mem_cons.1 hn with rfl | hn
    · exact hw
    · exact hzw n hn
/-- an array's cells, read as data -/
theorem cells_v8 {n : Nat} {t e : TypeId} {fuel : Nat} {cs : List Value} {x : DataW H × List MemPlace} (ht : P.underlying t = some (.array n e)) (he : P.underlying e = some (.int .u8)) (hce : P.cellsOf e = 1) (hct : P.cellsOf t = n)
    (h : DataW.trod enc P w base spare held fuel t cs = some x) : ∃ l : List (BitVec 8), l.length = n ∧ cs = l.map v8 := by
  obtain ⟨xs, m, rfl, rfl, hlen, hx, hi⟩ := DataW.trod_array ht h
  have hzs : ∃ zs : List Int, cs = zs.map (Value.int .u8) ∧ ∀ n ∈ zs, (Lit.int .u8 n).wf = true := by
    have step : ∀ i, i < n → ∃ a : Int, cs[i]? = some (.int .u8 a) ∧ (Lit.int .u8 a).wf = true := by
      intro i hin
      have h1 := hi i hin
      rw [hce, Nat.mul_one] at h1
      obtain ⟨y, hy⟩ : ∃ y, xs[i]? = some y := ⟨xs[i]'(by omega), List.getElem?_eq_getElem (by omega)⟩
      rw [hy] at h1
      obtain ⟨a, hc, _, hw⟩ := DataW.trod_int he h1
      refine ⟨a, ?_, hw⟩
      have h2 := congrArg (fun l : List Value => l[0]?) hc
      simpa using h2
    exact zs_v8 cs (fun i hi => step i (by rw [hct] at hlen; omega))
  obtain ⟨zs, rfl, hw⟩ := hzs
  obtain ⟨l, hl⟩ := list_v8 zs hw
  refine ⟨l, ?_, hl⟩
  have := congrArg List.length hl
  simp at this hlen
  rw [hct] at hlen
  omega
theorem open_arr8 {r : Reach} {b0 n : Nat} {t e : TypeId} {v : Value} {d : DataW H} {p : List MemPlace} (ht : P.underlying t = some (.array n e)) (he : P.underlying e = some (.int .u8)) (hce : P.cellsOf e = 1) (hct : P.cellsOf t = n)
    (hv : Value.okWide P w r b0 t v) (h : DataW.Trod enc P w base spare held t v d p) : ∃ l : List (BitVec 8), l.length = n ∧ v = .agg (A8 l) := by
  unfold Value.okWide at hv
  rw [ht] at hv
  obtain ⟨cs, rfl, _, _⟩ := hv
  obtain ⟨fuel, hf⟩ := h
  obtain ⟨l, hl, hc⟩ := cells_v8 ht he hce hct hf
  refine ⟨l, hl, ?_⟩
  congr 1
  apply Array.ext'
  rw [A8_toList, ← hc]
  rfl
theorem int_v32 {a : Int} (h : (Lit.int .u32 a).wf = true) : ∃ x : BitVec 32, Value.int .u32 a = v32 x := by
  have hb := bounds_u32 h
  refine ⟨BitVec.ofInt 32 a, ?_⟩
  unfold v32
  congr 1
  rw [BitVec.toNat_ofInt]
  omega
theorem list_v32 : ∀ (zs : List Int), (∀ n ∈ zs, (Lit.int .u32 n).wf = true) → ∃ l : List (BitVec 32), zs.map (Value.int .u32) = l.map v32
  | [], _ => ⟨[], rfl⟩
  | z :: zs, h => by
    obtain ⟨x, hx⟩ := int_v32 (h z (by simp))
    obtain ⟨l, hl⟩ := list_v32 zs (fun n hn => h n (by simp [hn]))
    exact ⟨x :: l, by simp [hx, hl]⟩
theorem zs_v32 : ∀ cs : List Value, (∀ i, i < cs.length → ∃ a : Int, cs[i]? = some (.int .u32 a) ∧ (Lit.int .u32 a).wf = true) → ∃ zs : List Int, cs = zs.map (Value.int .u32) ∧ ∀ n ∈ zs, (Lit.int .u32 n).wf = true
  | [], _ => ⟨[], rfl, by simp⟩
  | c :: cs, step => by
    obtain ⟨a, ha, hw⟩ := step 0 (by simp)
    obtain ⟨zs, hz, hzw⟩ := zs_v32 cs (fun i hi => by
      obtain ⟨b, hb, hwb⟩ := step (i + 1) (by simpa using hi)
      exact ⟨b, by simpa using hb, hwb⟩)
    simp at ha
    refine ⟨a :: zs, by rw [ha, hz]; rfl, fun n hn => ?_⟩
    rcases List.mem_cons.1 hn with rfl | hn
    · exact hw
    · exact hzw n hn
/-- an array's cells, read as data -/
theorem cells_v32 {n : Nat} {t e : TypeId} {fuel : Nat} {cs : List Value} {x : DataW H × List MemPlace} (ht : P.underlying t = some (.array n e)) (he : P.underlying e = some (.int .u32)) (hce : P.cellsOf e = 1) (hct : P.cellsOf t = n)
    (h : DataW.trod enc P w base spare held fuel t cs = some x) : ∃ l : List (BitVec 32), l.length = n ∧ cs = l.map v32 := by
  obtain ⟨xs, m, rfl, rfl, hlen, hx, hi⟩ := DataW.trod_array ht h
  have hzs : ∃ zs : List Int, cs = zs.map (Value.int .u32) ∧ ∀ n ∈ zs, (Lit.int .u32 n).wf = true := by
    have step : ∀ i, i < n → ∃ a : Int, cs[i]? = some (.int .u32 a) ∧ (Lit.int .u32 a).wf = true := by
      intro i hin
      have h1 := hi i hin
      rw [hce, Nat.mul_one] at h1
      obtain ⟨y, hy⟩ : ∃ y, xs[i]? = some y := ⟨xs[i]'(by omega), List.getElem?_eq_getElem (by omega)⟩
      rw [hy] at h1
      obtain ⟨a, hc, _, hw⟩ := DataW.trod_int he h1
      refine ⟨a, ?_, hw⟩
      have h2 := congrArg (fun l : List Value => l[0]?) hc
      simpa using h2
    exact zs_v32 cs (fun i hi => step i (by rw [hct] at hlen; omega))
  obtain ⟨zs, rfl, hw⟩ := hzs
  obtain ⟨l, hl⟩ := list_v32 zs hw
  refine ⟨l, ?_, hl⟩
  have := congrArg List.length hl
  simp at this hlen
  rw [hct] at hlen
  omega
theorem open_arr32 {r : Reach} {b0 n : Nat} {t e : TypeId} {v : Value} {d : DataW H} {p : List MemPlace} (ht : P.underlying t = some (.array n e)) (he : P.underlying e = some (.int .u32)) (hce : P.cellsOf e = 1) (hct : P.cellsOf t = n)
    (hv : Value.okWide P w r b0 t v) (h : DataW.Trod enc P w base spare held t v d p) : ∃ l : List (BitVec 32), l.length = n ∧ v = .agg (A32 l) := by
  unfold Value.okWide at hv
  rw [ht] at hv
  obtain ⟨cs, rfl, _, _⟩ := hv
  obtain ⟨fuel, hf⟩ := h
  obtain ⟨l, hl, hc⟩ := cells_v32 ht he hce hct hf
  refine ⟨l, hl, ?_⟩
  congr 1
  apply Array.ext'
  rw [A32_toList, ← hc]
  rfl
theorem int_v64 {a : Int} (h : (Lit.int .u64 a).wf = true) : ∃ x : BitVec 64, Value.int .u64 a = v64 x := by
  have hb := bounds_u64 h
  refine ⟨BitVec.ofInt 64 a, ?_⟩
  unfold v64
  congr 1
  rw [BitVec.toNat_ofInt]
  omega
theorem list_v64 : ∀ (zs : List Int), (∀ n ∈ zs, (Lit.int .u64 n).wf = true) → ∃ l : List (BitVec 64), zs.map (Value.int .u64) = l.map v64
  | [], _ => ⟨[], rfl⟩
  | z :: zs, h => by
    obtain ⟨x, hx⟩ := int_v64 (h z (by simp))
    obtain ⟨l, hl⟩ := list_v64 zs (fun n hn => h n (by simp [hn]))
    exact ⟨x :: l, by simp [hx, hl]⟩
theorem zs_v64 : ∀ cs : List Value, (∀ i, i < cs.length → ∃ a : Int, cs[i]? = some (.int .u64 a) ∧ (Lit.int .u64 a).wf = true) → ∃ zs : List Int, cs = zs.map (Value.int .u64) ∧ ∀ n ∈ zs, (Lit.int .u64 n).wf = true
  | [], _ => ⟨[], rfl, by simp⟩
  | c :: cs, step => by
    obtain ⟨a, ha, hw⟩ := step 0 (by simp)
    obtain ⟨zs, hz, hzw⟩ := zs_v64 cs (fun i hi => by
      obtain ⟨b, hb, hwb⟩ := step (i + 1) (by simpa using hi)
      exact ⟨b, by simpa using hb, hwb⟩)
    simp at ha
    refine ⟨a :: zs, by rw [ha, hz]; rfl, fun n hn => ?_⟩
    rcases List.mem_cons.1 hn with rfl | hn
    · exact hw
    · exact hzw n hn
/-- an array's cells, read as data -/
theorem cells_v64 {n : Nat} {t e : TypeId} {fuel : Nat} {cs : List Value} {x : DataW H × List MemPlace} (ht : P.underlying t = some (.array n e)) (he : P.underlying e = some (.int .u64)) (hce : P.cellsOf e = 1) (hct : P.cellsOf t = n)
    (h : DataW.trod enc P w base spare held fuel t cs = some x) : ∃ l : List (BitVec 64), l.length = n ∧ cs = l.map v64 := by
  obtain ⟨xs, m, rfl, rfl, hlen, hx, hi⟩ := DataW.trod_array ht h
  have hzs : ∃ zs : List Int, cs = zs.map (Value.int .u64) ∧ ∀ n ∈ zs, (Lit.int .u64 n).wf = true := by
    have step : ∀ i, i < n → ∃ a : Int, cs[i]? = some (.int .u64 a) ∧ (Lit.int .u64 a).wf = true := by
      intro i hin
      have h1 := hi i hin
      rw [hce, Nat.mul_one] at h1
      obtain ⟨y, hy⟩ : ∃ y, xs[i]? = some y := ⟨xs[i]'(by omega), List.getElem?_eq_getElem (by omega)⟩
      rw [hy] at h1
      obtain ⟨a, hc, _, hw⟩ := DataW.trod_int he h1
      refine ⟨a, ?_, hw⟩
      have h2 := congrArg (fun l : List Value => l[0]?) hc
      simpa using h2
    exact zs_v64 cs (fun i hi => step i (by rw [hct] at hlen; omega))
  obtain ⟨zs, rfl, hw⟩ := hzs
  obtain ⟨l, hl⟩ := list_v64 zs hw
  refine ⟨l, ?_, hl⟩
  have := congrArg List.length hl
  simp at this hlen
  rw [hct] at hlen
  omega
theorem open_arr64 {r : Reach} {b0 n : Nat} {t e : TypeId} {v : Value} {d : DataW H} {p : List MemPlace} (ht : P.underlying t = some (.array n e)) (he : P.underlying e = some (.int .u64)) (hce : P.cellsOf e = 1) (hct : P.cellsOf t = n)
    (hv : Value.okWide P w r b0 t v) (h : DataW.Trod enc P w base spare held t v d p) : ∃ l : List (BitVec 64), l.length = n ∧ v = .agg (A64 l) := by
  unfold Value.okWide at hv
  rw [ht] at hv
  obtain ⟨cs, rfl, _, _⟩ := hv
  obtain ⟨fuel, hf⟩ := h
  obtain ⟨l, hl, hc⟩ := cells_v64 ht he hce hct hf
  refine ⟨l, hl, ?_⟩
  congr 1
  apply Array.ext'
  rw [A64_toList, ← hc]
  rfl
/-- a slice of bytes that came in -/
theorem open_bytes {t e : TypeId} {a : Option Addr} {n c : Nat} {d : DataW H} {p : List MemPlace} (ht : P.underlying t = some (.slice e)) (he : P.underlying e = some (.int .u8)) (hce : P.cellsOf e = 1)
    (h : DataW.Trod enc P w base spare held t (.slice a n c) d p) : ∃ l : List (BitVec 8), Rd8 w a n c l := by
  obtain ⟨fuel, hf⟩ := h
  rcases open_ints ht he hce hf with ⟨hcs, _⟩ | ⟨x, l, c', zs, hcs, _, hl, hm, hz, hx, hcell, hwz⟩
  · simp [Value.cells] at hcs
    obtain ⟨rfl, rfl, rfl⟩ := hcs
    exact ⟨[], rfl, Nat.le_refl _, by unfold maxLen; omega, fun h => absurd h (by omega)⟩
  · simp [Value.cells] at hcs
    obtain ⟨rfl, rfl, rfl⟩ := hcs
    obtain ⟨l', hl'⟩ := list_v8 zs hwz
    have hzn : n ≤ zs.length := by rw [hz]; split <;> omega
    have hlen : l'.length = zs.length := by have := congrArg List.length hl'; simp at this; omega
    refine ⟨l'.take n, by simp; omega, hl, hm, fun hn => ?_⟩
    have hc0 := hcell 0 (by omega)
    obtain ⟨b, off, spot⟩ := x
    have hspot : spot = none := by simpa [Addr.add] using World.cell?_spot hc0
    subst hspot
    refine ⟨b, off, rfl, ?_, fun i hi => ?_⟩
    · have := World.block_lt_of_cell? w _ hc0
      simpa [Addr.add] using this
    · have h1 := hcell i (by omega)
      rw [Addr.add_lit] at h1
      rw [h1, nth_take _ _ _ hi]
      have h2 := congrArg (fun l : List Value => l[i]?) hl'
      have hi1 : i < zs.length := by omega
      have hi2 : i < l'.length := by omega
      simp only [List.getElem?_map, nth_eq hi2, List.getElem?_eq_getElem hi1, Option.map_some] at h2
      rw [← h2]
      congr 2
      simp [hi1]
end
end Go.Proofs.Ythogbbigglmapaa
