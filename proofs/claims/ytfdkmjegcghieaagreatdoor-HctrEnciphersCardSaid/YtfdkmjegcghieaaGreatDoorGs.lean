/- Strings of bytes; append onto a slice that has no room. No function of the program in sight. -/
import Derived.Test.YtfdkmjegcghieaaGreatDoorGt
import Derived.Test.YtfdkmjegcghieaaGreatDoorRows
import Derived.ProofKit
import Derived.OpenShut
import Derived.ShutString
import Derived.ChangeOld
import Derived.Below
import Derived.Test.YtfdkmjegcghieaaGreatDoorGa
namespace Go.Proofs.YtfdkmjegcghieaaGreatDoor
open Go.RowKit
/-- bytes as a string -/
def str (l : List (BitVec 8)) : ByteArray := ⟨(l.map UInt8.ofBitVec).toArray⟩
theorem str_data (l : List (BitVec 8)) : (str l).data.toList = l.map UInt8.ofBitVec := by simp [str]
theorem str_toList (l : List (BitVec 8)) : (str l).toList = l.map UInt8.ofBitVec := by
  rw [ByteArray.toList_eq, str_data]
theorem str_size (l : List (BitVec 8)) : (str l).size = l.length := by
  show (str l).data.size = _
  simp [str]
theorem str_inj {a b : List (BitVec 8)} (h : str a = str b) : a = b := by
  have h' := congrArg (fun s : ByteArray => s.data.toList) h
  simp only [str_data] at h'
  have e : ∀ l : List (BitVec 8), (l.map UInt8.ofBitVec).map UInt8.toBitVec = l := by
    intro l
    rw [List.map_map]
    have : (UInt8.toBitVec ∘ UInt8.ofBitVec) = id := by funext x; rfl
    rw [this, List.map_id]
  rw [← e a, h', e b]
theorem str_beq (a b : List (BitVec 8)) : ((str a).toList == (str b).toList) = (a == b) := by
  rw [str_toList, str_toList]
  rw [Bool.eq_iff_iff, beq_iff_eq, beq_iff_eq]
  constructor
  · intro h
    apply str_inj
    unfold str; rw [h]
  · rintro rfl; rfl
section
variable {P : Program}
theorem run_str (w : World) (T S e : TypeId) (a : Option Addr) (n c : Nat) (l : List (BitVec 8)) (hT : P.underlying T = some (.slice e)) (hS : P.underlying S = some .string) (he : P.underlying e = some (.int .u8)) (hr : Rd8 w a n c l) :
    (convert T S (.slice a n c)).run P w = .ok (.string (str l)) w := by
  rw [run_convert_bytes_string w T S e a n c hT he hS]
  have key : ∀ (l : List (BitVec 8)) (r : ByteArray), ((l.map fun x => (x.toNat : Int)).foldl (fun r n => r.push (UInt8.ofNat n.toNat)) r) = ⟨r.data ++ (l.map UInt8.ofBitVec).toArray⟩ := by
    intro l
    induction l with
    | nil => intro r; simp
    | cons x l ih =>
      intro r
      rw [List.map_cons, List.foldl_cons, ih]
      have hx : UInt8.ofNat (x.toNat : Int).toNat = UInt8.ofBitVec x := by
        rw [Int.toNat_natCast, ← UInt8.toNat_inj]
        simp
      rw [hx]
      show (⟨_⟩ : ByteArray) = _
      congr 1
      simp [ByteArray.push]
  by_cases h0 : n = 0
  · subst h0
    have : l = [] := List.eq_nil_of_length_eq_zero hr.1
    subst this
    cases a with
    | none => rfl
    | some ad =>
      have := run_bytesToString (P := P) w ad 0 c [] (by simp [loadCells, loadCellsFrom])
      rw [this]; rfl
  · obtain ⟨ad, rfl, hc⟩ := hr.cells (by omega)
    have hl := run_loadCells_list (P := P) w ad (l.map v8) hc
    rw [List.length_map, hr.1] at hl
    have := run_bytesToString (P := P) w ad n c (l.map fun x => (x.toNat : Int)) (by rw [hl, List.map_map]; rfl)
    rw [this, key]
    congr 2
    simp [str]
/-- append onto a slice that has no room -/
theorem run_append8g (w : World) (t ty e : TypeId) (ht : P.underlying t = some (.slice e)) (hi : (P.info? e).map (fun i => (i.zero, i.size, i.bytes)) = some (some (.int .u8 0), 1, 1))
    (a : Option Addr) (n c : Nat) (l : List (BitVec 8)) (hl : Rd8 w a n c l) (hn : 0 < n) (b : Option Addr) (m k : Nat) (s : List (BitVec 8)) (hr : Rd8 w b m k s) (hm : 0 < m) (hc : c < n + m) (hb : n + m ≤ 140737488355328) :
    ∃ v' w', (Builtin.append_ #[t, t] ty #[.slice a n c, .slice b m k]).run P w = .ok v' w' ∧ Own8 w' w.heap.size e v' (l ++ s) ∧ Below w.heap.size w w' := by
  obtain ⟨i, hi, hz, hs, hby⟩ := info_parts hi
  obtain ⟨ad, rfl, h1⟩ := hl.cells hn
  obtain ⟨bd, rfl, h2⟩ := hr.cells hm
  obtain ⟨v', w', hrun, hown, hg⟩ := run_append_arg_grows w t ty e i (.int .u8 0) 1 1 ht hi hz hs hby rfl (by omega) ad n c (l.map v8) (by simp [hl.1]) h1 bd m k (s.map v8) (by simp [hr.1]) h2 hc (by unfold maxLen; omega) (by omega)
  refine ⟨v', w', hrun, ?_, ⟨hg.os, hg.tape, hg.output, hg.size, fun k hk => hg.block k hk (by simp)⟩⟩
  unfold Own8
  rw [List.length_append, hl.1, hr.1, List.map_append]
  exact hown
end
end Go.Proofs.YtfdkmjegcghieaaGreatDoor
/- Arguments that come in: arrays and slices of numbers, as lists of bit vectors. -/
namespace Go.Proofs.YtfdkmjegcghieaaGreatDoor
open Go.ChangeShapes Go.WideShapes Go.ChangeAt Go.RowKit
theorem own : ownKnob Tryz.prog.godebug = none := by kernel_rfl
theorem laidOut : laidOutB Tryz.prog = true := by kernel_rfl
section
variable {H : Type} {enc : TypeId × Value → H} {P : Program} {w : World} {base : Nat} {spare : Nat → Bool} {held : Bool}
theorem int_v8 {a : Int} (h : (Lit.int .u8 a).wf = true) : ∃ x : BitVec 8, Value.int .u8 a = v8 x := by
  have hb := bounds_u8 h
  refine ⟨BitVec.ofInt 8 a, ?_⟩
  unfold v8
  congr 1
  rw [BitVec.toNat_ofInt]
  omega
theorem list_v8 : ∀ (zs : List Int), (∀ n ∈ zs, (Lit.int .u8 n).wf = true) → ∃ l : List (BitVec 8), zs.map (Value.int .u8) = l.map v8
  | [], _ => ⟨[], rfl⟩
  | z :: zs, h => by
    obtain ⟨x, hx⟩ := int_v8 (h z (by simp))
    obtain ⟨l, hl⟩ := list_v8 zs (fun n hn => h n (by simp [hn]))
    exact ⟨x :: l, by simp [hx, hl]⟩
theorem zs_v8 : ∀ cs : List Value, (∀ i, i < cs.length → ∃ a : Int, cs[i]? = some (.int .u8 a) ∧ (Lit.int .u8 a).wf = true) → ∃ zs : List Int, cs = zs.map (Value.int .u8) ∧ ∀ n ∈ zs, (Lit.int .u8 n).wf = true
  | [], _ => ⟨[], rfl, by simp⟩
  | c :: cs, step => by
    obtain ⟨a, ha, hw⟩ := step 0 (by simp)
    obtain ⟨zs, hz, hzw⟩ := zs_v8 cs (fun i hi => by
      obtain ⟨b, hb, hwb⟩ := step (i + 1) (by simpa using hi)
      exact ⟨b, by simpa using hb, hwb⟩)
    simp at ha
    refine ⟨a :: zs, by rw [ha, hz]; rfl, fun n hn => ?_⟩
    rcases List.mem_cons.1 hn with rfl | hn
    · exact hw
    · exact hzw n hn
/-- an array's cells, read as data -/
theorem cells_v8 {n : Nat} {t e : TypeId} {fuel : Nat} {cs : List Value} {x : DataW H × List MemPlace} (ht : P.underlying t = some (.array n e)) (he : P.underlying e = some (.int .u8)) (hce : P.cellsOf e = 1) (hct : P.cellsOf t = n)
    (h : DataW.trod enc P w base spare held fuel t cs = some x) : ∃ l : List (BitVec 8), l.length = n ∧ cs = l.map v8 := by
  obtain ⟨xs, m, rfl, rfl, hlen, hx, hi⟩ := DataW.trod_array ht h
  have hzs : ∃ zs : List Int, cs = zs.map (Value.int .u8) ∧ ∀ n ∈ zs, (Lit.int .u8 n).wf = true := by
    have step : ∀ i, i < n → ∃ a : Int, cs[i]? = some (.int .u8 a) ∧ (Lit.int .u8 a).wf = true := by
      intro i hin
      have h1 := hi i hin
      rw [hce, Nat.mul_one] at h1
      obtain ⟨y, hy⟩ : ∃ y, xs[i]? = some y := ⟨xs[i]'(by omega), List.getElem?_eq_getElem (by omega)⟩
      rw [hy] at h1
      obtain ⟨a, hc, _, hw⟩ := DataW.trod_int he h1
      refine ⟨a, ?_, hw⟩
      have h2 := congrArg (fun l : List Value => l[0]?) hc
      simpa using h2
    exact zs_v8 cs (fun i hi => step i (by rw [hct] at hlen; omega))
  obtain ⟨zs, rfl, hw⟩ := hzs
  obtain ⟨l, hl⟩ := list_v8 zs hw
  refine ⟨l, ?_, hl⟩
  have := congrArg List.length hl
  simp at this hlen
  rw [hct] at hlen
  omega
theorem open_arr8 {r : Reach} {b0 n : Nat} {t e : TypeId} {v : Value} {d : DataW H} {p : List MemPlace} (ht : P.underlying t = some (.array n e)) (he : P.underlying e = some (.int .u8)) (hce : P.cellsOf e = 1) (hct : P.cellsOf t = n)
    (hv : Value.okWide P w r b0 t v) (h : DataW.Trod enc P w base spare held t v d p) : ∃ l : List (BitVec 8), l.length = n ∧ v = .agg (A8 l) := by
  unfold Value.okWide at hv
  rw [ht] at hv
  obtain ⟨cs, rfl, _, _⟩ := hv
  obtain ⟨fuel, hf⟩ := h
  obtain ⟨l, hl, hc⟩ := cells_v8 ht he hce hct hf
  refine ⟨l, hl, ?_⟩
  congr 1
  apply Array.ext'
  rw [A8_toList, ← hc]
  rfl
theorem int_v32 {a : Int} (h : (Lit.int .u32 a).wf = true) : ∃ x : BitVec 32, Value.int .u32 a = v32 x := by
  have hb := bounds_u32 h
  refine ⟨BitVec.ofInt 32 a, ?_⟩
  unfold v32
  congr 1
  rw [BitVec.toNat_ofInt]
  omega
theorem list_v32 : ∀ (zs : List Int), (∀ n ∈ zs, (Lit.int .u32 n).wf = true) → ∃ l : List (BitVec 32), zs.map (Value.int .u32) = l.map v32
  | [], _ => ⟨[], rfl⟩
  | z :: zs, h => by
    obtain ⟨x, hx⟩ := int_v32 (h z (by simp))
    obtain ⟨l, hl⟩ := list_v32 zs (fun n hn => h n (by simp [hn]))
    exact ⟨x :: l, by simp [hx, hl]⟩
theorem zs_v32 : ∀ cs : List Value, (∀ i, i < cs.length → ∃ a : Int, cs[i]? = some (.int .u32 a) ∧ (Lit.int .u32 a).wf = true) → ∃ zs : List Int, cs = zs.map (Value.int .u32) ∧ ∀ n ∈ zs, (Lit.int .u32 n).wf = true
  | [], _ => ⟨[], rfl, by simp⟩
  | c :: cs, step => by
    obtain ⟨a, ha, hw⟩ := step 0 (by simp)
    obtain ⟨zs, hz, hzw⟩ := zs_v32 cs (fun i hi => by
      obtain ⟨b, hb, hwb⟩ := step (i + 1) (by simpa using hi)
      exact ⟨b, by simpa using hb, hwb⟩)
    simp at ha
    refine ⟨a :: zs, by rw [ha, hz]; rfl, fun n hn => ?_⟩
    rcases List.mem_cons.1 hn with rfl | hn
    · exact hw
    · exact hzw n hn
/-- an array's cells, read as data -/
theorem cells_v32 {n : Nat} {t e : TypeId} {fuel : Nat} {cs : List Value} {x : DataW H × List MemPlace} (ht : P.underlying t = some (.array n e)) (he : P.underlying e = some (.int .u32)) (hce : P.cellsOf e = 1) (hct : P.cellsOf t = n)
    (h : DataW.trod enc P w base spare held fuel t cs = some x) : ∃ l : List (BitVec 32), l.length = n ∧ cs = l.map v32 := by
  obtain ⟨xs, m, rfl, rfl, hlen, hx, hi⟩ := DataW.trod_array ht h
  have hzs : ∃ zs : List Int, cs = zs.map (Value.int .u32) ∧ ∀ n ∈ zs, (Lit.int .u32 n).wf = true := by
    have step : ∀ i, i < n → ∃ a : Int, cs[i]? = some (.int .u32 a) ∧ (Lit.int .u32 a).wf = true := by
      intro i hin
      have h1 := hi i hin
      rw [hce, Nat.mul_one] at h1
      obtain ⟨y, hy⟩ : ∃ y, xs[i]? = some y := ⟨xs[i]'(by omega), List.getElem?_eq_getElem (by omega)⟩
      rw [hy] at h1
      obtain ⟨a, hc, _, hw⟩ := DataW.trod_int he h1
      refine ⟨a, ?_, hw⟩
      have h2 := congrArg (fun l : List Value => l[0]?) hc
      simpa using h2
    exact zs_v32 cs (fun i hi => step i (by rw [hct] at hlen; omega))
  obtain ⟨zs, rfl, hw⟩ := hzs
  obtain ⟨l, hl⟩ := list_v32 zs hw
  refine ⟨l, ?_, hl⟩
  have := congrArg List.length hl
  simp at this hlen
  rw [hct] at hlen
  omega
theorem open_arr32 {r : Reach} {b0 n : Nat} {t e : TypeId} {v : Value} {d : DataW H} {p : List MemPlace} (ht : P.underlying t = some (.array n e)) (he : P.underlying e = some (.int .u32)) (hce : P.cellsOf e = 1) (hct : P.cellsOf t = n)
    (hv : Value.okWide P w r b0 t v) (h : DataW.Trod enc P w base spare held t v d p) : ∃ l : List (BitVec 32), l.length = n ∧ v = .agg (A32 l) := by
  unfold Value.okWide at hv
  rw [ht] at hv
  obtain ⟨cs, rfl, _, _⟩ := hv
  obtain ⟨fuel, hf⟩ := h
  obtain ⟨l, hl, hc⟩ := cells_v32 ht he hce hct hf
  refine ⟨l, hl, ?_⟩
  congr 1
  apply Array.ext'
  rw [A32_toList, ← hc]
  rfl
theorem int_v64 {a : Int} (h : (Lit.int .u64 a).wf = true) : ∃ x : BitVec 64, Value.int .u64 a = v64 x := by
  have hb := bounds_u64 h
  refine ⟨BitVec.ofInt 64 a, ?_⟩
  unfold v64
  congr 1
  rw [BitVec.toNat_ofInt]
  omega
theorem list_v64 : ∀ (zs : List Int), (∀ n ∈ zs, (Lit.int .u64 n).wf = true) → ∃ l : List (BitVec 64), zs.map (Value.int .u64) = l.map v64
  | [], _ => ⟨[], rfl⟩
  | z :: zs, h => by
    obtain ⟨x, hx⟩ := int_v64 (h z (by simp))
    obtain ⟨l, hl⟩ := list_v64 zs (fun n hn => h n (by simp [hn]))
    exact ⟨x :: l, by simp [hx, hl]⟩
theorem zs_v64 : ∀ cs : List Value, (∀ i, i < cs.length → ∃ a : Int, cs[i]? = some (.int .u64 a) ∧ (Lit.int .u64 a).wf = true) → ∃ zs : List Int, cs = zs.map (Value.int .u64) ∧ ∀ n ∈ zs, (Lit.int .u64 n).wf = true
  | [], _ => ⟨[], rfl, by simp⟩
  | c :: cs, step => by
    obtain ⟨a, ha, hw⟩ := step 0 (by simp)
    obtain ⟨zs, hz, hzw⟩ := zs_v64 cs (fun i hi => by
      obtain ⟨b, hb, hwb⟩ := step (i + 1) (by simpa using hi)
      exact ⟨b, by simpa using hb, hwb⟩)
    simp at ha
    refine ⟨a :: zs, by rw [ha, hz]; rfl, fun n hn => ?_⟩
    rcases List.mem_cons.1 hn with rfl | hn
    · exact hw
    · exact hzw n hn
/-- an array's cells, read as data -/
theorem cells_v64 {n : Nat} {t e : TypeId} {fuel : Nat} {cs : List Value} {x : DataW H × List MemPlace} (ht : P.underlying t = some (.array n e)) (he : P.underlying e = some (.int .u64)) (hce : P.cellsOf e = 1) (hct : P.cellsOf t = n)
    (h : DataW.trod enc P w base spare held fuel t cs = some x) : ∃ l : List (BitVec 64), l.length = n ∧ cs = l.map v64 := by
  obtain ⟨xs, m, rfl, rfl, hlen, hx, hi⟩ := DataW.trod_array ht h
  have hzs : ∃ zs : List Int, cs = zs.map (Value.int .u64) ∧ ∀ n ∈ zs, (Lit.int .u64 n).wf = true := by
    have step : ∀ i, i < n → ∃ a : Int, cs[i]? = some (.int .u64 a) ∧ (Lit.int .u64 a).wf = true := by
      intro i hin
      have h1 := hi i hin
      rw [hce, Nat.mul_one] at h1
      obtain ⟨y, hy⟩ : ∃ y, xs[i]? = some y := ⟨xs[i]'(by omega), List.getElem?_eq_getElem (by omega)⟩
      rw [hy] at h1
      obtain ⟨a, hc, _, hw⟩ := DataW.trod_int he h1
      refine ⟨a, ?_, hw⟩
      have h2 := congrArg (fun l : List Value => l[0]?) hc
      simpa using h2
    exact zs_v64 cs (fun i hi => step i (by rw [hct] at hlen; omega))
  obtain ⟨zs, rfl, hw⟩ := hzs
  obtain ⟨l, hl⟩ := list_v64 zs hw
  refine ⟨l, ?_, hl⟩
  have := congrArg List.length hl
  simp at this hlen
  rw [hct] at hlen
  omega
theorem open_arr64 {r : Reach} {b0 n : Nat} {t e : TypeId} {v : Value} {d : DataW H} {p : List MemPlace} (ht : P.underlying t = some (.array n e)) (he : P.underlying e = some (.int .u64)) (hce : P.cellsOf e = 1) (hct : P.cellsOf t = n)
    (hv : Value.okWide P w r b0 t v) (h : DataW.Trod enc P w base spare held t v d p) : ∃ l : List (BitVec 64), l.length = n ∧ v = .agg (A64 l) := by
  unfold Value.okWide at hv
  rw [ht] at hv
  obtain ⟨cs, rfl, _, _⟩ := hv
  obtain ⟨fuel, hf⟩ := h
  obtain ⟨l, hl, hc⟩ := cells_v64 ht he hce hct hf
  refine ⟨l, hl, ?_⟩
  congr 1
  apply Array.ext'
  rw [A64_toList, ← hc]
  rfl
/-- a slice of bytes that came in -/
theorem open_bytes {t e : TypeId} {a : Option Addr} {n c : Nat} {d : DataW H} {p : List MemPlace} (ht : P.underlying t = some (.slice e)) (he : P.underlying e = some (.int .u8)) (hce : P.cellsOf e = 1)
    (h : DataW.Trod enc P w base spare held t (.slice a n c) d p) : ∃ l : List (BitVec 8), Rd8 w a n c l := by
  obtain ⟨fuel, hf⟩ := h
  rcases open_ints ht he hce hf with ⟨hcs, _⟩ | ⟨x, l, c', zs, hcs, _, hl, hm, hz, hx, hcell, hwz⟩
  · simp [Value.cells] at hcs
    obtain ⟨rfl, rfl, rfl⟩ := hcs
    exact ⟨[], rfl, Nat.le_refl _, by unfold maxLen; omega, fun h => absurd h (by omega)⟩
  · simp [Value.cells] at hcs
    obtain ⟨rfl, rfl, rfl⟩ := hcs
    obtain ⟨l', hl'⟩ := list_v8 zs hwz
    have hzn : n ≤ zs.length := by rw [hz]; split <;> omega
    have hlen : l'.length = zs.length := by have := congrArg List.length hl'; simp at this; omega
    refine ⟨l'.take n, by simp; omega, hl, hm, fun hn => ?_⟩
    have hc0 := hcell 0 (by omega)
    obtain ⟨b, off, spot⟩ := x
    have hspot : spot = none := by simpa [Addr.add] using World.cell?_spot hc0
    subst hspot
    refine ⟨b, off, rfl, ?_, fun i hi => ?_⟩
    · have := World.block_lt_of_cell? w _ hc0
      simpa [Addr.add] using this
    · have h1 := hcell i (by omega)
      rw [Addr.add_lit] at h1
      rw [h1, nth_take _ _ _ hi]
      have h2 := congrArg (fun l : List Value => l[i]?) hl'
      have hi1 : i < zs.length := by omega
      have hi2 : i < l'.length := by omega
      simp only [List.getElem?_map, nth_eq hi2, List.getElem?_eq_getElem hi1, Option.map_some] at h2
      rw [← h2]
      congr 2
      simp [hi1]
end
end Go.Proofs.YtfdkmjegcghieaaGreatDoor
/- beyond a row's end there are noughts -/
namespace Go.Proofs.YtfdkmjegcghieaaGreatDoor
open Go.RowKit
theorem nth_over {n : Nat} (l : List (BitVec n)) (i : Nat) (h : l.length ≤ i) : nth l i = 0#n := by
  unfold nth
  rw [List.getD_eq_getElem?_getD, List.getElem?_eq_none h]; rfl
end Go.Proofs.YtfdkmjegcghieaaGreatDoor
