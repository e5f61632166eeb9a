/- Strings of bytes; append onto a slice that has no room. No function of the program in sight. -/
import Derived.Test.YthogbbigglmapaaText
namespace Go.Proofs.Ythogbbigglmapaa
open Go.RowKit
/-- bytes as a string -/
def str (l : List (BitVec 8)) : ByteArray := ⟨(l.map UInt8.ofBitVec).toArray⟩
theorem str_data (l : List (BitVec 8)) : (str l).data.toList = l.map UInt8.ofBitVec := by simp [str]
theorem str_toList (l : List (BitVec 8)) : (str l).toList = l.map UInt8.ofBitVec := by
  rw [ByteArray.toList_eq, str_data]
theorem str_size (l : List (BitVec 8)) : (str l).size = l.length := by
  show (str l).data.size = _
  simp [str]
theorem str_inj {a b : List (BitVec 8)} (h : str a = str b) : a = b := by
  have h' := congrArg (fun s : ByteArray => s.data.toList) h
  simp only [str_data] at h'
  have e : ∀ l : List (BitVec 8), (l.map UInt8.ofBitVec).map UInt8.toBitVec = l := by
    intro l
    rw [List.map_map]
    have : (UInt8.toBitVec ∘ UInt8.ofBitVec) = id := by funext x; rfl
    rw [this, List.map_id]
  rw [← e a, h', e b]
theorem str_beq (a b : List (BitVec 8)) : ((str a).toList == (str b).toList) = (a == b) := by
  rw [str_toList, str_toList]
  rw [Bool.eq_iff_iff, beq_iff_eq, beq_iff_eq]
  constructor
  · intro h
    apply str_inj
    unfold str; rw [h]
  · rintro rfl; rfl
section
variable {P : Program}
theorem run_str (w : World) (T S e : TypeId) (a : Option Addr) (n c : Nat) (l : List (BitVec 8)) (hT : P.underlying T = some (.slice e)) (hS : P.underlying S = some .string) (he : P.underlying e = some (.int .u8)) (hr : Rd8 w a n c l) :
    (convert T S (.slice a n c)).run P w = .ok (.string (str l)) w := by
  rw [run_convert_bytes_string w T S e a n c hT he hS]
  have key : ∀ (l : List (BitVec 8)) (r : ByteArray), ((l.map fun x => (x.toNat : Int)).foldl (fun r n => r.push (UInt8.ofNat n.toNat)) r) = ⟨r.data ++ (l.map UInt8.ofBitVec).toArray⟩ := by
    intro l
    induction l with
    | nil => intro r; simp
    | cons x l ih =>
      intro r
      rw [List.map_cons, List.foldl_cons, ih]
      have hx : UInt8.ofNat (x.toNat : Int).toNat = UInt8.ofBitVec x := by
        rw [Int.toNat_natCast, ← UInt8.toNat_inj]
        simp
      rw [hx]
      show (⟨_⟩ : ByteArray) = _
      congr 1
      simp [ByteArray.push]
  by_cases h0 : n = 0
  · subst h0
    have : l = [] := List.eq_nil_of_length_eq_zero hr.1
    subst this
    cases a with
    | none => rfl
    | some ad =>
      have := run_bytesToString (P := P) w ad 0 c [] (by simp [loadCells, loadCellsFrom])
      rw [this]; rfl
  · obtain ⟨ad, rfl, hc⟩ := hr.cells (by omega)
    have hl := run_loadCells_list (P := P) w ad (l.map v8) hc
    rw [List.length_map, hr.1] at hl
    have := run_bytesToString (P := P) w ad n c (l.map fun x => (x.toNat : Int)) (by rw [hl, List.map_map]; rfl)
    rw [this, key]
    congr 2
    simp [str]
/-- append onto a slice that has no room -/
theorem run_append8g (w : World) (t ty e : TypeId) (ht : P.underlying t = some (.slice e)) (hi : (P.info? e).map (fun i => (i.zero, i.size, i.bytes)) = some (some (.int .u8 0), 1, 1))
    (a : Option Addr) (n c : Nat) (l : List (BitVec 8)) (hl : Rd8 w a n c l) (hn : 0 < n) (b : Option Addr) (m k : Nat) (s : List (BitVec 8)) (hr : Rd8 w b m k s) (hm : 0 < m) (hc : c < n + m) (hb : n + m ≤ 140737488355328) :
    ∃ v' w', (Builtin.append_ #[t, t] ty #[.slice a n c, .slice b m k]).run P w = .ok v' w' ∧ Own8 w' w.heap.size e v' (l ++ s) ∧ Below w.heap.size w w' := by
  obtain ⟨i, hi, hz, hs, hby⟩ := info_parts hi
  obtain ⟨ad, rfl, h1⟩ := hl.cells hn
  obtain ⟨bd, rfl, h2⟩ := hr.cells hm
  obtain ⟨v', w', hrun, hown, hg⟩ := run_append_arg_grows w t ty e i (.int .u8 0) 1 1 ht hi hz hs hby rfl (by omega) ad n c (l.map v8) (by simp [hl.1]) h1 bd m k (s.map v8) (by simp [hr.1]) h2 hc (by unfold maxLen; omega) (by omega)
  refine ⟨v', w', hrun, ?_, ⟨hg.os, hg.tape, hg.output, hg.size, fun k hk => hg.block k hk (by simp)⟩⟩
  unfold Own8
  rw [List.length_append, hl.1, hr.1, List.map_append]
  exact hown
end
end Go.Proofs.Ythogbbigglmapaa
