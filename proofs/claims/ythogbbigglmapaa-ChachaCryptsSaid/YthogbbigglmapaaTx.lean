/- Text: a key, a nonce, a number of rounds and bytes, as one row of cells -/
import Derived.Test.YthogbbigglmapaaOpen
import Derived.Test.YthogbbigglmapaaCha7
import Derived.Test.YthogbbigglmapaaCha8
namespace Go.Proofs.Ythogbbigglmapaa
open Go.ChangeShapes Go.WideShapes Go.ChangeAt Go.RowKit
/-- a Text's cells -/
structure TextAt (T : Array Value) (k n : List (BitVec 8)) (r : Int) (a : Option Addr) (len cap : Nat) : Prop where
  size : T.size = 58
  key : T.extract 0 32 = A8 k
  nonce : T.extract 32 56 = A8 n
  rounds : T[56]? = some (.int .i64 r)
  b : T[57]? = some (.slice a len cap)
  lk : k.length = 32
  ln : n.length = 24
@[go_sem] theorem cellsOf66 : Try.prog.cellsOf 66 = 58 := by kernel_rfl
theorem A8_of_toList {T : Array Value} {l : List (BitVec 8)} (h : T.toList = l.map v8) : T = A8 l := by
  apply Array.ext'; rw [A8_toList]; exact h
section
variable {H : Type} {enc : TypeId × Value → H} {w : World} {base : Nat} {spare : Nat → Bool} {held : Bool}
theorem open_text {r : Reach} {b0 : Nat} {v : Value} {d : DataW H} {p : List MemPlace}
    (hv : Value.okWide Try.prog w r b0 66 v) (h : DataW.Trod enc Try.prog w base spare held 66 v d p) :
    ∃ (T : Array Value) (k n : List (BitVec 8)) (q : Int) (a : Option Addr) (len cap : Nat) (l : List (BitVec 8)), TextAt T k n q a len cap ∧ Rd8 w a len cap l ∧ v = .agg T := by
  unfold Value.okWide at hv
  rw [Try.underlying66] at hv
  obtain ⟨T, rfl, hs, _⟩ := hv
  rw [cellsOf66] at hs
  obtain ⟨fuel, hf⟩ := h
  obtain ⟨xs, m, rfl, _, hl, hxl, hi⟩ := DataW.trod_struct Try.underlying66 hf
  have get : ∀ i, i < 4 → ∃ y, xs[i]? = some y := fun i hi4 => ⟨xs[i]'(by rw [hxl]; simpa using hi4), List.getElem?_eq_getElem _⟩
  obtain ⟨y0, e0⟩ := get 0 (by omega)
  obtain ⟨y1, e1⟩ := get 1 (by omega)
  obtain ⟨y2, e2⟩ := get 2 (by omega)
  obtain ⟨y3, e3⟩ := get 3 (by omega)
  have h0 : DataW.trod enc Try.prog w base spare held m 35 ((T.toList.drop 0).take (Try.prog.cellsOf 35)) = some y0 := (hi 0 _ rfl).trans e0
  have h1 : DataW.trod enc Try.prog w base spare held m 64 ((T.toList.drop 32).take (Try.prog.cellsOf 64)) = some y1 := (hi 1 _ rfl).trans e1
  have h2 : DataW.trod enc Try.prog w base spare held m 3 ((T.toList.drop 56).take (Try.prog.cellsOf 3)) = some y2 := (hi 2 _ rfl).trans e2
  have h3 : DataW.trod enc Try.prog w base spare held m 22 ((T.toList.drop 57).take (Try.prog.cellsOf 22)) = some y3 := (hi 3 _ rfl).trans e3
  rw [show Try.prog.cellsOf 35 = 32 from cellsOf35] at h0
  rw [show Try.prog.cellsOf 64 = 24 from cellsOf64] at h1
  rw [show Try.prog.cellsOf 3 = 1 by kernel_rfl] at h2
  rw [show Try.prog.cellsOf 22 = 1 by kernel_rfl] at h3
  obtain ⟨k, hk, hck⟩ := cells_v8 Try.underlying35 Try.underlying5 (by kernel_rfl) (by kernel_rfl) h0
  obtain ⟨n, hn, hcn⟩ := cells_v8 Try.underlying64 Try.underlying5 (by kernel_rfl) (by kernel_rfl) h1
  obtain ⟨q, hq, _, _⟩ := DataW.trod_int Try.underlying3 h2
  have hb : ∃ a len cap, ((T.toList.drop 57).take 1) = [Value.slice a len cap] := by
    rcases DataW.trod_slice Try.underlying22 h3 with ⟨hc, _⟩ | ⟨a, len, cap, _, _, _, _, hc, _⟩
    · exact ⟨_, _, _, hc⟩
    · exact ⟨_, _, _, hc⟩
  obtain ⟨a, len, cap, hb⟩ := hb
  obtain ⟨l, hr⟩ := open_bytes (enc := enc) (P := Try.prog) (w := w) (base := base) (spare := spare) (held := held) (t := 22) (a := a) (n := len) (c := cap) (d := y3.1) (p := y3.2) Try.underlying22 Try.underlying5 (by kernel_rfl) ⟨m, by
    show DataW.trod enc Try.prog w base spare held m 22 [Value.slice a len cap] = _
    rw [← hb]; exact h3⟩
  refine ⟨T, k, n, q, a, len, cap, l, ⟨hs, ?_, ?_, ?_, ?_, hk, hn⟩, hr, rfl⟩
  · refine A8_of_toList ?_
    rw [← hck, Array.toList_extract]
  · refine A8_of_toList ?_
    rw [← hcn, Array.toList_extract]
  · have := congrArg (fun l : List Value => l[0]?) hq
    simp at this
    rw [← this]
  · have := congrArg (fun l : List Value => l[0]?) hb
    simp at this
    rw [← this]
end
theorem text_right {T : Array Value} {k n : List (BitVec 8)} {r : Int} {a : Option Addr} {len cap : Nat} (w : World) (h : TextAt T k n r a len cap) : Calls Try.prog 41 #[.agg T] w fun e w' => e = .returned (.bool (decide (len ≤ 300 ∧ (r = 8 ∨ r = 12 ∨ r = 20)))) ∧ Below w.heap.size w w' := by
  obtain ⟨W, hW⟩ : ∃ W, (w.alloc (.cells T 66)) = W := ⟨_, rfl⟩
  obtain ⟨b0, hb, hz⟩ := new1 _ _ _ _ hW
  have r0 := b0.row
  have s0 := h.size
  have t1 := h.rounds
  have t2 := h.b
  have c1 := b0.cell 56
  have c2 := b0.cell 57
  rw [t1] at c1
  rw [t2] at c2
  have B := Lib.hid hb
  clear hb hz b0 h t1 t2
  by_cases hl : len ≤ 300
  · have l1 : (len : Int) ≤ 300 := by omega
    have e : decide (len ≤ 300 ∧ (r = 8 ∨ r = 12 ∨ r = 20)) = decide (r = 8 ∨ r = 12 ∨ r = 20) := by simp [hl]
    rw [e]
    have hra := right_any r
    generalize decide (r = 8 ∨ r = 12 ∨ r = 20) = D at hra ⊢
    go_enter Try.func41, Try.ntmps41
    go_wp2_with fail
    refine (hra _).mono ?_
    rintro e w1 ⟨rfl, rfl⟩
    go_wp2
    go_ret
    exact ⟨rfl, B.out⟩
  · have l1 : ¬ (len : Int) ≤ 300 := by omega
    have e : decide (len ≤ 300 ∧ (r = 8 ∨ r = 12 ∨ r = 20)) = false := by simp [hl]
    rw [e]
    go_enter Try.func41, Try.ntmps41
    go_wp2
    go_ret
    exact ⟨rfl, B.out⟩
end Go.Proofs.Ythogbbigglmapaa
