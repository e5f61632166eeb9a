/- Text of layer 17: a key, a tweak and a message, as one row of cells -/
import Derived.Test.YtfdkmjegcghieaaDoorGs
import Derived.Test.YtfdkmjegcghieaaDoorGk
import Derived.Test.YtfdkmjegcghieaaDoorHm
import Derived.Test.YtfdkmjegcghieaaDoorHk
import Derived.OwnWalk
import Derived.Test.YtfdkmjegcghieaaDoorGq
import Derived.Test.YtfdkmjegcghieaaDoorHj
namespace Go.Proofs.YtfdkmjegcghieaaDoor
open Go.ChangeShapes Go.WideShapes Go.ChangeAt Go.RowKit
/-- a Text's cells -/
structure AText (T : Array Value) (k : List (BitVec 8)) (a : Option Addr) (n c : Nat) (b : Option Addr) (m d : Nat) : Prop where
  size : T.size = 34
  key : T.extract 0 32 = A8 k
  tweak : T[32]? = some (.slice a n c)
  msg : T[33]? = some (.slice b m d)
  lk : k.length = 32
@[go_sem] theorem cellsOf53 : Tryd.prog.cellsOf 53 = 34 := by kernel_rfl
section
variable {H : Type} {enc : TypeId × Value → H} {w : World} {base : Nat} {spare : Nat → Bool} {held : Bool}
set_option maxRecDepth 100000 in
theorem open_atext {r : Reach} {b0 : Nat} {v : Value} {d : DataW H} {p : List MemPlace}
    (hv : Value.okWide Tryd.prog w r b0 53 v) (h : DataW.Trod enc Tryd.prog w base spare held 53 v d p) :
    ∃ (T : Array Value) (k : List (BitVec 8)) (a : Option Addr) (n c : Nat) (t : List (BitVec 8)) (b : Option Addr) (m d : Nat) (x : List (BitVec 8)), AText T k a n c b m d ∧ Rd8 w a n c t ∧ Rd8 w b m d x ∧ v = .agg T := by
  unfold Value.okWide at hv
  rw [Tryd.underlying53] at hv
  obtain ⟨T, rfl, hs, _⟩ := hv
  rw [cellsOf53] at hs
  obtain ⟨fuel, hf⟩ := h
  obtain ⟨xs, m, rfl, _, hl, hxl, hi⟩ := DataW.trod_struct Tryd.underlying53 hf
  have get : ∀ i, i < 3 → ∃ y, xs[i]? = some y := fun i hi3 => ⟨xs[i]'(by rw [hxl]; simpa using hi3), List.getElem?_eq_getElem _⟩
  obtain ⟨y0, e0⟩ := get 0 (by omega)
  obtain ⟨y1, e1⟩ := get 1 (by omega)
  obtain ⟨y2, e2⟩ := get 2 (by omega)
  have h0 : DataW.trod enc Tryd.prog w base spare held m 22 ((T.toList.drop 0).take (Tryd.prog.cellsOf 22)) = some y0 := (hi 0 _ rfl).trans e0
  have h1 : DataW.trod enc Tryd.prog w base spare held m 23 ((T.toList.drop 32).take (Tryd.prog.cellsOf 23)) = some y1 := (hi 1 _ rfl).trans e1
  have h2 : DataW.trod enc Tryd.prog w base spare held m 23 ((T.toList.drop 33).take (Tryd.prog.cellsOf 23)) = some y2 := (hi 2 _ rfl).trans e2
  rw [show Tryd.prog.cellsOf 22 = 32 by kernel_rfl] at h0
  rw [show Tryd.prog.cellsOf 23 = 1 by kernel_rfl] at h1 h2
  obtain ⟨k, hk, hck⟩ := cells_v8 Tryd.underlying22 Tryd.underlying5 (by kernel_rfl) (by kernel_rfl) h0
  have sl : ∀ {o : Nat} {y : DataW H × List MemPlace}, DataW.trod enc Tryd.prog w base spare held m 23 ((T.toList.drop o).take 1) = some y → ∃ a len cap l, ((T.toList.drop o).take 1) = [Value.slice a len cap] ∧ Rd8 w a len cap l := by
    intro o y hy
    have hb : ∃ a len cap, ((T.toList.drop o).take 1) = [Value.slice a len cap] := by
      rcases DataW.trod_slice Tryd.underlying23 hy with ⟨hc, _⟩ | ⟨a, len, cap, _, _, _, _, hc, _⟩
      · exact ⟨_, _, _, hc⟩
      · exact ⟨_, _, _, hc⟩
    obtain ⟨a, len, cap, hb⟩ := hb
    obtain ⟨l, hr⟩ := open_bytes (enc := enc) (P := Tryd.prog) (w := w) (base := base) (spare := spare) (held := held) (t := 23) (a := a) (n := len) (c := cap) (d := y.1) (p := y.2) Tryd.underlying23 Tryd.underlying5 (by kernel_rfl) ⟨m, by
      show DataW.trod enc Tryd.prog w base spare held m 23 [Value.slice a len cap] = _
      rw [← hb]; exact hy⟩
    exact ⟨a, len, cap, l, hb, hr⟩
  obtain ⟨a, n, c, t, hb2, r2⟩ := sl h1
  obtain ⟨b, m', d, x, hb3, r3⟩ := sl h2
  refine ⟨T, k, a, n, c, t, b, m', d, x, ⟨hs, ?_, ?_, ?_, hk⟩, r2, r3, rfl⟩
  · refine A8_of_toList ?_
    rw [← hck, Array.toList_extract]
  · have := congrArg (fun l : List Value => l[0]?) hb2
    simp at this
    rw [← this]
  · have := congrArg (fun l : List Value => l[0]?) hb3
    simp at this
    rw [← this]
end
end Go.Proofs.YtfdkmjegcghieaaDoor
/- the laws of adiantum: the tables, a cipher -/
namespace Go.Proofs.YtfdkmjegcghieaaDoor
open Go.RowKit
theorem rd8_none (w : World) : Rd8 w none 0 0 [] := ⟨rfl, Nat.le_refl _, by unfold maxLen; omega, fun h => absurd h (by omega)⟩
theorem AcAt.below {w w' : World} {q p : Nat} {key : List (BitVec 8)} (h : AcAt w q p key) (hb : Below w.heap.size w w') : AcAt w' q p key := by
  obtain ⟨kk, ks, h1, h2, h3⟩ := h
  exact ⟨kk, ks, h1.belowAll hb, h2.below hb, h3.below hb⟩
theorem tables17_any (w : World) (hT : Turning w) :
    Calls Tryd.prog 41 #[] w fun e w' => ∃ p, e = .returned (.pointer (some ⟨p, 0, none⟩)) ∧ TabAt w' p ∧ Below w.heap.size w w' := by
  go_enter Tryd.func41, Tryd.ntmps41
  go_wp2_with fail
  refine (gfmake_any _).mono ?_
  rintro e w1 ⟨q, rfl, hq, _, hb⟩
  go_wp2_with fail
  refine (new_any q _ (hT.below hb) hq).mono ?_
  rintro e w2 ⟨p, rfl, hp, _, hb2⟩
  go_wp2
  go_ret
  exact ⟨p, rfl, ⟨q, hp, hq.belowAll hb2⟩, hb.trans (hb2.mono hb.size)⟩
theorem AText.cellk {T : Array Value} {k : List (BitVec 8)} {a : Option Addr} {n c : Nat} {b : Option Addr} {m d : Nat} (h : AText T k a n c b m d) (i : Nat) (hi : i < 32) : T[i]? = some (v8 (nth k i)) := by
  have e := congrArg (fun A : Array Value => A[i]?) h.key
  simp only [A8_get k i (by rw [h.lk]; exact hi)] at e
  rw [← e, Array.getElem?_extract]
  simp [hi, h.size]
theorem AText.rdk {T : Array Value} {k : List (BitVec 8)} {a : Option Addr} {n c : Nat} {b : Option Addr} {m d : Nat} {w : World} {g : Nat} {t : TypeId} (h : AText T k a n c b m d) (hb : Blk w g t T) (j : Nat) (hj : j ≤ 32) : Rd8 w (some ⟨g, 0, none⟩) j 32 (k.take j) :=
  ⟨by rw [List.length_take, h.lk]; omega, hj, by unfold maxLen; omega, fun _ => ⟨g, 0, rfl, hb.lt, fun i hi => by rw [Nat.zero_add, hb.cell, h.cellk i (by omega), nth_take _ _ _ hi]⟩⟩
set_option linter.unusedSimpArgs false in
set_option maxRecDepth 100000 in
theorem short17_any {T : Array Value} {k : List (BitVec 8)} {a : Option Addr} {n c : Nat} {b : Option Addr} {m d : Nat} (w : World) (h : AText T k a n c b m d) :
    Calls Tryd.prog 29 #[.agg T] w fun e w' => e = .returned (.bool (decide (n ≤ 100 ∧ m ≤ 300))) ∧ Below w.heap.size w w' := by
  obtain ⟨W, hW⟩ : ∃ W, (w.alloc (.cells T 53)) = W := ⟨_, rfl⟩
  obtain ⟨b0, hb, hz⟩ := new1 _ _ _ _ hW
  have s0 := h.size
  have c1 := b0.cell 32
  have c2 := b0.cell 33
  rw [h.tweak] at c1
  rw [h.msg] at c2
  have B := Lib.hid hb
  clear hb hz b0 h
  by_cases hn : n ≤ 100
  · by_cases hm : m ≤ 300
    · have e : decide (n ≤ 100 ∧ m ≤ 300) = true := by simp [hn, hm]
      rw [e]
      have l1 : (n : Int) ≤ 100 := by omega
      have l2 : (m : Int) ≤ 300 := by omega
      go_enter Tryd.func29, Tryd.ntmps29
      go_wp2
      go_ret
      exact ⟨rfl, B.out⟩
    · have e : decide (n ≤ 100 ∧ m ≤ 300) = false := by simp [hm]
      rw [e]
      have l1 : (n : Int) ≤ 100 := by omega
      have l2 : ¬ (m : Int) ≤ 300 := by omega
      go_enter Tryd.func29, Tryd.ntmps29
      go_wp2
      go_ret
      exact ⟨rfl, B.out⟩
  · have e : decide (n ≤ 100 ∧ m ≤ 300) = false := by simp [hn]
    rw [e]
    have l1 : ¬ (n : Int) ≤ 100 := by omega
    go_enter Tryd.func29, Tryd.ntmps29
    go_wp2
    go_ret
    exact ⟨rfl, B.out⟩
set_option linter.unusedSimpArgs false in
set_option maxRecDepth 100000 in
set_option maxHeartbeats 800000 in
theorem cipher17_any {T : Array Value} {k : List (BitVec 8)} {a : Option Addr} {n c : Nat} {b : Option Addr} {m d : Nat} (w : World) (h : AText T k a n c b m d) (hT : Turning w) :
    Calls Tryd.prog 30 #[.agg T] w fun e w' => ∃ q p, e = .returned (.tuple #[.pointer (some ⟨q, 0, none⟩), .bool true]) ∧ AcAt w' q p k ∧ Below w.heap.size w w' := by
  obtain ⟨W, hW⟩ : ∃ W, (w.alloc (.cells T 53)) = W := ⟨_, rfl⟩
  obtain ⟨b0, hb, hz⟩ := new1 _ _ _ _ hW
  have hkl := h.lk
  have R0 := Lib.hid (h.rdk b0 32 (Nat.le_refl _))
  rw [List.take_of_length_le (by rw [hkl]; exact Nat.le_refl _)] at R0
  have B0 := Lib.hid hb
  have T0 := Lib.hid (hT.below hb)
  have s0 := h.size
  clear b0 hb hz hT h
  go_enter Tryd.func30, Tryd.ntmps30
  go_upto_region 1 with fail
  clear hW
  refine wp_region_two [] [] [0,0,2,2,0,0,0,0,0] rfl (by kernel_rfl) (by kernel_rfl) (fun C0 hC0 hCb K' hK' => ⟨?_, ?_⟩)
  · (with_reducible refine h_call ?_ ?_)
    · exact rfl
    go_simp
    refine entersW_of ?_
    refine (tables17_any W.drew T0.out).mono ?_
    rintro e w1 ⟨p, rfl, t1, d1⟩
    refine ⟨_, rfl, d1, ?_⟩
    try simp only [Act.put, List.setIfInBounds_toArray, List.set_cons_succ, List.set_cons_zero]
    refine h_empty8 Tryd.underlying23 info8 rfl (fun w2 b2 d2 => ?_)
    simp only [Act.put, List.setIfInBounds_toArray, List.set_cons_succ, List.set_cons_zero]
    repeat
      first
        | ((with_reducible refine h_pure (v := ?_) (a' := ?_) ?_ (fun _ => ?_) ?_ ?_); rotate_left; rotate_left; (focus (exact rfl)); (focus (go_simp; (try go_bits); exact rfl)); (focus (simp only [Act.put, List.setIfInBounds_toArray, List.set_cons_succ, List.set_cons_zero, Act.eval, Array.getD_eq_getD_getElem?, List.getElem?_toArray, List.getElem?_cons_succ, List.getElem?_cons_zero, Option.getD_some]; exact rfl)))
        | ((with_reducible refine h_obl (v := ?_) (a' := ?_) ?_ (fun _ hcw => ?_) ?_ ?_); rotate_left; rotate_left; (focus (exact rfl)); (focus (skip; go_simp; (try go_bits); exact rfl)); (focus (simp only [Act.put, List.setIfInBounds_toArray, List.set_cons_succ, List.set_cons_zero, Act.eval, Array.getD_eq_getD_getElem?, List.getElem?_toArray, List.getElem?_cons_succ, List.getElem?_cons_zero, Option.getD_some]; exact rfl)))
        | ((with_reducible refine h_read (v := ?_) (a' := ?_) ?_ (fun _ hbw => ?_) ?_ ?_); rotate_left; rotate_left; (focus (exact rfl)); (focus (skip; go_simp; (try go_bits); exact rfl)); (focus (simp only [Act.put, List.setIfInBounds_toArray, List.set_cons_succ, List.set_cons_zero, Act.eval, Array.getD_eq_getD_getElem?, List.getElem?_toArray, List.getElem?_cons_succ, List.getElem?_cons_zero, Option.getD_some]; exact rfl)))
    refine h_append_fresh (R0.out.drew.below (d1.trans (d2.mono d1.size))) (by omega) rfl rfl rfl Tryd.underlying23 info8 (by omega) (fun w3 v3 o3 d3 => ?_)
    simp only [Act.put, List.setIfInBounds_toArray, List.set_cons_succ, List.set_cons_zero]
    obtain ⟨a3, c3, rfl, hr3, _⟩ := o3.rd
    rw [hkl] at hr3 ⊢
    (with_reducible refine h_call ?_ ?_)
    · exact rfl
    go_simp
    refine entersW_of ?_
    refine (anew_any p k a3 c3 w3 ((t1.below d2).below d3) hr3).mono ?_
    rintro e w4 ⟨q, rfl, k4, _, d4⟩
    refine ⟨_, rfl, d4, ?_⟩
    try simp only [Act.put, List.setIfInBounds_toArray, List.set_cons_succ, List.set_cons_zero]
    repeat
      first
        | ((with_reducible refine h_pure (v := ?_) (a' := ?_) ?_ (fun _ => ?_) ?_ ?_); rotate_left; rotate_left; (focus (exact rfl)); (focus (go_simp; (try go_bits); exact rfl)); (focus (simp only [Act.put, List.setIfInBounds_toArray, List.set_cons_succ, List.set_cons_zero, Act.eval, Array.getD_eq_getD_getElem?, List.getElem?_toArray, List.getElem?_cons_succ, List.getElem?_cons_zero, Option.getD_some]; exact rfl)))
        | ((with_reducible refine h_obl (v := ?_) (a' := ?_) ?_ (fun _ hcw => ?_) ?_ ?_); rotate_left; rotate_left; (focus (exact rfl)); (focus (skip; go_simp; (try go_bits); exact rfl)); (focus (simp only [Act.put, List.setIfInBounds_toArray, List.set_cons_succ, List.set_cons_zero, Act.eval, Array.getD_eq_getD_getElem?, List.getElem?_toArray, List.getElem?_cons_succ, List.getElem?_cons_zero, Option.getD_some]; exact rfl)))
        | ((with_reducible refine h_read (v := ?_) (a' := ?_) ?_ (fun _ hbw => ?_) ?_ ?_); rotate_left; rotate_left; (focus (exact rfl)); (focus (skip; go_simp; (try go_bits); exact rfl)); (focus (simp only [Act.put, List.setIfInBounds_toArray, List.set_cons_succ, List.set_cons_zero, Act.eval, Array.getD_eq_getD_getElem?, List.getElem?_toArray, List.getElem?_cons_succ, List.getElem?_cons_zero, Option.getD_some]; exact rfl)))
    refine h_tail [] rfl (by simp) (z_nil (hK' _ _ ?_))
    have D4 := d1.trans ((d2.trans ((d3.trans (d4.mono d3.size)).mono d2.size)).mono d1.size)
    have B4 := Lib.hid (B0.out.drew.trans (D4.mono B0.out.size))
    have K4 := Lib.hid k4
    clear hC0 hCb hK' d1 d2 d3 d4 D4 o3 hr3 k4
    go_wp2
    go_ret2
    exact ⟨q, p, rfl, K4.out, B4.out⟩
  · refine h_empty8 Tryd.underlying23 info8 rfl (fun w2 b2 d2 => ?_)
    simp only [Act.put, List.setIfInBounds_toArray, List.set_cons_succ, List.set_cons_zero]
    (with_reducible refine h_call ?_ ?_)
    · exact rfl
    go_simp
    refine entersW_of ?_
    refine (tables17_any w2 ((show Turning W.drew from T0.out).below d2)).mono ?_
    rintro e w1 ⟨p, rfl, t1, d1⟩
    refine ⟨_, rfl, d1, ?_⟩
    try simp only [Act.put, List.setIfInBounds_toArray, List.set_cons_succ, List.set_cons_zero]
    repeat
      first
        | ((with_reducible refine h_pure (v := ?_) (a' := ?_) ?_ (fun _ => ?_) ?_ ?_); rotate_left; rotate_left; (focus (exact rfl)); (focus (go_simp; (try go_bits); exact rfl)); (focus (simp only [Act.put, List.setIfInBounds_toArray, List.set_cons_succ, List.set_cons_zero, Act.eval, Array.getD_eq_getD_getElem?, List.getElem?_toArray, List.getElem?_cons_succ, List.getElem?_cons_zero, Option.getD_some]; exact rfl)))
        | ((with_reducible refine h_obl (v := ?_) (a' := ?_) ?_ (fun _ hcw => ?_) ?_ ?_); rotate_left; rotate_left; (focus (exact rfl)); (focus (skip; go_simp; (try go_bits); exact rfl)); (focus (simp only [Act.put, List.setIfInBounds_toArray, List.set_cons_succ, List.set_cons_zero, Act.eval, Array.getD_eq_getD_getElem?, List.getElem?_toArray, List.getElem?_cons_succ, List.getElem?_cons_zero, Option.getD_some]; exact rfl)))
        | ((with_reducible refine h_read (v := ?_) (a' := ?_) ?_ (fun _ hbw => ?_) ?_ ?_); rotate_left; rotate_left; (focus (exact rfl)); (focus (skip; go_simp; (try go_bits); exact rfl)); (focus (simp only [Act.put, List.setIfInBounds_toArray, List.set_cons_succ, List.set_cons_zero, Act.eval, Array.getD_eq_getD_getElem?, List.getElem?_toArray, List.getElem?_cons_succ, List.getElem?_cons_zero, Option.getD_some]; exact rfl)))
    refine h_append_fresh (R0.out.drew.below (d2.trans (d1.mono d2.size))) (by omega) rfl rfl rfl Tryd.underlying23 info8 (by omega) (fun w3 v3 o3 d3 => ?_)
    simp only [Act.put, List.setIfInBounds_toArray, List.set_cons_succ, List.set_cons_zero]
    obtain ⟨a3, c3, rfl, hr3, _⟩ := o3.rd
    rw [hkl] at hr3 ⊢
    (with_reducible refine h_call ?_ ?_)
    · exact rfl
    go_simp
    refine entersW_of ?_
    refine (anew_any p k a3 c3 w3 (t1.below d3) hr3).mono ?_
    rintro e w4 ⟨q, rfl, k4, _, d4⟩
    refine ⟨_, rfl, d4, ?_⟩
    try simp only [Act.put, List.setIfInBounds_toArray, List.set_cons_succ, List.set_cons_zero]
    repeat
      first
        | ((with_reducible refine h_pure (v := ?_) (a' := ?_) ?_ (fun _ => ?_) ?_ ?_); rotate_left; rotate_left; (focus (exact rfl)); (focus (go_simp; (try go_bits); exact rfl)); (focus (simp only [Act.put, List.setIfInBounds_toArray, List.set_cons_succ, List.set_cons_zero, Act.eval, Array.getD_eq_getD_getElem?, List.getElem?_toArray, List.getElem?_cons_succ, List.getElem?_cons_zero, Option.getD_some]; exact rfl)))
        | ((with_reducible refine h_obl (v := ?_) (a' := ?_) ?_ (fun _ hcw => ?_) ?_ ?_); rotate_left; rotate_left; (focus (exact rfl)); (focus (skip; go_simp; (try go_bits); exact rfl)); (focus (simp only [Act.put, List.setIfInBounds_toArray, List.set_cons_succ, List.set_cons_zero, Act.eval, Array.getD_eq_getD_getElem?, List.getElem?_toArray, List.getElem?_cons_succ, List.getElem?_cons_zero, Option.getD_some]; exact rfl)))
        | ((with_reducible refine h_read (v := ?_) (a' := ?_) ?_ (fun _ hbw => ?_) ?_ ?_); rotate_left; rotate_left; (focus (exact rfl)); (focus (skip; go_simp; (try go_bits); exact rfl)); (focus (simp only [Act.put, List.setIfInBounds_toArray, List.set_cons_succ, List.set_cons_zero, Act.eval, Array.getD_eq_getD_getElem?, List.getElem?_toArray, List.getElem?_cons_succ, List.getElem?_cons_zero, Option.getD_some]; exact rfl)))
    refine h_tail [] rfl (by simp) (z_nil (hK' _ _ ?_))
    have D4 := d2.trans ((d1.trans ((d3.trans (d4.mono d3.size)).mono d1.size)).mono d2.size)
    have B4 := Lib.hid (B0.out.drew.trans (D4.mono B0.out.size))
    have K4 := Lib.hid k4
    clear hC0 hCb hK' d1 d2 d3 d4 D4 o3 hr3 k4
    go_wp2
    go_ret2
    exact ⟨q, p, rfl, K4.out, B4.out⟩
set_option linter.unusedSimpArgs false in
set_option maxRecDepth 100000 in
set_option maxHeartbeats 800000 in
theorem own17_any {T : Array Value} {k : List (BitVec 8)} {a : Option Addr} {n c : Nat} {b : Option Addr} {m d : Nat} (w : World) (h : AText T k a n c b m d) (hT : Turning w) :
    Calls Tryd.prog 33 #[.agg T] w fun e w' => ∃ kk ks p, e = .returned (.tuple #[.pointer (some ⟨kk, 0, none⟩), .pointer (some ⟨ks, 0, none⟩), .bool true]) ∧ KeyAt w' kk p 15 (aesA k) ∧ AdK w' ks (hashA k) ∧ Below w.heap.size w w' := by
  obtain ⟨W, hW⟩ : ∃ W, (w.alloc (.cells T 53)) = W := ⟨_, rfl⟩
  obtain ⟨b0, hb, hz⟩ := new1 _ _ _ _ hW
  have hkl := h.lk
  have ek := h.key
  have esz := h.size
  have P0 := Lib.hid b0
  have B0 := Lib.hid hb
  have T0 := Lib.hid (hT.below hb)
  have bn := build_nonce
  clear b0 hb hz hT h
  go_enter Tryd.func33, Tryd.ntmps33
  go_upto_region 1 with fail
  clear hW
  refine wp_region_tail [0,5,0,2,2,0,0,0,0,0] (by kernel_rfl) (by kernel_rfl) (fun C0 hC0 hCb K' hK' => ?_)
  have Q1 : ∀ w1, C0 w1 → rowAt w1 w.heap.size = T := fun w1 hw => (P0.out.drew.belowAll (hCb w1 hw)).row
  repeat
    first
      | ((with_reducible refine h_pure (v := ?_) (a' := ?_) ?_ (fun _ => ?_) ?_ ?_); rotate_left; rotate_left; (focus (exact rfl)); (focus (go_simp; (try go_bits); exact rfl)); (focus (simp only [Act.put, List.setIfInBounds_toArray, List.set_cons_succ, List.set_cons_zero, Act.eval, Array.getD_eq_getD_getElem?, List.getElem?_toArray, List.getElem?_cons_succ, List.getElem?_cons_zero, Option.getD_some]; exact rfl)))
      | ((with_reducible refine h_obl (v := ?_) (a' := ?_) ?_ (fun _ hcw => ?_) ?_ ?_); rotate_left; rotate_left; (focus (exact rfl)); (focus (have f1 := Q1 _ hcw; go_simp; (try go_bits); exact rfl)); (focus (simp only [Act.put, List.setIfInBounds_toArray, List.set_cons_succ, List.set_cons_zero, Act.eval, Array.getD_eq_getD_getElem?, List.getElem?_toArray, List.getElem?_cons_succ, List.getElem?_cons_zero, Option.getD_some]; exact rfl)))
      | ((with_reducible refine h_read (v := ?_) (a' := ?_) ?_ (fun _ hbw => ?_) ?_ ?_); rotate_left; rotate_left; (focus (exact rfl)); (focus (skip; go_simp; (try go_bits); exact rfl)); (focus (simp only [Act.put, List.setIfInBounds_toArray, List.set_cons_succ, List.set_cons_zero, Act.eval, Array.getD_eq_getD_getElem?, List.getElem?_toArray, List.getElem?_cons_succ, List.getElem?_cons_zero, Option.getD_some]; exact rfl)))
  refine h_make8 (n := 1136) rfl rfl (by omega) Tryd.underlying23 info8 (fun w2 ad r2 b2 => ?_)
  simp only [Act.put, List.setIfInBounds_toArray, List.set_cons_succ, List.set_cons_zero]
  (with_reducible refine h_call ?_ ?_)
  · exact rfl
  go_simp
  refine entersW_of ?_
  refine (crypt_yes k nonce1 (zeros 8 1136) 12 ad 1136 1136 w2 hkl (by decide) (by simp) r2 (by omega)).mono ?_
  rintro e w4 ⟨v4, rfl, o4, d4⟩
  refine ⟨_, rfl, d4, ?_⟩
  try simp only [Act.put, List.setIfInBounds_toArray, List.set_cons_succ, List.set_cons_zero]
  have hres : cryptOf k nonce1 (12 : Int).toNat (zeros 8 1136) = ownA k := rfl
  rw [hres] at o4
  obtain ⟨own, hown⟩ : ∃ z, z = ownA k := ⟨_, rfl⟩
  have hol : own.length = 1136 := by rw [hown]; simp [ownA, cryptOf, streamOf]
  rw [← hown] at o4
  obtain ⟨a4, c4, rfl, r4, hb4⟩ := o4.rd
  rw [hol] at r4 ⊢
  have b4 := b2.trans (d4.mono b2.size)
  have P4 := Lib.hid (P0.out.drew.belowAll b4)
  have T4 := Lib.hid ((show Turning W.drew from T0.out).below b4)
  have B4 := Lib.hid (B0.out.drew.trans (b4.mono B0.out.drew.size))
  have R4 := Lib.hid r4
  have HOWN := Lib.hid hown
  clear hres o4 d4 b4 b2 r2 r4 hown
  repeat
    first
      | ((with_reducible refine h_pure (v := ?_) (a' := ?_) ?_ (fun _ => ?_) ?_ ?_); rotate_left; rotate_left; (focus (exact rfl)); (focus (go_simp; (try go_bits); exact rfl)); (focus (simp only [Act.put, List.setIfInBounds_toArray, List.set_cons_succ, List.set_cons_zero, Act.eval, Array.getD_eq_getD_getElem?, List.getElem?_toArray, List.getElem?_cons_succ, List.getElem?_cons_zero, Option.getD_some]; exact rfl)))
      | ((with_reducible refine h_obl (v := ?_) (a' := ?_) ?_ (fun _ hcw => ?_) ?_ ?_); rotate_left; rotate_left; (focus (exact rfl)); (focus (have f1 := Q1 _ hcw; go_simp; (try go_bits); exact rfl)); (focus (simp only [Act.put, List.setIfInBounds_toArray, List.set_cons_succ, List.set_cons_zero, Act.eval, Array.getD_eq_getD_getElem?, List.getElem?_toArray, List.getElem?_cons_succ, List.getElem?_cons_zero, Option.getD_some]; exact rfl)))
      | ((with_reducible refine h_read (v := ?_) (a' := ?_) ?_ (fun _ hbw => ?_) ?_ ?_); rotate_left; rotate_left; (focus (exact rfl)); (focus (skip; go_simp; (try go_bits); exact rfl)); (focus (simp only [Act.put, List.setIfInBounds_toArray, List.set_cons_succ, List.set_cons_zero, Act.eval, Array.getD_eq_getD_getElem?, List.getElem?_toArray, List.getElem?_cons_succ, List.getElem?_cons_zero, Option.getD_some]; exact rfl)))
  refine h_nil (hK' _ _ ?_)
  clear Q1 hK' hCb hC0 P0 T0 B0
  have hc4 := R4.out.2.1
  have x1 : (1136 : Int) ≤ (c4 : Int) := by omega
  have x2 : (32 : Int) ≤ (c4 : Int) := by omega
  obtain ⟨b4, o4, rfl, hlt4, _⟩ := R4.out.2.2.2 (by omega)
  have Rk := Lib.hid (R4.out.pre (j := 32) (by omega))
  have r5 := R4.out.cut (j := 32) (k := 1136) (by omega) (Nat.le_refl _)
  rw [List.take_of_length_le (by rw [hol]; omega), if_neg (by omega)] at r5
  simp only [Option.map_some, Addr.add_lit] at r5
  have R5 := Lib.hid r5
  have n32 : ¬ c4 = 32 := by omega
  clear r5
  go_upto_region 4 with fail
  refine wp_region_tail [2,0,0,2,0,0,0,0,0] (by kernel_rfl) (by kernel_rfl) (fun C0 hC0 hCb K' hK' => ?_)
  (with_reducible refine h_call ?_ ?_)
  · exact rfl
  go_simp
  refine entersW_of ?_
  refine (tables17_any w4.drew T4.out).mono ?_
  rintro e w5 ⟨p, rfl, t5, d5⟩
  refine ⟨_, rfl, d5, ?_⟩
  try simp only [Act.put, List.setIfInBounds_toArray, List.set_cons_succ, List.set_cons_zero]
  repeat
    first
      | ((with_reducible refine h_pure (v := ?_) (a' := ?_) ?_ (fun _ => ?_) ?_ ?_); rotate_left; rotate_left; (focus (exact rfl)); (focus (go_simp; (try go_bits); exact rfl)); (focus (simp only [Act.put, List.setIfInBounds_toArray, List.set_cons_succ, List.set_cons_zero, Act.eval, Array.getD_eq_getD_getElem?, List.getElem?_toArray, List.getElem?_cons_succ, List.getElem?_cons_zero, Option.getD_some]; exact rfl)))
      | ((with_reducible refine h_obl (v := ?_) (a' := ?_) ?_ (fun _ hcw => ?_) ?_ ?_); rotate_left; rotate_left; (focus (exact rfl)); (focus (skip; go_simp; (try go_bits); exact rfl)); (focus (simp only [Act.put, List.setIfInBounds_toArray, List.set_cons_succ, List.set_cons_zero, Act.eval, Array.getD_eq_getD_getElem?, List.getElem?_toArray, List.getElem?_cons_succ, List.getElem?_cons_zero, Option.getD_some]; exact rfl)))
      | ((with_reducible refine h_read (v := ?_) (a' := ?_) ?_ (fun _ hbw => ?_) ?_ ?_); rotate_left; rotate_left; (focus (exact rfl)); (focus (skip; go_simp; (try go_bits); exact rfl)); (focus (simp only [Act.put, List.setIfInBounds_toArray, List.set_cons_succ, List.set_cons_zero, Act.eval, Array.getD_eq_getD_getElem?, List.getElem?_toArray, List.getElem?_cons_succ, List.getElem?_cons_zero, Option.getD_some]; exact rfl)))
  (with_reducible refine h_call ?_ ?_)
  · exact rfl
  go_simp
  refine entersW_of ?_
  refine (expand_yes p (own.take 32) (some ⟨b4, o4, none⟩) 32 c4 w5 t5 (Rk.out.drew.below d5) (by simp)).mono ?_
  rintro e w6 ⟨kk, rfl, K6, hkk, d6⟩
  refine ⟨_, rfl, d6, ?_⟩
  try simp only [Act.put, List.setIfInBounds_toArray, List.set_cons_succ, List.set_cons_zero]
  repeat
    first
      | ((with_reducible refine h_pure (v := ?_) (a' := ?_) ?_ (fun _ => ?_) ?_ ?_); rotate_left; rotate_left; (focus (exact rfl)); (focus (go_simp; (try go_bits); exact rfl)); (focus (simp only [Act.put, List.setIfInBounds_toArray, List.set_cons_succ, List.set_cons_zero, Act.eval, Array.getD_eq_getD_getElem?, List.getElem?_toArray, List.getElem?_cons_succ, List.getElem?_cons_zero, Option.getD_some]; exact rfl)))
      | ((with_reducible refine h_obl (v := ?_) (a' := ?_) ?_ (fun _ hcw => ?_) ?_ ?_); rotate_left; rotate_left; (focus (exact rfl)); (focus (skip; go_simp; (try go_bits); exact rfl)); (focus (simp only [Act.put, List.setIfInBounds_toArray, List.set_cons_succ, List.set_cons_zero, Act.eval, Array.getD_eq_getD_getElem?, List.getElem?_toArray, List.getElem?_cons_succ, List.getElem?_cons_zero, Option.getD_some]; exact rfl)))
      | ((with_reducible refine h_read (v := ?_) (a' := ?_) ?_ (fun _ hbw => ?_) ?_ ?_); rotate_left; rotate_left; (focus (exact rfl)); (focus (skip; go_simp; (try go_bits); exact rfl)); (focus (simp only [Act.put, List.setIfInBounds_toArray, List.set_cons_succ, List.set_cons_zero, Act.eval, Array.getD_eq_getD_getElem?, List.getElem?_toArray, List.getElem?_cons_succ, List.getElem?_cons_zero, Option.getD_some]; exact rfl)))
  refine h_nil (hK' _ _ ?_)
  have D6 := d5.trans (d6.mono d5.size)
  have R6 := Lib.hid (R5.out.drew.below D6)
  have B6 := Lib.hid (B4.out.drew.trans (D6.mono B4.out.drew.size))
  have K6 := Lib.hid K6
  clear hK' hCb hC0 D6 d5 d6 t5 R5 B4
  go_wp2_with fail
  refine (adnew_any (own.drop 32) (some ⟨b4, o4 + 32, none⟩) (c4 - 32) w6 R6.out).mono ?_
  rintro e w7 ⟨ks, rfl, A7, hks, d7⟩
  have K7 := K6.out.below d7
  have B7 := Lib.hid (B6.out.trans (d7.mono B6.out.size))
  rw [HOWN.out] at K7 A7
  have K7 := Lib.hid K7
  have A7 := Lib.hid A7
  clear d7
  go_wp2
  go_ret3
  exact ⟨kk, ks, p, rfl, K7.out, A7.out, B7.out⟩
end Go.Proofs.YtfdkmjegcghieaaDoor
/- the laws of adiantum: awake -/
namespace Go.Proofs.YtfdkmjegcghieaaDoor
open Go.RowKit
set_option linter.unusedSimpArgs false in
set_option maxRecDepth 100000 in
set_option maxHeartbeats 1600000 in
theorem awake17_any (w : World) (hT : Turning w) :
    Calls Tryd.prog 32 #[] w fun e w' => e = .returned (.bool true) ∧ Below w.heap.size w w' := by
  have T0 := Lib.hid hT
  have D0 := (Below.refl w.heap.size w).drew
  clear hT
  obtain ⟨Z, hZ⟩ : ∃ Z, Z = zeros 8 32 := ⟨_, rfl⟩
  have hZl : Z.length = 32 := by rw [hZ]; exact zeros_length _ _
  have NW := Lib.hid hZ
  clear hZ
  go_enter Tryd.func32, Tryd.ntmps32
  go_upto_region 1 with fail
  go_cut [1, 2] from 7 to 12 (fun s1 s2 wx => ∃ q p : Nat, s1 = .pointer (some ⟨q, 0, none⟩) ∧ s2 = .int .i64 0 ∧ AcAt wx q p Z ∧ Below w.heap.size w wx)
  case first =>
    refine wp_region_two [] [] [2,0,0,0,0,0] rfl (by kernel_rfl) (by kernel_rfl) (fun C hC0 hCb K' hK' => ⟨?_, ?_⟩)
    · (with_reducible refine h_call ?_ ?_)
      · exact rfl
      go_simp
      refine entersW_of ?_
      refine (tables17_any w.drew T0.out).mono ?_
      rintro e w1 ⟨p, rfl, t1, b1⟩
      refine ⟨_, rfl, b1, ?_⟩
      try simp only [Act.put, List.setIfInBounds_toArray, List.set_cons_succ, List.set_cons_zero]
      refine h_make8 (n := 32) rfl rfl (by omega) Tryd.underlying23 info8 (fun w2 ad r2 b2 => ?_)
      simp only [Act.put, List.setIfInBounds_toArray, List.set_cons_succ, List.set_cons_zero]
      rw [← NW.out] at r2
      (with_reducible refine h_call ?_ ?_)
      · exact rfl
      go_simp
      refine entersW_of ?_
      refine (anew_any p Z ad 32 w2 (t1.below b2) r2).mono ?_
      rintro e w3 ⟨q, rfl, k3, _, b3⟩
      refine ⟨_, rfl, b3, ?_⟩
      try simp only [Act.put, List.setIfInBounds_toArray, List.set_cons_succ, List.set_cons_zero]
      repeat
        first
          | ((with_reducible refine h_pure (v := ?_) (a' := ?_) ?_ (fun _ => ?_) ?_ ?_); rotate_left; rotate_left; (focus (exact rfl)); (focus (go_simp; (try go_bits); exact rfl)); (focus (simp only [Act.put, List.setIfInBounds_toArray, List.set_cons_succ, List.set_cons_zero, Act.eval, Array.getD_eq_getD_getElem?, List.getElem?_toArray, List.getElem?_cons_succ, List.getElem?_cons_zero, Option.getD_some]; exact rfl)))
          | ((with_reducible refine h_obl (v := ?_) (a' := ?_) ?_ (fun _ hcw => ?_) ?_ ?_); rotate_left; rotate_left; (focus (exact rfl)); (focus (skip; go_simp; (try go_bits); exact rfl)); (focus (simp only [Act.put, List.setIfInBounds_toArray, List.set_cons_succ, List.set_cons_zero, Act.eval, Array.getD_eq_getD_getElem?, List.getElem?_toArray, List.getElem?_cons_succ, List.getElem?_cons_zero, Option.getD_some]; exact rfl)))
          | ((with_reducible refine h_read (v := ?_) (a' := ?_) ?_ (fun _ hbw => ?_) ?_ ?_); rotate_left; rotate_left; (focus (exact rfl)); (focus (skip; go_simp; (try go_bits); exact rfl)); (focus (simp only [Act.put, List.setIfInBounds_toArray, List.set_cons_succ, List.set_cons_zero, Act.eval, Array.getD_eq_getD_getElem?, List.getElem?_toArray, List.getElem?_cons_succ, List.getElem?_cons_zero, Option.getD_some]; exact rfl)))
      refine h_tail [] rfl (by simp) (z_nil (hK' _ _ ?_))
      go_wp2
      go_meet
      exact ⟨q, p, rfl, rfl, k3, D0.trans (b1.trans ((b2.trans (b3.mono b2.size)).mono b1.size))⟩
    · refine h_make8 (n := 32) rfl rfl (by omega) Tryd.underlying23 info8 (fun w2 ad r2 b2 => ?_)
      simp only [Act.put, List.setIfInBounds_toArray, List.set_cons_succ, List.set_cons_zero]
      (with_reducible refine h_call ?_ ?_)
      · exact rfl
      go_simp
      refine entersW_of ?_
      refine (tables17_any w2 (T0.out.below (D0.trans b2))).mono ?_
      rintro e w1 ⟨p, rfl, t1, b1⟩
      refine ⟨_, rfl, b1, ?_⟩
      try simp only [Act.put, List.setIfInBounds_toArray, List.set_cons_succ, List.set_cons_zero]
      rw [← NW.out] at r2
      (with_reducible refine h_call ?_ ?_)
      · exact rfl
      go_simp
      refine entersW_of ?_
      refine (anew_any p Z ad 32 w1 t1 (r2.below b1)).mono ?_
      rintro e w3 ⟨q, rfl, k3, _, b3⟩
      refine ⟨_, rfl, b3, ?_⟩
      try simp only [Act.put, List.setIfInBounds_toArray, List.set_cons_succ, List.set_cons_zero]
      repeat
        first
          | ((with_reducible refine h_pure (v := ?_) (a' := ?_) ?_ (fun _ => ?_) ?_ ?_); rotate_left; rotate_left; (focus (exact rfl)); (focus (go_simp; (try go_bits); exact rfl)); (focus (simp only [Act.put, List.setIfInBounds_toArray, List.set_cons_succ, List.set_cons_zero, Act.eval, Array.getD_eq_getD_getElem?, List.getElem?_toArray, List.getElem?_cons_succ, List.getElem?_cons_zero, Option.getD_some]; exact rfl)))
          | ((with_reducible refine h_obl (v := ?_) (a' := ?_) ?_ (fun _ hcw => ?_) ?_ ?_); rotate_left; rotate_left; (focus (exact rfl)); (focus (skip; go_simp; (try go_bits); exact rfl)); (focus (simp only [Act.put, List.setIfInBounds_toArray, List.set_cons_succ, List.set_cons_zero, Act.eval, Array.getD_eq_getD_getElem?, List.getElem?_toArray, List.getElem?_cons_succ, List.getElem?_cons_zero, Option.getD_some]; exact rfl)))
          | ((with_reducible refine h_read (v := ?_) (a' := ?_) ?_ (fun _ hbw => ?_) ?_ ?_); rotate_left; rotate_left; (focus (exact rfl)); (focus (skip; go_simp; (try go_bits); exact rfl)); (focus (simp only [Act.put, List.setIfInBounds_toArray, List.set_cons_succ, List.set_cons_zero, Act.eval, Array.getD_eq_getD_getElem?, List.getElem?_toArray, List.getElem?_cons_succ, List.getElem?_cons_zero, Option.getD_some]; exact rfl)))
      refine h_tail [] rfl (by simp) (z_nil (hK' _ _ ?_))
      go_wp2
      go_meet
      exact ⟨q, p, rfl, rfl, k3, D0.trans (b2.trans ((b1.trans (b3.mono b1.size)).mono b2.size))⟩
  case rest =>
    obtain ⟨q, p, rfl, rfl, hk, hb⟩ := hcut
    have K1 := Lib.hid hk
    have B1 := Lib.hid hb
    clear hk hb NW
    have m20 := run_make8 (P := Tryd.prog) wc 23 5 20 20 Tryd.underlying23 info8 (by omega) (by omega) (by omega)
    rw [show Int.toNat 20 = 20 from rfl] at m20
    obtain ⟨W1, hW1⟩ : ∃ W1, wc.alloc (.cells (A8 (zeros 8 20)) 5) = W1 := ⟨_, rfl⟩
    obtain ⟨b1, hb1, hz1⟩ := new1 _ _ _ _ hW1
    rw [hW1] at m20
    have r1 := b1.rd8 20 (by simp) (by rw [zeros_length]; unfold maxLen; omega)
    rw [zeros_length, List.take_of_length_le (by simp)] at r1
    have enc := aenc_any q p Z [] (zeros 8 20) none _ 0 0 20 20 W1 (K1.out.below hb1) hZl (rd8_none W1) r1 (by omega) (by omega)
    have EN := Lib.hid enc
    have BW := Lib.hid (B1.out.trans (hb1.mono B1.out.size))
    have HB1 := Lib.hid hb1
    clear enc b1 hb1 hz1 r1 hW1
    go_wp2_with fail
    refine EN.out.mono ?_
    rintro e w3 ⟨v, rfl, o3, d3⟩
    obtain ⟨a3, c3, rfl, hr3, _⟩ := o3.rd
    have hl3 : (encA Z [] (zeros 8 20)).length = 20 := by rw [encA, joinA_length, bulkA, List.length_take, zeros_length]; rfl
    rw [hl3]
    have B3 := Lib.hid (BW.out.trans (d3.mono BW.out.size))
    have T3 := Lib.hid (T0.out.below B3.out)
    clear hr3 o3 d3 m20 EN
    have m15 := run_make8 (P := Tryd.prog) w3 23 5 15 15 Tryd.underlying23 info8 (by omega) (by omega) (by omega)
    rw [show Int.toNat 15 = 15 from rfl] at m15
    obtain ⟨W4, hW4⟩ : ∃ W4, w3.alloc (.cells (A8 (zeros 8 15)) 5) = W4 := ⟨_, rfl⟩
    rw [hW4] at m15
    have B4 := B3.out.alloc B3.out.size (.cells (A8 (zeros 8 15)) 5)
    rw [hW4] at B4
    have BB4 := Lib.hid B4
    clear hW4 B4
    go_wp2_with fail
    refine (aenc_short q _ _ _ _ 15 15 W4 (by omega)).mono ?_
    rintro e w5 ⟨rfl, d5⟩
    have B5 := Lib.hid (BB4.out.trans (d5.mono BB4.out.size))
    clear d5 m15
    go_wp2
    go_ret
    exact ⟨rfl, B5.out⟩
end Go.Proofs.YtfdkmjegcghieaaDoor
