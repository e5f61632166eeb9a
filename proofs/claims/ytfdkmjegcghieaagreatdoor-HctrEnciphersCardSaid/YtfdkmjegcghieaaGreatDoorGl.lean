/- Text of layer 18: a key, its size, a tweak and a message, as one row of cells -/
import Derived.Test.YtfdkmjegcghieaaGreatDoorGs
import Derived.Test.YtfdkmjegcghieaaGreatDoorGk
import Derived.Test.YtfdkmjegcghieaaGreatDoorGy
import Derived.Test.YtfdkmjegcghieaaGreatDoorGe
import Derived.Test.YtfdkmjegcghieaaGreatDoorGq
namespace Go.Proofs.YtfdkmjegcghieaaGreatDoor
open Go.ChangeShapes Go.WideShapes Go.ChangeAt Go.RowKit
/-- a Text's cells -/
structure HText (T : Array Value) (k : List (BitVec 8)) (s : BitVec 8) (a : Option Addr) (n c : Nat) (b : Option Addr) (m d : Nat) : Prop where
  size : T.size = 35
  key : T.extract 0 32 = A8 k
  sz : T[32]? = some (v8 s)
  tweak : T[33]? = some (.slice a n c)
  msg : T[34]? = some (.slice b m d)
  lk : k.length = 32
@[go_sem] theorem cellsOf25 : Tryz.prog.cellsOf 25 = 35 := by kernel_rfl
section
variable {H : Type} {enc : TypeId × Value → H} {w : World} {base : Nat} {spare : Nat → Bool} {held : Bool}
set_option maxRecDepth 100000 in
theorem open_htext {r : Reach} {b0 : Nat} {v : Value} {d : DataW H} {p : List MemPlace}
    (hv : Value.okWide Tryz.prog w r b0 25 v) (h : DataW.Trod enc Tryz.prog w base spare held 25 v d p) :
    ∃ (T : Array Value) (k : List (BitVec 8)) (s : BitVec 8) (a : Option Addr) (n c : Nat) (t : List (BitVec 8)) (b : Option Addr) (m d : Nat) (x : List (BitVec 8)), HText T k s a n c b m d ∧ Rd8 w a n c t ∧ Rd8 w b m d x ∧ v = .agg T := by
  unfold Value.okWide at hv
  rw [Tryz.underlying25] at hv
  obtain ⟨T, rfl, hs, _⟩ := hv
  rw [cellsOf25] at hs
  obtain ⟨fuel, hf⟩ := h
  obtain ⟨xs, m, rfl, _, hl, hxl, hi⟩ := DataW.trod_struct Tryz.underlying25 hf
  have get : ∀ i, i < 4 → ∃ y, xs[i]? = some y := fun i hi4 => ⟨xs[i]'(by rw [hxl]; simpa using hi4), List.getElem?_eq_getElem _⟩
  obtain ⟨y0, e0⟩ := get 0 (by omega)
  obtain ⟨y1, e1⟩ := get 1 (by omega)
  obtain ⟨y2, e2⟩ := get 2 (by omega)
  obtain ⟨y3, e3⟩ := get 3 (by omega)
  have h0 : DataW.trod enc Tryz.prog w base spare held m 22 ((T.toList.drop 0).take (Tryz.prog.cellsOf 22)) = some y0 := (hi 0 _ rfl).trans e0
  have h1 : DataW.trod enc Tryz.prog w base spare held m 5 ((T.toList.drop 32).take (Tryz.prog.cellsOf 5)) = some y1 := (hi 1 _ rfl).trans e1
  have h2 : DataW.trod enc Tryz.prog w base spare held m 23 ((T.toList.drop 33).take (Tryz.prog.cellsOf 23)) = some y2 := (hi 2 _ rfl).trans e2
  have h3 : DataW.trod enc Tryz.prog w base spare held m 23 ((T.toList.drop 34).take (Tryz.prog.cellsOf 23)) = some y3 := (hi 3 _ rfl).trans e3
  rw [show Tryz.prog.cellsOf 22 = 32 by kernel_rfl] at h0
  rw [show Tryz.prog.cellsOf 5 = 1 by kernel_rfl] at h1
  rw [show Tryz.prog.cellsOf 23 = 1 by kernel_rfl] at h2 h3
  obtain ⟨k, hk, hck⟩ := cells_v8 Tryz.underlying22 Tryz.underlying5 (by kernel_rfl) (by kernel_rfl) h0
  obtain ⟨q, hq, _, zq⟩ := DataW.trod_int Tryz.underlying5 h1
  obtain ⟨s, hsz⟩ := int_v8 zq
  have sl : ∀ {o : Nat} {y : DataW H × List MemPlace}, DataW.trod enc Tryz.prog w base spare held m 23 ((T.toList.drop o).take 1) = some y → ∃ a len cap l, ((T.toList.drop o).take 1) = [Value.slice a len cap] ∧ Rd8 w a len cap l := by
    intro o y hy
    have hb : ∃ a len cap, ((T.toList.drop o).take 1) = [Value.slice a len cap] := by
      rcases DataW.trod_slice Tryz.underlying23 hy with ⟨hc, _⟩ | ⟨a, len, cap, _, _, _, _, hc, _⟩
      · exact ⟨_, _, _, hc⟩
      · exact ⟨_, _, _, hc⟩
    obtain ⟨a, len, cap, hb⟩ := hb
    obtain ⟨l, hr⟩ := open_bytes (enc := enc) (P := Tryz.prog) (w := w) (base := base) (spare := spare) (held := held) (t := 23) (a := a) (n := len) (c := cap) (d := y.1) (p := y.2) Tryz.underlying23 Tryz.underlying5 (by kernel_rfl) ⟨m, by
      show DataW.trod enc Tryz.prog w base spare held m 23 [Value.slice a len cap] = _
      rw [← hb]; exact hy⟩
    exact ⟨a, len, cap, l, hb, hr⟩
  obtain ⟨a, n, c, t, hb2, r2⟩ := sl h2
  obtain ⟨b, m', d, x, hb3, r3⟩ := sl h3
  refine ⟨T, k, s, a, n, c, t, b, m', d, x, ⟨hs, ?_, ?_, ?_, ?_, hk⟩, r2, r3, rfl⟩
  · refine A8_of_toList ?_
    rw [← hck, Array.toList_extract]
  · have := congrArg (fun l : List Value => l[0]?) hq
    simp at this
    rw [← hsz, ← this]
  · have := congrArg (fun l : List Value => l[0]?) hb2
    simp at this
    rw [← this]
  · have := congrArg (fun l : List Value => l[0]?) hb3
    simp at this
    rw [← this]
end
end Go.Proofs.YtfdkmjegcghieaaGreatDoor
/- the laws of hctr: the tables, a key's bytes, a cipher, awake -/
namespace Go.Proofs.YtfdkmjegcghieaaGreatDoor
open Go.RowKit
theorem rd8_nil (w : World) : Rd8 w none 0 0 [] := ⟨rfl, Nat.le_refl _, by unfold maxLen; omega, fun h => absurd h (by omega)⟩
theorem tables18_any (w : World) (hT : Turning w) :
    Calls Tryz.prog 24 #[] w fun e w' => ∃ p, e = .returned (.pointer (some ⟨p, 0, none⟩)) ∧ TabAt w' p ∧ Below w.heap.size w w' := by
  go_enter Tryz.func24, Tryz.ntmps24
  go_wp2_with fail
  refine (gfmake_any _).mono ?_
  rintro e w1 ⟨q, rfl, hq, _, hb⟩
  go_wp2_with fail
  refine (new_any q _ (hT.below hb) hq).mono ?_
  rintro e w2 ⟨p, rfl, hp, _, hb2⟩
  go_wp2
  go_ret
  exact ⟨p, rfl, ⟨q, hp, hq.belowAll hb2⟩, hb.trans (hb2.mono hb.size)⟩
theorem HText.cellk {T : Array Value} {k : List (BitVec 8)} {s : BitVec 8} {a : Option Addr} {n c : Nat} {b : Option Addr} {m d : Nat} (h : HText T k s a n c b m d) (i : Nat) (hi : i < 32) : T[i]? = some (v8 (nth k i)) := by
  have e := congrArg (fun A : Array Value => A[i]?) h.key
  simp only [A8_get k i (by rw [h.lk]; exact hi)] at e
  rw [← e, Array.getElem?_extract]
  simp [hi, h.size]
theorem HText.rdk {T : Array Value} {k : List (BitVec 8)} {s : BitVec 8} {a : Option Addr} {n c : Nat} {b : Option Addr} {m d : Nat} {w : World} {g : Nat} {t : TypeId} (h : HText T k s a n c b m d) (hb : Blk w g t T) (j : Nat) (hj : j ≤ 32) : Rd8 w (some ⟨g, 0, none⟩) j 32 (k.take j) :=
  ⟨by rw [List.length_take, h.lk]; omega, hj, by unfold maxLen; omega, fun _ => ⟨g, 0, rfl, hb.lt, fun i hi => by rw [Nat.zero_add, hb.cell, h.cellk i (by omega), nth_take _ _ _ hi]⟩⟩
set_option linter.unusedSimpArgs false in
set_option maxRecDepth 100000 in
theorem short18_any {T : Array Value} {k : List (BitVec 8)} {s : BitVec 8} {a : Option Addr} {n c : Nat} {b : Option Addr} {m d : Nat} (w : World) (h : HText T k s a n c b m d) :
    Calls Tryz.prog 5 #[.agg T] w fun e w' => e = .returned (.bool (decide (n ≤ 100 ∧ m ≤ 300))) ∧ Below w.heap.size w w' := by
  obtain ⟨W, hW⟩ : ∃ W, (w.alloc (.cells T 25)) = W := ⟨_, rfl⟩
  obtain ⟨b0, hb, hz⟩ := new1 _ _ _ _ hW
  have s0 := h.size
  have c1 := b0.cell 33
  have c2 := b0.cell 34
  rw [h.tweak] at c1
  rw [h.msg] at c2
  have B := Lib.hid hb
  clear hb hz b0 h
  by_cases hn : n ≤ 100
  · by_cases hm : m ≤ 300
    · have e : decide (n ≤ 100 ∧ m ≤ 300) = true := by simp [hn, hm]
      rw [e]
      have l1 : (n : Int) ≤ 100 := by omega
      have l2 : (m : Int) ≤ 300 := by omega
      go_enter Tryz.func5, Tryz.ntmps5
      go_wp2
      go_ret
      exact ⟨rfl, B.out⟩
    · have e : decide (n ≤ 100 ∧ m ≤ 300) = false := by simp [hm]
      rw [e]
      have l1 : (n : Int) ≤ 100 := by omega
      have l2 : ¬ (m : Int) ≤ 300 := by omega
      go_enter Tryz.func5, Tryz.ntmps5
      go_wp2
      go_ret
      exact ⟨rfl, B.out⟩
  · have e : decide (n ≤ 100 ∧ m ≤ 300) = false := by simp [hn]
    rw [e]
    have l1 : ¬ (n : Int) ≤ 100 := by omega
    go_enter Tryz.func5, Tryz.ntmps5
    go_wp2
    go_ret
    exact ⟨rfl, B.out⟩
theorem keyB_app (k : List (BitVec 8)) (s : BitVec 8) (h : k.length = 32) : keyB (k ++ [s]) = k.take (keyN (k ++ [s])) := by
  have := keyN_or (k ++ [s])
  rw [keyB, List.take_append_of_le_length (by omega)]
theorem nth_app (k : List (BitVec 8)) (s : BitVec 8) (h : k.length = 32) : nth (k ++ [s]) 32 = s := by
  rw [nth_append, if_neg (by omega), h]; rfl
set_option linter.unusedSimpArgs false in
set_option maxRecDepth 100000 in
theorem bytes18_any {T : Array Value} {k : List (BitVec 8)} {s : BitVec 8} {a : Option Addr} {n c : Nat} {b : Option Addr} {m d : Nat} (w : World) (h : HText T k s a n c b m d) :
    Calls Tryz.prog 12 #[.agg T] w fun e w' => ∃ v, e = .returned v ∧ Own8 w' w.heap.size 5 v (keyB (k ++ [s])) ∧ Below w.heap.size w w' := by
  obtain ⟨W, hW⟩ : ∃ W, (w.alloc (.cells T 25)) = W := ⟨_, rfl⟩
  obtain ⟨b0, hb, hz⟩ := new1 _ _ _ _ hW
  have s0 := h.size
  have c1 := b0.cell 32
  rw [h.sz] at c1
  have hn := keyN_or (k ++ [s])
  have Q0 := h.rdk b0 (keyN (k ++ [s])) (by omega)
  have B0 := Lib.hid hb
  have q0 : ((s % 3#8).toNat : Int) = (s.toNat : Int) % 3 := by rw [BitVec.toNat_umod]; simp
  have n0 : IntKind.i64.wrap (8 * ((s.toNat : Int) % 3)) = 8 * ((s.toNat : Int) % 3) := by
    rw [IntKind.wrap_i64]; omega
  have n1 : (16 : Int) + 8 * ((s.toNat : Int) % 3) = (keyN (k ++ [s]) : Int) := by unfold keyN; rw [nth_app k s h.lk]; omega
  have n2 : IntKind.i64.wrap (keyN (k ++ [s]) : Int) = (keyN (k ++ [s]) : Int) := by rw [IntKind.wrap_i64]; omega
  rw [keyB_app k s h.lk]
  obtain ⟨N, hN⟩ : ∃ N, N = keyN (k ++ [s]) := ⟨_, rfl⟩
  rw [← hN] at n1 n2 Q0 hn ⊢
  have LL := Lib.hid Q0
  have n3 : (0 : Int) ≤ (N : Int) := by omega
  have n4 : (N : Int) ≤ 32 := by omega
  clear b0 hb hz Q0 hN q0 h
  go_enter Tryz.func12, Tryz.ntmps12
  go_upto_region 2 with fail
  refine wp_region_plain [2,0,0,0,2,0] rfl (fun ops' K4 hK4 => ?_)
  refine z_build0 (B := w.heap.size) (by have := B0.out.size; omega) Tryz.underlying23 info8 (fun w4 v4 ho4 hb4 => ?_)
  simp only [Act.put, List.setIfInBounds_toArray, List.set_cons_succ, List.set_cons_zero]
  repeat
    first
      | ((with_reducible refine z_move (a' := ?_) ?_ ?_); rotate_left; · (simp only [Act.put, List.setIfInBounds_toArray, List.set_cons_succ, List.set_cons_zero, Act.eval, Array.getD_eq_getD_getElem?, List.getElem?_toArray, List.getElem?_cons_succ, List.getElem?_cons_zero, Option.getD_some]; exact rfl))
      | ((with_reducible refine z_assign (a' := ?_) ?_ ?_); rotate_left; · (simp only [Act.put, List.setIfInBounds_toArray, List.set_cons_succ, List.set_cons_zero, Act.eval, Array.getD_eq_getD_getElem?, List.getElem?_toArray, List.getElem?_cons_succ, List.getElem?_cons_zero, Option.getD_some]; exact rfl))
      | ((with_reducible refine z_obl (v := ?_) (a' := ?_) rfl (fun _ => ?_) ?_ ?_); rotate_left; rotate_left; (focus (go_simp; (try go_bits); exact rfl)); (focus (simp only [Act.put, List.setIfInBounds_toArray, List.set_cons_succ, List.set_cons_zero, Act.eval, Array.getD_eq_getD_getElem?, List.getElem?_toArray, List.getElem?_cons_succ, List.getElem?_cons_zero, Option.getD_some]; exact rfl)))
      | ((with_reducible refine z_read (v := ?_) (a' := ?_) rfl ?_ ?_ ?_); rotate_left; rotate_left; (focus (go_simp; (try go_bits); exact rfl)); (focus (simp only [Act.put, List.setIfInBounds_toArray, List.set_cons_succ, List.set_cons_zero, Act.eval, Array.getD_eq_getD_getElem?, List.getElem?_toArray, List.getElem?_cons_succ, List.getElem?_cons_zero, Option.getD_some]; exact rfl)))
  refine z_append8 ho4 (LL.out.below hb4) rfl rfl Tryz.underlying23 info8 (by simp; omega) (Nat.le_trans B0.out.size hb4.size) (fun w5 v5 o5 g5 b5 => ?_)
  simp only [Act.put, List.setIfInBounds_toArray, List.set_cons_succ, List.set_cons_zero]
  repeat
    first
      | ((with_reducible refine z_move (a' := ?_) ?_ ?_); rotate_left; · (simp only [Act.put, List.setIfInBounds_toArray, List.set_cons_succ, List.set_cons_zero, Act.eval, Array.getD_eq_getD_getElem?, List.getElem?_toArray, List.getElem?_cons_succ, List.getElem?_cons_zero, Option.getD_some]; exact rfl))
      | ((with_reducible refine z_assign (a' := ?_) ?_ ?_); rotate_left; · (simp only [Act.put, List.setIfInBounds_toArray, List.set_cons_succ, List.set_cons_zero, Act.eval, Array.getD_eq_getD_getElem?, List.getElem?_toArray, List.getElem?_cons_succ, List.getElem?_cons_zero, Option.getD_some]; exact rfl))
      | ((with_reducible refine z_obl (v := ?_) (a' := ?_) rfl (fun _ => ?_) ?_ ?_); rotate_left; rotate_left; (focus (go_simp; (try go_bits); exact rfl)); (focus (simp only [Act.put, List.setIfInBounds_toArray, List.set_cons_succ, List.set_cons_zero, Act.eval, Array.getD_eq_getD_getElem?, List.getElem?_toArray, List.getElem?_cons_succ, List.getElem?_cons_zero, Option.getD_some]; exact rfl)))
      | ((with_reducible refine z_read (v := ?_) (a' := ?_) rfl ?_ ?_ ?_); rotate_left; rotate_left; (focus (go_simp; (try go_bits); exact rfl)); (focus (simp only [Act.put, List.setIfInBounds_toArray, List.set_cons_succ, List.set_cons_zero, Act.eval, Array.getD_eq_getD_getElem?, List.getElem?_toArray, List.getElem?_cons_succ, List.getElem?_cons_zero, Option.getD_some]; exact rfl)))
  refine z_nil (hK4 _ _ ?_)
  rw [List.nil_append] at o5
  have B5 := (B0.out.trans (hb4.mono B0.out.size)).trans b5
  clear hK4 ho4 hb4 g5 b5
  go_wp2
  go_ret
  exact ⟨_, rfl, o5, B5⟩
/-- a cipher of a law: its key's rounds, and its own blocks -/
def CiK (w : World) (q k p : Nat) (K : List (BitVec 8)) : Prop := CiAt w q k p (mK K) (LK K) (hkey (LK K) (mK K)) (lkey (LK K) (mK K))
theorem CiK.below {w w' : World} {q k p : Nat} {K : List (BitVec 8)} (h : CiK w q k p K) (hb : Below w.heap.size w w') : CiK w' q k p K := CiAt.below h hb
theorem hnewK_any (p : Nat) (K : List (BitVec 8)) (a : Option Addr) (c : Nat) (w : World) (hT : TabAt w p) (hr : Rd8 w a (keyN K) c (keyB K)) :
    Calls Tryz.prog 23 #[.pointer (some ⟨p, 0, none⟩), .slice a (keyN K) c] w fun e w' => ∃ q k, e = .returned (.tuple #[.pointer (some ⟨q, 0, none⟩), .int .i64 0]) ∧ CiK w' q k p K ∧ Below w.heap.size w w' :=
  hnew_any p (keyB K) a (keyN K) c w hT hr (keyN_or K)
set_option linter.unusedSimpArgs false in
set_option maxRecDepth 100000 in
set_option maxHeartbeats 800000 in
theorem cipher18_any {T : Array Value} {k : List (BitVec 8)} {s : BitVec 8} {a : Option Addr} {n c : Nat} {b : Option Addr} {m d : Nat} (w : World) (h : HText T k s a n c b m d) (hT : Turning w) :
    Calls Tryz.prog 6 #[.agg T] w fun e w' => ∃ q ck p, e = .returned (.tuple #[.pointer (some ⟨q, 0, none⟩), .bool true]) ∧ CiK w' q ck p (k ++ [s]) ∧ Below w.heap.size w w' := by
  obtain ⟨W, hW⟩ : ∃ W, (w.alloc (.cells T 25)) = W := ⟨_, rfl⟩
  obtain ⟨b0, hb, hz⟩ := new1 _ _ _ _ hW
  have P0 := Lib.hid b0
  have B0 := Lib.hid hb
  have T0 := Lib.hid (hT.below hb)
  have s0 := h.size
  have HH := Lib.hid h
  obtain ⟨K, hK⟩ : ∃ K, K = k ++ [s] := ⟨_, rfl⟩
  have hKl : K.length = 33 := by rw [hK, List.length_append, h.lk]; rfl
  rw [← hK]
  have HK := Lib.hid hK
  clear b0 hb hz hT h hK
  go_enter Tryz.func6, Tryz.ntmps6
  go_upto_region 1 with fail
  clear hW
  refine wp_region_tail [2,5,2,2,0,0,0,0,0] (by kernel_rfl) (by kernel_rfl) (fun C hC0 hCb K' hK' => ?_)
  have R0 : ∀ w1, C w1 → (getAt 25 (.pointer (some ⟨w.heap.size, 0, none⟩))).run Tryz.prog w1 = .ok (.agg T) w1 := fun w1 hw => by
    have r := (P0.out.drew.belowAll (hCb w1 hw)).row
    go_simp
  (with_reducible refine h_call ?_ ?_)
  · exact rfl
  go_simp
  refine entersW_of ?_
  refine (tables18_any W.drew T0.out).mono ?_
  rintro e w1 ⟨p, rfl, t1, d1⟩
  refine ⟨_, rfl, d1, ?_⟩
  try simp only [Act.put, List.setIfInBounds_toArray, List.set_cons_succ, List.set_cons_zero]
  repeat
    first
      | ((with_reducible refine h_pure (v := ?_) (a' := ?_) ?_ (fun _ => ?_) ?_ ?_); rotate_left; rotate_left; (focus (exact rfl)); (focus (go_simp; (try go_bits); exact rfl)); (focus (simp only [Act.put, List.setIfInBounds_toArray, List.set_cons_succ, List.set_cons_zero, Act.eval, Array.getD_eq_getD_getElem?, List.getElem?_toArray, List.getElem?_cons_succ, List.getElem?_cons_zero, Option.getD_some]; exact rfl)))
      | ((with_reducible refine h_obl (v := ?_) (a' := ?_) ?_ (fun _ hcw => ?_) ?_ ?_); rotate_left; rotate_left; (focus (exact rfl)); (focus (have f := R0 _ hcw; go_simp; (try go_bits); exact rfl)); (focus (simp only [Act.put, List.setIfInBounds_toArray, List.set_cons_succ, List.set_cons_zero, Act.eval, Array.getD_eq_getD_getElem?, List.getElem?_toArray, List.getElem?_cons_succ, List.getElem?_cons_zero, Option.getD_some]; exact rfl)))
      | ((with_reducible refine h_read (v := ?_) (a' := ?_) ?_ (fun _ hbw => ?_) ?_ ?_); rotate_left; rotate_left; (focus (exact rfl)); (focus (skip; go_simp; (try go_bits); exact rfl)); (focus (simp only [Act.put, List.setIfInBounds_toArray, List.set_cons_succ, List.set_cons_zero, Act.eval, Array.getD_eq_getD_getElem?, List.getElem?_toArray, List.getElem?_cons_succ, List.getElem?_cons_zero, Option.getD_some]; exact rfl)))
  (with_reducible refine h_call ?_ ?_)
  · exact rfl
  go_simp
  refine entersW_of ?_
  refine (bytes18_any w1 HH.out).mono ?_
  rintro e w2 ⟨v2, rfl, o2, d2⟩
  refine ⟨_, rfl, d2, ?_⟩
  try simp only [Act.put, List.setIfInBounds_toArray, List.set_cons_succ, List.set_cons_zero]
  rw [← HK.out] at o2
  obtain ⟨a2, c2, rfl, hr2, _⟩ := o2.rd
  rw [keyB_length K hKl] at hr2 ⊢
  (with_reducible refine h_call ?_ ?_)
  · exact rfl
  go_simp
  refine entersW_of ?_
  refine (hnewK_any p K a2 c2 w2 (t1.below d2) hr2).mono ?_
  rintro e w3 ⟨q, ck, rfl, k3, d3⟩
  refine ⟨_, rfl, d3, ?_⟩
  try simp only [Act.put, List.setIfInBounds_toArray, List.set_cons_succ, List.set_cons_zero]
  repeat
    first
      | ((with_reducible refine h_pure (v := ?_) (a' := ?_) ?_ (fun _ => ?_) ?_ ?_); rotate_left; rotate_left; (focus (exact rfl)); (focus (go_simp; (try go_bits); exact rfl)); (focus (simp only [Act.put, List.setIfInBounds_toArray, List.set_cons_succ, List.set_cons_zero, Act.eval, Array.getD_eq_getD_getElem?, List.getElem?_toArray, List.getElem?_cons_succ, List.getElem?_cons_zero, Option.getD_some]; exact rfl)))
      | ((with_reducible refine h_obl (v := ?_) (a' := ?_) ?_ (fun _ hcw => ?_) ?_ ?_); rotate_left; rotate_left; (focus (exact rfl)); (focus (skip; go_simp; (try go_bits); exact rfl)); (focus (simp only [Act.put, List.setIfInBounds_toArray, List.set_cons_succ, List.set_cons_zero, Act.eval, Array.getD_eq_getD_getElem?, List.getElem?_toArray, List.getElem?_cons_succ, List.getElem?_cons_zero, Option.getD_some]; exact rfl)))
      | ((with_reducible refine h_read (v := ?_) (a' := ?_) ?_ (fun _ hbw => ?_) ?_ ?_); rotate_left; rotate_left; (focus (exact rfl)); (focus (skip; go_simp; (try go_bits); exact rfl)); (focus (simp only [Act.put, List.setIfInBounds_toArray, List.set_cons_succ, List.set_cons_zero, Act.eval, Array.getD_eq_getD_getElem?, List.getElem?_toArray, List.getElem?_cons_succ, List.getElem?_cons_zero, Option.getD_some]; exact rfl)))
  refine h_tail [] rfl (by simp) (z_nil (hK' _ _ ?_))
  have D3 := d1.trans ((d2.trans (d3.mono d2.size)).mono d1.size)
  have B3 := Lib.hid (B0.out.drew.trans (D3.mono B0.out.size))
  have K3 := Lib.hid k3
  clear R0 hC0 hCb hK' d1 d2 d3 D3 o2 hr2 k3
  go_wp2
  go_ret2
  exact ⟨q, ck, p, rfl, K3.out, B3.out⟩
end Go.Proofs.YtfdkmjegcghieaaGreatDoor
/- the laws of hctr: awake -/
namespace Go.Proofs.YtfdkmjegcghieaaGreatDoor
open Go.RowKit
set_option linter.unusedSimpArgs false in
set_option maxRecDepth 100000 in
set_option maxHeartbeats 1600000 in
theorem awake18_any (w : World) (hT : Turning w) :
    Calls Tryz.prog 9 #[] w fun e w' => e = .returned (.bool true) ∧ Below w.heap.size w w' := by
  have T0 := Lib.hid hT
  have D0 := (Below.refl w.heap.size w).drew
  clear hT
  obtain ⟨L, hL⟩ : ∃ L, L = sch 6 (zeros 8 24) 46 := ⟨_, rfl⟩
  obtain ⟨h, hh⟩ : ∃ h, h = hkey L 13 := ⟨_, rfl⟩
  obtain ⟨lb, hlb⟩ : ∃ lb, lb = lkey L 13 := ⟨_, rfl⟩
  have nw : ∀ (p : Nat) (a : Option Addr) (w1 : World), TabAt w1 p → Rd8 w1 a 24 24 (zeros 8 24) → Calls Tryz.prog 23 #[.pointer (some ⟨p, 0, none⟩), .slice a 24 24] w1 fun e w' => ∃ q k, e = .returned (.tuple #[.pointer (some ⟨q, 0, none⟩), .int .i64 0]) ∧ CiAt w' q k p 13 L h lb ∧ Below w1.heap.size w1 w' := by
    intro p a w1 t1 r1
    rw [hh, hlb, hL]
    exact hnew_any p (zeros 8 24) a 24 24 w1 t1 r1 (by omega)
  have NW := Lib.hid nw
  clear nw hh hlb hL
  go_enter Tryz.func9, Tryz.ntmps9
  go_upto_region 1 with fail
  go_cut [1, 2] from 7 to 12 (fun s1 s2 wx => ∃ q k p : Nat, s1 = .pointer (some ⟨q, 0, none⟩) ∧ s2 = .int .i64 0 ∧ CiAt wx q k p 13 L h lb ∧ Below w.heap.size w wx)
  case first =>
    refine wp_region_two [] [] [2,0,0,0,0,0] rfl (by kernel_rfl) (by kernel_rfl) (fun C hC0 hCb K' hK' => ⟨?_, ?_⟩)
    · (with_reducible refine h_call ?_ ?_)
      · exact rfl
      go_simp
      refine entersW_of ?_
      refine (tables18_any w.drew T0.out).mono ?_
      rintro e w1 ⟨p, rfl, t1, b1⟩
      refine ⟨_, rfl, b1, ?_⟩
      try simp only [Act.put, List.setIfInBounds_toArray, List.set_cons_succ, List.set_cons_zero]
      refine h_make8 (n := 24) rfl rfl (by omega) Tryz.underlying23 info8 (fun w2 ad r2 b2 => ?_)
      simp only [Act.put, List.setIfInBounds_toArray, List.set_cons_succ, List.set_cons_zero]
      (with_reducible refine h_call ?_ ?_)
      · exact rfl
      go_simp
      refine entersW_of ?_
      refine (NW.out p ad w2 (t1.below b2) r2).mono ?_
      rintro e w3 ⟨q, k, rfl, k3, b3⟩
      refine ⟨_, rfl, b3, ?_⟩
      try simp only [Act.put, List.setIfInBounds_toArray, List.set_cons_succ, List.set_cons_zero]
      repeat
        first
          | ((with_reducible refine h_pure (v := ?_) (a' := ?_) ?_ (fun _ => ?_) ?_ ?_); rotate_left; rotate_left; (focus (exact rfl)); (focus (go_simp; (try go_bits); exact rfl)); (focus (simp only [Act.put, List.setIfInBounds_toArray, List.set_cons_succ, List.set_cons_zero, Act.eval, Array.getD_eq_getD_getElem?, List.getElem?_toArray, List.getElem?_cons_succ, List.getElem?_cons_zero, Option.getD_some]; exact rfl)))
          | ((with_reducible refine h_obl (v := ?_) (a' := ?_) ?_ (fun _ hcw => ?_) ?_ ?_); rotate_left; rotate_left; (focus (exact rfl)); (focus (skip; go_simp; (try go_bits); exact rfl)); (focus (simp only [Act.put, List.setIfInBounds_toArray, List.set_cons_succ, List.set_cons_zero, Act.eval, Array.getD_eq_getD_getElem?, List.getElem?_toArray, List.getElem?_cons_succ, List.getElem?_cons_zero, Option.getD_some]; exact rfl)))
          | ((with_reducible refine h_read (v := ?_) (a' := ?_) ?_ (fun _ hbw => ?_) ?_ ?_); rotate_left; rotate_left; (focus (exact rfl)); (focus (skip; go_simp; (try go_bits); exact rfl)); (focus (simp only [Act.put, List.setIfInBounds_toArray, List.set_cons_succ, List.set_cons_zero, Act.eval, Array.getD_eq_getD_getElem?, List.getElem?_toArray, List.getElem?_cons_succ, List.getElem?_cons_zero, Option.getD_some]; exact rfl)))
      refine h_tail [] rfl (by simp) (z_nil (hK' _ _ ?_))
      go_wp2
      go_meet
      exact ⟨q, k, p, rfl, rfl, k3, D0.trans (b1.trans ((b2.trans (b3.mono b2.size)).mono b1.size))⟩
    · refine h_make8 (n := 24) rfl rfl (by omega) Tryz.underlying23 info8 (fun w2 ad r2 b2 => ?_)
      simp only [Act.put, List.setIfInBounds_toArray, List.set_cons_succ, List.set_cons_zero]
      (with_reducible refine h_call ?_ ?_)
      · exact rfl
      go_simp
      refine entersW_of ?_
      refine (tables18_any w2 (T0.out.below (D0.trans b2))).mono ?_
      rintro e w1 ⟨p, rfl, t1, b1⟩
      refine ⟨_, rfl, b1, ?_⟩
      try simp only [Act.put, List.setIfInBounds_toArray, List.set_cons_succ, List.set_cons_zero]
      (with_reducible refine h_call ?_ ?_)
      · exact rfl
      go_simp
      refine entersW_of ?_
      refine (NW.out p ad w1 t1 (r2.below b1)).mono ?_
      rintro e w3 ⟨q, k, rfl, k3, b3⟩
      refine ⟨_, rfl, b3, ?_⟩
      try simp only [Act.put, List.setIfInBounds_toArray, List.set_cons_succ, List.set_cons_zero]
      repeat
        first
          | ((with_reducible refine h_pure (v := ?_) (a' := ?_) ?_ (fun _ => ?_) ?_ ?_); rotate_left; rotate_left; (focus (exact rfl)); (focus (go_simp; (try go_bits); exact rfl)); (focus (simp only [Act.put, List.setIfInBounds_toArray, List.set_cons_succ, List.set_cons_zero, Act.eval, Array.getD_eq_getD_getElem?, List.getElem?_toArray, List.getElem?_cons_succ, List.getElem?_cons_zero, Option.getD_some]; exact rfl)))
          | ((with_reducible refine h_obl (v := ?_) (a' := ?_) ?_ (fun _ hcw => ?_) ?_ ?_); rotate_left; rotate_left; (focus (exact rfl)); (focus (skip; go_simp; (try go_bits); exact rfl)); (focus (simp only [Act.put, List.setIfInBounds_toArray, List.set_cons_succ, List.set_cons_zero, Act.eval, Array.getD_eq_getD_getElem?, List.getElem?_toArray, List.getElem?_cons_succ, List.getElem?_cons_zero, Option.getD_some]; exact rfl)))
          | ((with_reducible refine h_read (v := ?_) (a' := ?_) ?_ (fun _ hbw => ?_) ?_ ?_); rotate_left; rotate_left; (focus (exact rfl)); (focus (skip; go_simp; (try go_bits); exact rfl)); (focus (simp only [Act.put, List.setIfInBounds_toArray, List.set_cons_succ, List.set_cons_zero, Act.eval, Array.getD_eq_getD_getElem?, List.getElem?_toArray, List.getElem?_cons_succ, List.getElem?_cons_zero, Option.getD_some]; exact rfl)))
      refine h_tail [] rfl (by simp) (z_nil (hK' _ _ ?_))
      go_wp2
      go_meet
      exact ⟨q, k, p, rfl, rfl, k3, D0.trans (b2.trans ((b1.trans (b3.mono b1.size)).mono b2.size))⟩
  case rest =>
    obtain ⟨q, k, p, rfl, rfl, hk, hb⟩ := hcut
    have K1 := Lib.hid hk
    have B1 := Lib.hid hb
    clear hk hb NW
    have m20 := run_make8 (P := Tryz.prog) wc 23 5 20 20 Tryz.underlying23 info8 (by omega) (by omega) (by omega)
    rw [show Int.toNat 20 = 20 from rfl] at m20
    obtain ⟨W1, hW1⟩ : ∃ W1, wc.alloc (.cells (A8 (zeros 8 20)) 5) = W1 := ⟨_, rfl⟩
    obtain ⟨b1, hb1, hz1⟩ := new1 _ _ _ _ hW1
    rw [hW1] at m20
    have r1 := b1.rd8 20 (by simp) (by rw [zeros_length]; unfold maxLen; omega)
    rw [zeros_length, List.take_of_length_le (by simp)] at r1
    have enc := henc_any q k p 13 L h lb [] (zeros 8 20) none _ 0 0 20 20 W1 (K1.out.below hb1) (by omega) (by omega) (rd8_nil W1) r1 (by omega) (by omega) (by omega)
    have EN := Lib.hid enc
    have BW := Lib.hid (B1.out.trans (hb1.mono B1.out.size))
    have HB1 := Lib.hid hb1
    clear enc b1 hb1 hz1 r1 hW1
    go_wp2_with fail
    refine EN.out.mono ?_
    rintro e w3 ⟨v, rfl, o3, d3⟩
    obtain ⟨a3, c3, rfl, hr3, _⟩ := o3.rd
    have hl3 : (doesS (encS L 13) L 13 h lb [] (zeros 8 20)).length = 20 := doesS_length _ _ _ _ _ _ _ (by simp)
    rw [hl3]
    have B3 := Lib.hid (BW.out.trans (d3.mono BW.out.size))
    have T3 := Lib.hid (T0.out.below B3.out)
    clear hr3 o3 d3 m20 EN
    have m15 := run_make8 (P := Tryz.prog) w3 23 5 15 15 Tryz.underlying23 info8 (by omega) (by omega) (by omega)
    rw [show Int.toNat 15 = 15 from rfl] at m15
    obtain ⟨W4, hW4⟩ : ∃ W4, w3.alloc (.cells (A8 (zeros 8 15)) 5) = W4 := ⟨_, rfl⟩
    rw [hW4] at m15
    have B4 := B3.out.alloc B3.out.size (.cells (A8 (zeros 8 15)) 5)
    rw [hW4] at B4
    have BB4 := Lib.hid B4
    clear hW4 B4
    go_wp2_with fail
    refine (henc_short q _ _ 15 15 W4 (by omega)).mono ?_
    rintro e w5 ⟨rfl, d5⟩
    have B5 := Lib.hid (BB4.out.trans (d5.mono BB4.out.size))
    clear d5 m15
    go_wp2
    go_ret
    exact ⟨rfl, B5.out⟩
end Go.Proofs.YtfdkmjegcghieaaGreatDoor
