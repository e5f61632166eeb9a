/- Text of layer 17: a key, a tweak and a message, as one row of cells -/
import Derived.Test.YtfdkmjegcghieaaGreatDoorMGs
import Derived.Test.YtfdkmjegcghieaaGreatDoorMGk
import Derived.Test.YtfdkmjegcghieaaGreatDoorMHm
import Derived.Test.YtfdkmjegcghieaaGreatDoorMHk
import Derived.OwnWalk
import Derived.Test.YtfdkmjegcghieaaGreatDoorMGq
import Derived.Test.YtfdkmjegcghieaaGreatDoorMHj
namespace Go.Proofs.YtfdkmjegcghieaaGreatDoor
open Lib (hid)
set_option linter.unusedSimpArgs false
set_option maxRecDepth 100000
set_option maxHeartbeats 1600000
open Go.ChangeShapes Go.WideShapes Go.ChangeAt Go.RowKit
structure AText (T : Array Value) (k : List (BitVec 8)) (a : Option Addr) (n c : Nat) (b : Option Addr) (m d : Nat) : Prop where
 size : T.size = 34
 key : T.extract 0 32 = A8 k
 tweak : T[32]? = some (.slice a n c)
 msg : T[33]? = some (.slice b m d)
 lk : k.length = 32
@[go_sem] theorem cellsOf46 : Tryz.prog.cellsOf 46 = 34 := by kernel_rfl
section
variable {H : Type} {enc : TypeId × Value → H} {w : World} {base : Nat} {spare : Nat → Bool} {held : Bool}
theorem open_atext {r : Reach} {b0 : Nat} {v : Value} {d : DataW H} {p : List MemPlace}
  (hv : Value.okWide Tryz.prog w r b0 46 v) (h : DataW.Trod enc Tryz.prog w base spare held 46 v d p) :
  ∃ (T : Array Value) (k : List (BitVec 8)) (a : Option Addr) (n c : Nat) (t : List (BitVec 8)) (b : Option Addr) (m d : Nat) (x : List (BitVec 8)), AText T k a n c b m d ∧ Rd8 w a n c t ∧ Rd8 w b m d x ∧ v = .agg T := by
 unfold Value.okWide at hv
 rw [Tryz.underlying46] at hv
 obtain ⟨T, rfl, hs, _⟩ := hv
 rw [cellsOf46] at hs
 obtain ⟨fuel, hf⟩ := h
 obtain ⟨xs, m, rfl, _, hl, hxl, hi⟩ := DataW.trod_struct Tryz.underlying46 hf
 have get : ∀ i, i < 3 → ∃ y, xs[i]? = some y := fun i hi3 => ⟨xs[i]'(by rw [hxl]; simpa using hi3), List.getElem?_eq_getElem _⟩
 obtain ⟨y0, e0⟩ := get 0 (by omega)
 obtain ⟨y1, e1⟩ := get 1 (by omega)
 obtain ⟨y2, e2⟩ := get 2 (by omega)
 have h0 : DataW.trod enc Tryz.prog w base spare held m 22 ((T.toList.drop 0).take (Tryz.prog.cellsOf 22)) = some y0 := (hi 0 _ rfl).trans e0
 have h1 : DataW.trod enc Tryz.prog w base spare held m 23 ((T.toList.drop 32).take (Tryz.prog.cellsOf 23)) = some y1 := (hi 1 _ rfl).trans e1
 have h2 : DataW.trod enc Tryz.prog w base spare held m 23 ((T.toList.drop 33).take (Tryz.prog.cellsOf 23)) = some y2 := (hi 2 _ rfl).trans e2
 rw [show Tryz.prog.cellsOf 22 = 32 by kernel_rfl] at h0
 rw [show Tryz.prog.cellsOf 23 = 1 by kernel_rfl] at h1 h2
 obtain ⟨k, hk, hck⟩ := cells_v8 Tryz.underlying22 Tryz.underlying5 (by kernel_rfl) (by kernel_rfl) h0
 have sl : ∀ {o : Nat} {y : DataW H × List MemPlace}, DataW.trod enc Tryz.prog w base spare held m 23 ((T.toList.drop o).take 1) = some y → ∃ a len cap l, ((T.toList.drop o).take 1) = [Value.slice a len cap] ∧ Rd8 w a len cap l := by
  intro o y hy
  have hb : ∃ a len cap, ((T.toList.drop o).take 1) = [Value.slice a len cap] := by
   rcases DataW.trod_slice Tryz.underlying23 hy with ⟨hc, _⟩ | ⟨a, len, cap, _, _, _, _, hc, _⟩
   ·exact ⟨_, _, _, hc⟩
   ·exact ⟨_, _, _, hc⟩
  obtain ⟨a, len, cap, hb⟩ := hb
  obtain ⟨l, hr⟩ := open_bytes (enc := enc) (P := Tryz.prog) (w := w) (base := base) (spare := spare) (held := held) (t := 23) (a := a) (n := len) (c := cap) (d := y.1) (p := y.2) Tryz.underlying23 Tryz.underlying5 (by kernel_rfl) ⟨m, by
   show DataW.trod enc Tryz.prog w base spare held m 23 [Value.slice a len cap] = _
   rw [← hb]; exact hy⟩
  exact ⟨a, len, cap, l, hb, hr⟩
 obtain ⟨a, n, c, t, hb2, r2⟩ := sl h1
 obtain ⟨b, m', d, x, hb3, r3⟩ := sl h2
 refine ⟨T, k, a, n, c, t, b, m', d, x, ⟨hs, ?_, ?_, ?_, hk⟩, r2, r3, rfl⟩
 ·refine A8_of_toList ?_
  rw [← hck, Array.toList_extract]
 ·have := congrArg (fun l : List Value => l[0]?) hb2
  simp at this
  rw [← this]
 ·have := congrArg (fun l : List Value => l[0]?) hb3
  simp at this
  rw [← this]
end
open Go.RowKit
theorem rd8_none (w : World) : Rd8 w none 0 0 [] := ⟨rfl, Nat.le_refl _, by unfold maxLen; omega, fun h => absurd h (by omega)⟩
theorem AcAt.below {w w' : World} {q p : Nat} {key : List (BitVec 8)} (h : AcAt w q p key) (hb : Below w.heap.size w w') : AcAt w' q p key := by
 obtain ⟨kk, ks, h1, h2, h3⟩ := h
 exact ⟨kk, ks, h1.belowAll hb, h2.below hb, h3.below hb⟩
theorem tables17_any (w : World) (hT : Turning w) :
  Calls Tryz.prog 39 #[] w fun e w' => ∃ p, e = .returned (.pointer (some ⟨p, 0, none⟩)) ∧ TabAt w' p ∧ Below w.heap.size w w' := by
 go_enter Tryz.func39, Tryz.ntmps39
 go_wp2_with fail
 refine (gfmake_any _).mono ?_
 rintro e w1 ⟨q, rfl, hq, _, hb⟩
 go_wp2_with fail
 refine (new_any q _ (hT.below hb) hq).mono ?_
 rintro e w2 ⟨p, rfl, hp, _, hb2⟩
 go_wp2
 go_ret
 exact ⟨p, rfl, ⟨q, hp, hq.belowAll hb2⟩, hb.trans (hb2.mono hb.size)⟩
theorem AText.cellk {T : Array Value} {k : List (BitVec 8)} {a : Option Addr} {n c : Nat} {b : Option Addr} {m d : Nat} (h : AText T k a n c b m d) (i : Nat) (hi : i < 32) : T[i]? = some (v8 (nth k i)) := by
 have e := congrArg (fun A : Array Value => A[i]?) h.key
 simp only [A8_get k i (by rw [h.lk]; exact hi)] at e
 rw [← e, Array.getElem?_extract]
 simp [hi, h.size]
theorem AText.rdk {T : Array Value} {k : List (BitVec 8)} {a : Option Addr} {n c : Nat} {b : Option Addr} {m d : Nat} {w : World} {g : Nat} {t : TypeId} (h : AText T k a n c b m d) (hb : Blk w g t T) (j : Nat) (hj : j ≤ 32) : Rd8 w (some ⟨g, 0, none⟩) j 32 (k.take j) :=
 ⟨by rw [List.length_take, h.lk]; omega, hj, by unfold maxLen; omega, fun _ => ⟨g, 0, rfl, hb.lt, fun i hi => by rw [Nat.zero_add, hb.cell, h.cellk i (by omega), nth_take _ _ _ hi]⟩⟩
theorem short17_any {T : Array Value} {k : List (BitVec 8)} {a : Option Addr} {n c : Nat} {b : Option Addr} {m d : Nat} (w : World) (h : AText T k a n c b m d) :
  Calls Tryz.prog 15 #[.agg T] w fun e w' => e = .returned (.bool (decide (n ≤ 100 ∧ m ≤ 300))) ∧ Below w.heap.size w w' := by
 obtain ⟨W, hW⟩ : ∃ W, (w.alloc (.cells T 46)) = W := ⟨_, rfl⟩
 obtain ⟨b0, hb, hz⟩ := new1 _ _ _ _ hW
 have s0 := h.size
 have c1 := b0.cell 32
 have c2 := b0.cell 33
 rw [h.tweak] at c1
 rw [h.msg] at c2
 have B := hid hb
 clear hb hz b0 h
 by_cases hn : n ≤ 100
 ·by_cases hm : m ≤ 300
  ·have e : decide (n ≤ 100 ∧ m ≤ 300) = true := by simp [hn, hm]
   rw [e]
   have l1 : (n : Int) ≤ 100 := by omega
   have l2 : (m : Int) ≤ 300 := by omega
   go_enter Tryz.func15, Tryz.ntmps15
   go_wp2
   go_ret
   exact ⟨rfl, B.out⟩
  ·have e : decide (n ≤ 100 ∧ m ≤ 300) = false := by simp [hm]
   rw [e]
   have l1 : (n : Int) ≤ 100 := by omega
   have l2 : ¬ (m : Int) ≤ 300 := by omega
   go_enter Tryz.func15, Tryz.ntmps15
   go_wp2
   go_ret
   exact ⟨rfl, B.out⟩
 ·have e : decide (n ≤ 100 ∧ m ≤ 300) = false := by simp [hn]
  rw [e]
  have l1 : ¬ (n : Int) ≤ 100 := by omega
  go_enter Tryz.func15, Tryz.ntmps15
  go_wp2
  go_ret
  exact ⟨rfl, B.out⟩
theorem cipher17_any {T : Array Value} {k : List (BitVec 8)} {a : Option Addr} {n c : Nat} {b : Option Addr} {m d : Nat} (w : World) (h : AText T k a n c b m d) (hT : Turning w) :
  Calls Tryz.prog 16 #[.agg T] w fun e w' => ∃ q p, e = .returned (.tuple #[.pointer (some ⟨q, 0, none⟩), .bool true]) ∧ AcAt w' q p k ∧ Below w.heap.size w w' := by
 obtain ⟨W, hW⟩ : ∃ W, (w.alloc (.cells T 46)) = W := ⟨_, rfl⟩
 obtain ⟨b0, hb, hz⟩ := new1 _ _ _ _ hW
 have hkl := h.lk
 have R0 := hid (h.rdk b0 32 (Nat.le_refl _))
 rw [List.take_of_length_le (by rw [hkl]; exact Nat.le_refl _)] at R0
 have B0 := hid hb
 have T0 := hid (hT.below hb)
 have s0 := h.size
 clear b0 hb hz hT h
 go_enter Tryz.func16, Tryz.ntmps16
 go_upto_region 1 with fail
 clear hW
 refine wp_region_two [] [] [0,0,2,2,0,0,0,0,0] rfl (by kernel_rfl) (by kernel_rfl) (fun C0 hC0 hCb K' hK' => ⟨?_, ?_⟩)
 ·(with_reducible refine h_call ?_ ?_)
  ·exact rfl
  go_simp
  refine entersW_of ?_
  refine (tables17_any W.drew T0.out).mono ?_
  rintro e w1 ⟨p, rfl, t1, d1⟩
  refine ⟨_, rfl, d1, ?_⟩
  try simp only [Act.put, zz1, zz2, zz3]
  refine h_empty8 Tryz.underlying23 info8 rfl (fun w2 b2 d2 => ?_)
  simp only [Act.put, zz1, zz2, zz3]
  repeat
   (first
    | (with_reducible refine h_pure (v := ?_) (a' := ?_) ?_ (fun _ => ?_) ?_ ?_); rotate_left 2; (focus (exact rfl)); (focus (go_simp; (try go_bits); exact rfl))
    | (with_reducible refine h_obl (v := ?_) (a' := ?_) ?_ (fun _ hcw => ?_) ?_ ?_); rotate_left 2; (focus (exact rfl)); (focus (go_simp; (try go_bits); exact rfl))
    | (with_reducible refine h_read (v := ?_) (a' := ?_) ?_ (fun _ hbw => ?_) ?_ ?_); rotate_left 2; (focus (exact rfl)); (focus (go_simp; (try go_bits); exact rfl)))
   focus (simp only [Act.put, zz1, zz2, zz3, Act.eval, zz4, zz5, zz6, zz7, zz8]; exact rfl)
  refine h_append_fresh (R0.out.drew.below (d1.trans (d2.mono d1.size))) (by omega) rfl rfl rfl Tryz.underlying23 info8 (by omega) (fun w3 v3 o3 d3 => ?_)
  simp only [Act.put, zz1, zz2, zz3]
  obtain ⟨a3, c3, rfl, hr3, _⟩ := o3.rd
  rw [hkl] at hr3 ⊢
  (with_reducible refine h_call ?_ ?_)
  ·exact rfl
  go_simp
  refine entersW_of ?_
  refine (anew_any p k a3 c3 w3 ((t1.below d2).below d3) hr3).mono ?_
  rintro e w4 ⟨q, rfl, k4, _, d4⟩
  refine ⟨_, rfl, d4, ?_⟩
  try simp only [Act.put, zz1, zz2, zz3]
  repeat
   (first
    | (with_reducible refine h_pure (v := ?_) (a' := ?_) ?_ (fun _ => ?_) ?_ ?_); rotate_left 2; (focus (exact rfl)); (focus (go_simp; (try go_bits); exact rfl))
    | (with_reducible refine h_obl (v := ?_) (a' := ?_) ?_ (fun _ hcw => ?_) ?_ ?_); rotate_left 2; (focus (exact rfl)); (focus (go_simp; (try go_bits); exact rfl))
    | (with_reducible refine h_read (v := ?_) (a' := ?_) ?_ (fun _ hbw => ?_) ?_ ?_); rotate_left 2; (focus (exact rfl)); (focus (go_simp; (try go_bits); exact rfl)))
   focus (simp only [Act.put, zz1, zz2, zz3, Act.eval, zz4, zz5, zz6, zz7, zz8]; exact rfl)
  refine h_tail [] rfl (by simp) (z_nil (hK' _ _ ?_))
  have D4 := d1.trans ((d2.trans ((d3.trans (d4.mono d3.size)).mono d2.size)).mono d1.size)
  have B4 := hid (B0.out.drew.trans (D4.mono B0.out.size))
  have K4 := hid k4
  clear hC0 hCb hK' d1 d2 d3 d4 D4 o3 hr3 k4
  go_wp2
  go_ret2
  exact ⟨q, p, rfl, K4.out, B4.out⟩
 ·refine h_empty8 Tryz.underlying23 info8 rfl (fun w2 b2 d2 => ?_)
  simp only [Act.put, zz1, zz2, zz3]
  (with_reducible refine h_call ?_ ?_)
  ·exact rfl
  go_simp
  refine entersW_of ?_
  refine (tables17_any w2 ((show Turning W.drew from T0.out).below d2)).mono ?_
  rintro e w1 ⟨p, rfl, t1, d1⟩
  refine ⟨_, rfl, d1, ?_⟩
  try simp only [Act.put, zz1, zz2, zz3]
  repeat
   (first
    | (with_reducible refine h_pure (v := ?_) (a' := ?_) ?_ (fun _ => ?_) ?_ ?_); rotate_left 2; (focus (exact rfl)); (focus (go_simp; (try go_bits); exact rfl))
    | (with_reducible refine h_obl (v := ?_) (a' := ?_) ?_ (fun _ hcw => ?_) ?_ ?_); rotate_left 2; (focus (exact rfl)); (focus (go_simp; (try go_bits); exact rfl))
    | (with_reducible refine h_read (v := ?_) (a' := ?_) ?_ (fun _ hbw => ?_) ?_ ?_); rotate_left 2; (focus (exact rfl)); (focus (go_simp; (try go_bits); exact rfl)))
   focus (simp only [Act.put, zz1, zz2, zz3, Act.eval, zz4, zz5, zz6, zz7, zz8]; exact rfl)
  refine h_append_fresh (R0.out.drew.below (d2.trans (d1.mono d2.size))) (by omega) rfl rfl rfl Tryz.underlying23 info8 (by omega) (fun w3 v3 o3 d3 => ?_)
  simp only [Act.put, zz1, zz2, zz3]
  obtain ⟨a3, c3, rfl, hr3, _⟩ := o3.rd
  rw [hkl] at hr3 ⊢
  (with_reducible refine h_call ?_ ?_)
  ·exact rfl
  go_simp
  refine entersW_of ?_
  refine (anew_any p k a3 c3 w3 (t1.below d3) hr3).mono ?_
  rintro e w4 ⟨q, rfl, k4, _, d4⟩
  refine ⟨_, rfl, d4, ?_⟩
  try simp only [Act.put, zz1, zz2, zz3]
  repeat
   (first
    | (with_reducible refine h_pure (v := ?_) (a' := ?_) ?_ (fun _ => ?_) ?_ ?_); rotate_left 2; (focus (exact rfl)); (focus (go_simp; (try go_bits); exact rfl))
    | (with_reducible refine h_obl (v := ?_) (a' := ?_) ?_ (fun _ hcw => ?_) ?_ ?_); rotate_left 2; (focus (exact rfl)); (focus (go_simp; (try go_bits); exact rfl))
    | (with_reducible refine h_read (v := ?_) (a' := ?_) ?_ (fun _ hbw => ?_) ?_ ?_); rotate_left 2; (focus (exact rfl)); (focus (go_simp; (try go_bits); exact rfl)))
   focus (simp only [Act.put, zz1, zz2, zz3, Act.eval, zz4, zz5, zz6, zz7, zz8]; exact rfl)
  refine h_tail [] rfl (by simp) (z_nil (hK' _ _ ?_))
  have D4 := d2.trans ((d1.trans ((d3.trans (d4.mono d3.size)).mono d1.size)).mono d2.size)
  have B4 := hid (B0.out.drew.trans (D4.mono B0.out.size))
  have K4 := hid k4
  clear hC0 hCb hK' d1 d2 d3 d4 D4 o3 hr3 k4
  go_wp2
  go_ret2
  exact ⟨q, p, rfl, K4.out, B4.out⟩
open Go.RowKit
theorem awake17_any (w : World) (hT : Turning w) :
  Calls Tryz.prog 19 #[] w fun e w' => e = .returned (.bool true) ∧ Below w.heap.size w w' := by
 have T0 := hid hT
 have D0 := (Below.refl w.heap.size w).drew
 clear hT
 obtain ⟨Z, hZ⟩ : ∃ Z, Z = zeros 8 32 := ⟨_, rfl⟩
 have hZl : Z.length = 32 := by rw [hZ]; exact zeros_length _ _
 have NW := hid hZ
 clear hZ
 go_enter Tryz.func19, Tryz.ntmps19
 go_upto_region 1 with fail
 go_cut [1, 2] from 7 to 12 (fun s1 s2 wx => ∃ q p : Nat, s1 = .pointer (some ⟨q, 0, none⟩) ∧ s2 = .int .i64 0 ∧ AcAt wx q p Z ∧ Below w.heap.size w wx)
 case first =>
  refine wp_region_two [] [] [2,0,0,0,0,0] rfl (by kernel_rfl) (by kernel_rfl) (fun C hC0 hCb K' hK' => ⟨?_, ?_⟩)
  ·(with_reducible refine h_call ?_ ?_)
   ·exact rfl
   go_simp
   refine entersW_of ?_
   refine (tables17_any w.drew T0.out).mono ?_
   rintro e w1 ⟨p, rfl, t1, b1⟩
   refine ⟨_, rfl, b1, ?_⟩
   try simp only [Act.put, zz1, zz2, zz3]
   refine h_make8 (n := 32) rfl rfl (by omega) Tryz.underlying23 info8 (fun w2 ad r2 b2 => ?_)
   simp only [Act.put, zz1, zz2, zz3]
   rw [← NW.out] at r2
   (with_reducible refine h_call ?_ ?_)
   ·exact rfl
   go_simp
   refine entersW_of ?_
   refine (anew_any p Z ad 32 w2 (t1.below b2) r2).mono ?_
   rintro e w3 ⟨q, rfl, k3, _, b3⟩
   refine ⟨_, rfl, b3, ?_⟩
   try simp only [Act.put, zz1, zz2, zz3]
   repeat
    (first
     | (with_reducible refine h_pure (v := ?_) (a' := ?_) ?_ (fun _ => ?_) ?_ ?_); rotate_left 2; (focus (exact rfl)); (focus (go_simp; (try go_bits); exact rfl))
     | (with_reducible refine h_obl (v := ?_) (a' := ?_) ?_ (fun _ hcw => ?_) ?_ ?_); rotate_left 2; (focus (exact rfl)); (focus (go_simp; (try go_bits); exact rfl))
     | (with_reducible refine h_read (v := ?_) (a' := ?_) ?_ (fun _ hbw => ?_) ?_ ?_); rotate_left 2; (focus (exact rfl)); (focus (go_simp; (try go_bits); exact rfl)))
    focus (simp only [Act.put, zz1, zz2, zz3, Act.eval, zz4, zz5, zz6, zz7, zz8]; exact rfl)
   refine h_tail [] rfl (by simp) (z_nil (hK' _ _ ?_))
   go_wp2
   go_meet
   exact ⟨q, p, rfl, rfl, k3, D0.trans (b1.trans ((b2.trans (b3.mono b2.size)).mono b1.size))⟩
  ·refine h_make8 (n := 32) rfl rfl (by omega) Tryz.underlying23 info8 (fun w2 ad r2 b2 => ?_)
   simp only [Act.put, zz1, zz2, zz3]
   (with_reducible refine h_call ?_ ?_)
   ·exact rfl
   go_simp
   refine entersW_of ?_
   refine (tables17_any w2 (T0.out.below (D0.trans b2))).mono ?_
   rintro e w1 ⟨p, rfl, t1, b1⟩
   refine ⟨_, rfl, b1, ?_⟩
   try simp only [Act.put, zz1, zz2, zz3]
   rw [← NW.out] at r2
   (with_reducible refine h_call ?_ ?_)
   ·exact rfl
   go_simp
   refine entersW_of ?_
   refine (anew_any p Z ad 32 w1 t1 (r2.below b1)).mono ?_
   rintro e w3 ⟨q, rfl, k3, _, b3⟩
   refine ⟨_, rfl, b3, ?_⟩
   try simp only [Act.put, zz1, zz2, zz3]
   repeat
    (first
     | (with_reducible refine h_pure (v := ?_) (a' := ?_) ?_ (fun _ => ?_) ?_ ?_); rotate_left 2; (focus (exact rfl)); (focus (go_simp; (try go_bits); exact rfl))
     | (with_reducible refine h_obl (v := ?_) (a' := ?_) ?_ (fun _ hcw => ?_) ?_ ?_); rotate_left 2; (focus (exact rfl)); (focus (go_simp; (try go_bits); exact rfl))
     | (with_reducible refine h_read (v := ?_) (a' := ?_) ?_ (fun _ hbw => ?_) ?_ ?_); rotate_left 2; (focus (exact rfl)); (focus (go_simp; (try go_bits); exact rfl)))
    focus (simp only [Act.put, zz1, zz2, zz3, Act.eval, zz4, zz5, zz6, zz7, zz8]; exact rfl)
   refine h_tail [] rfl (by simp) (z_nil (hK' _ _ ?_))
   go_wp2
   go_meet
   exact ⟨q, p, rfl, rfl, k3, D0.trans (b2.trans ((b1.trans (b3.mono b1.size)).mono b2.size))⟩
 case rest =>
  obtain ⟨q, p, rfl, rfl, hk, hb⟩ := hcut
  have K1 := hid hk
  have B1 := hid hb
  clear hk hb NW
  have m20 := run_make8 (P := Tryz.prog) wc 23 5 20 20 Tryz.underlying23 info8 (by omega) (by omega) (by omega)
  rw [show Int.toNat 20 = 20 from rfl] at m20
  obtain ⟨W1, hW1⟩ : ∃ W1, wc.alloc (.cells (A8 (zeros 8 20)) 5) = W1 := ⟨_, rfl⟩
  obtain ⟨b1, hb1, hz1⟩ := new1 _ _ _ _ hW1
  rw [hW1] at m20
  have r1 := b1.rd8 20 (by simp) (by rw [zeros_length]; unfold maxLen; omega)
  rw [zeros_length, List.take_of_length_le (by simp)] at r1
  have enc := aenc_any q p Z [] (zeros 8 20) none _ 0 0 20 20 W1 (K1.out.below hb1) hZl (rd8_none W1) r1 (by omega) (by omega)
  have EN := hid enc
  have BW := hid (B1.out.trans (hb1.mono B1.out.size))
  have HB1 := hid hb1
  clear enc b1 hb1 hz1 r1 hW1
  go_wp2_with fail
  refine EN.out.mono ?_
  rintro e w3 ⟨v, rfl, o3, d3⟩
  obtain ⟨a3, c3, rfl, hr3, _⟩ := o3.rd
  have hl3 : (encA Z [] (zeros 8 20)).length = 20 := by rw [encA, joinA_length, bulkA, List.length_take, zeros_length]; rfl
  rw [hl3]
  have B3 := hid (BW.out.trans (d3.mono BW.out.size))
  have T3 := hid (T0.out.below B3.out)
  clear hr3 o3 d3 m20 EN
  have m15 := run_make8 (P := Tryz.prog) w3 23 5 15 15 Tryz.underlying23 info8 (by omega) (by omega) (by omega)
  rw [show Int.toNat 15 = 15 from rfl] at m15
  obtain ⟨W4, hW4⟩ : ∃ W4, w3.alloc (.cells (A8 (zeros 8 15)) 5) = W4 := ⟨_, rfl⟩
  rw [hW4] at m15
  have B4 := B3.out.alloc B3.out.size (.cells (A8 (zeros 8 15)) 5)
  rw [hW4] at B4
  have BB4 := hid B4
  clear hW4 B4
  go_wp2_with fail
  refine (aenc_short q _ _ _ _ 15 15 W4 (by omega)).mono ?_
  rintro e w5 ⟨rfl, d5⟩
  have B5 := hid (BB4.out.trans (d5.mono BB4.out.size))
  clear d5 m15
  go_wp2
  go_ret
  exact ⟨rfl, B5.out⟩
end Go.Proofs.YtfdkmjegcghieaaGreatDoor
