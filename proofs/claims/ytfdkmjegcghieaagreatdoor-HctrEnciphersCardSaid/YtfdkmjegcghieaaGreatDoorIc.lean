/- hctr by definition: a Cipher's cells -/
import Derived.Test.YtfdkmjegcghieaaGreatDoorIb
import Derived.Test.YtfdkmjegcghieaaGreatDoorRx3
import Derived.Test.YtfdkmjegcghieaaGreatDoorIe
import Derived.Test.YtfdkmjegcghieaaGreatDoorGy
import Derived.Test.YtfdkmjegcghieaaGreatDoorRg5
import Derived.Test.YtfdkmjegcghieaaGreatDoorIk
namespace Go.Proofs.YtfdkmjegcghieaaGreatDoor
open Go.RowKit
/-- a Cipher's cells: boxes, round keys, its own blocks -/
def C18 (X : List (BitVec 8)) (r : Value) (K : List (BitVec 8)) : Array Value := A8 X ++ (#[r] ++ A8 K)
theorem C18_size {X : List (BitVec 8)} (hX : X.length = 512) (r : Value) {K : List (BitVec 8)} (hK : K.length = 32) : (C18 X r K).size = 545 := by
  simp [C18, A8_size, hX, hK]
theorem C18_box {X : List (BitVec 8)} (hX : X.length = 512) (r : Value) (K : List (BitVec 8)) : (C18 X r K).extract 0 512 = A8 X := by
  apply Array.ext'
  simp [C18, A8, List.extract_eq_take_drop, hX]
  rw [List.take_of_length_le (by simp [hX])]
theorem C18_keys {X : List (BitVec 8)} (hX : X.length = 512) (r : Value) (K : List (BitVec 8)) : (C18 X r K)[512]? = some r := by
  simp [C18, A8, hX]
theorem C18_own {X : List (BitVec 8)} (hX : X.length = 512) (r : Value) (H L : List (BitVec 8)) (hH : H.length = 16) (hL : L.length = 16) : (C18 X r (H ++ L)).extract 513 529 = A8 H ∧ (C18 X r (H ++ L)).extract 529 545 = A8 L := by
  constructor
  · apply Array.ext'
    simp [C18, A8, List.extract_eq_take_drop, hX, hH]
  · apply Array.ext'
    simp [C18, A8, List.extract_eq_take_drop, hX, hH]
    rw [List.take_of_length_le (by simp [hL])]
theorem C18_ones (X : List (BitVec 8)) (a : Option Addr) (n c : Nat) (K : List (BitVec 8)) : ones (C18 X (.slice a n c) K) = true := by
  have h1 := A8_ones X
  have h2 := A8_ones K
  unfold ones at *
  simp only [C18, Array.all_append, h1, h2]
  simp [Value.oneCell']
theorem C18_rest {X : List (BitVec 8)} (hX : X.length = 512) (r : Value) {K : List (BitVec 8)} (hK : K.length = 32) : (C18 X r K).extract 512 545 = #[r] ++ A8 K := by
  apply Array.ext'
  simp [C18, A8, List.extract_eq_take_drop, hX]
  rw [List.take_of_length_le (by simp [hK])]
theorem C18_set {X : List (BitVec 8)} (hX : X.length = 512) (r r' : Value) (K : List (BitVec 8)) : (C18 X r K).setIfInBounds 512 r' = C18 X r' K := by
  apply Array.ext'
  simp [C18, A8, hX]
theorem zeroC18 : Tryz.zeroCells39 = C18 (zeros 8 512) (.slice none 0 0) (zeros 8 32) := by kernel_rfl
@[go_sem] theorem cellsOf39 : Tryz.prog.cellsOf 39 = 545 := by kernel_rfl
theorem zero39 (w : World) : (zeroValue 39).run Tryz.prog w = .ok (.agg (C18 (zeros 8 512) (.slice none 0 0) (zeros 8 32))) w := by kernel_rfl
@[go_sem ↓ high] theorem alloc39 (w : World) : (Instr.alloc 39 true (.tuple #[])).run Tryz.prog w = .ok (.pointer (some ⟨w.heap.size, 0, none⟩)) (w.alloc (.cells (C18 (zeros 8 512) (.slice none 0 0) (zeros 8 32)) 39)) := alloc_of_zero zero39 w
theorem fold18 (X : List (BitVec 8)) (hX : X.length = 512) : Array.foldl (fun cs x => cs.setIfInBounds x.snd x.fst) Tryz.zeroCells39 (A8 X).zipIdx 0 512 = C18 X (.slice none 0 0) (zeros 8 32) := by
  have hz := zeroC18
  rw [hz, fold_partA _ _ 512 (by rw [A8_size, hX]) (by rw [C18_size (by rw [zeros_length]) _ (by rw [zeros_length])]; omega), C18_size (by rw [zeros_length]) _ (by rw [zeros_length]), C18_rest (by rw [zeros_length]) _ (by rw [zeros_length])]; rfl
end Go.Proofs.YtfdkmjegcghieaaGreatDoor
/- hctr by definition: New -/
namespace Go.Proofs.YtfdkmjegcghieaaGreatDoor
open Go.RowKit
section
variable {P : Program} {ops : Array Oper} {ks : List Nat} {l : List Oper} {a : Act}
theorem run_storeAt_C18 (w : World) (e t : TypeId) (g o : Nat) (X : List (BitVec 8)) (hX : X.length = 512) (u : Value) (m l : List (BitVec 8)) (hb : Blk w g t (C18 X u m)) (h2 : (sizeOf e).run P w = .ok l.length w) (h3 : o + l.length ≤ m.length) :
    (putAt e (.pointer (some ⟨g, 513 + o, none⟩)) (.agg (A8 l))).run P w = .ok () (w.setRow g (C18 X u (splc m o l))) := by
  have hg : w.heap[g]? = some (.cells (C18 X u m) t (0, 0)) := hb
  have hs : (C18 X u m).size = 513 + m.length := by simp [C18, A8_size, hX]
  have hst := run_storeCells_at (P := P) g (513 + o) t (A8 l).toList 0 (C18 X u m) w hg (by rw [Array.length_toList, A8_size, hs]; omega) (fun v hv => by
    have := Array.all_eq_true'.1 (A8_ones l) v (by simpa using hv)
    exact this)
  have e1 : ((C18 X u m).toList.take (513 + o + 0) ++ (A8 l).toList ++ (C18 X u m).toList.drop (513 + o + 0 + (A8 l).toList.length)).toArray = C18 X u (splc m o l) := by
    apply Array.ext'
    simp only [C18, A8, Nat.add_zero, List.length_map, Array.toList_append]
    have hx : (X.map v8).length = 512 := by simp [hX]
    rw [show 513 + o = 512 + (o + 1) by omega, show 512 + (o + 1) + l.length = 512 + (o + l.length + 1) by omega]
    rw [show (512 : Nat) = (X.map v8).length from hx.symm, List.take_length_add_append, List.drop_length_add_append]
    simp [splc, List.map_take, List.map_drop]
  rw [e1] at hst
  have h2' : (sizeOf e).run P w = .ok (A8 l).size w := by rw [A8_size]; exact h2
  simp only [putAt, Instr.storeAt, Instr.sureAddr, storeVar, Sem.run_bind, Sem.run_pure, Result.andThen_ok, h2', Value.cells, ne_eq, not_true_eq_false, if_false, hst]
theorem z_storeC18 {K : Act → World → Prop} {w : World} {e : TypeId} {p x : Operand} {ty : TypeId} {pos : String} {after : Array Edge} {g o : Nat} {t : TypeId} {X : List (BitVec 8)} (hX : X.length = 512) {u : Value} {m c : List (BitVec 8)} (hb : Blk w g t (C18 X u m)) (hp : a.eval p = .pointer (some ⟨g, 513 + o, none⟩)) (hv : a.eval x = .agg (A8 c)) (hn : o + c.length ≤ m.length)
    (hsz : (sizeOf e).run P w = .ok c.length w) (h : ∀ w1, Blk w1 g t (C18 X u (splc m o c)) → w.grownBy w1 (some g) → w1.heap.size = w.heap.size → wpZ P ops K ks l a w1) : wpZ P ops K (2 :: ks) (⟨none, .store e p x, ty, pos, after, none⟩ :: l) a w := by
  have hr : (execOp a.eval ⟨none, .store e p x, ty, pos, after, none⟩).run P w = .ok .skip (w.setRow g (C18 X u (splc m o c))) := by
    rw [execOp_store', hp, hv, run_storeAt_C18 w e t g o X hX u m c hb hsz hn]
    simp
  refine z_eff rfl (fun K' hK' => ?_)
  unfold Oper.wp
  rw [hr]
  exact hK' _ _ (h _ (hb.put _) (grown_setRow w g _) (by simp))
end
set_option linter.unusedSimpArgs false in
set_option maxRecDepth 100000 in
set_option maxHeartbeats 1600000 in
theorem refNew18_any (key : List (BitVec 8)) (a : Option Addr) (n c : Nat) (w : World) (hr : Rd8 w a n c key) (hn : n = 16 ∨ n = 24 ∨ n = 32) :
    Calls Tryz.prog 10 #[.agg (A8 boxesL), .slice a n c] w fun e w' => ∃ g c', e = .returned (.agg (C18 boxesL (.slice (some ⟨g, 0, none⟩) (n / 4 + 7) c') (hkey (sch (n / 4) key (3 * (n / 4) + 28)) (n / 4 + 7) ++ lkey (sch (n / 4) key (3 * (n / 4) + 28)) (n / 4 + 7)))) ∧ OwnS w' w.heap.size 37 16 (.slice (some ⟨g, 0, none⟩) (n / 4 + 7) c') (n / 4 + 7) (sch (n / 4) key (3 * (n / 4) + 28)) ∧ Below w.heap.size w w' := by
  have hkk := fun (w1 : World) (h : Rd8 w1 a n c key) => refKeys_any key a n c w1 h hn
  have hm3 : 3 ≤ n / 4 + 7 := by omega
  have hm100 : n / 4 + 7 ≤ 100 := by omega
  obtain ⟨R, hRR⟩ : ∃ R, R = n / 4 + 7 := ⟨_, rfl⟩
  obtain ⟨L, hL⟩ : ∃ L, L = sch (n / 4) key (3 * (n / 4) + 28) := ⟨_, rfl⟩
  obtain ⟨X, hX⟩ : ∃ X, X = boxesL := ⟨_, rfl⟩
  have hXl : X.length = 512 := by rw [hX]; exact boxesL_length
  have hBX : BoxL X boxT backT := by rw [hX]; exact boxL_all
  rw [← hRR, ← hL, ← hX] at hkk
  rw [← hRR] at hm3 hm100
  rw [← hRR, ← hL, ← hX]
  obtain ⟨HK, hHK⟩ : ∃ z, z = hkey L R := ⟨_, rfl⟩
  obtain ⟨LK_, hLK⟩ : ∃ z, z = lkey L R := ⟨_, rfl⟩
  have hHl : HK.length = 16 := by rw [hHK]; exact encS_length L R _
  have hLl : LK_.length = 16 := by rw [hLK]; exact encS_length L R _
  rw [← hHK, ← hLK]
  have HHK := Lib.hid hHK
  have HLK := Lib.hid hLK
  have KK := Lib.hid hkk
  have BX := Lib.hid hBX
  clear hHK hLK hkk hRR hL hX hBX hn
  obtain ⟨ZC, hZC⟩ : ∃ z, z = C18 (zeros 8 512) (.slice none 0 0) (zeros 8 32) := ⟨_, rfl⟩
  have hZCs : ZC.size = 545 := by rw [hZC]; exact C18_size (by rw [zeros_length]) _ (by rw [zeros_length])
  have HZC := Lib.hid hZC
  clear hZC
  obtain ⟨W, hW⟩ : ∃ W, (w.alloc (.cells (A8 X) 35)).alloc (.cells (C18 (zeros 8 512) (.slice none 0 0) (zeros 8 32)) 39) = W := ⟨_, rfl⟩
  obtain ⟨b0, b1, hb, hz⟩ := new2 _ _ _ _ _ _ hW
  have P0 := Lib.hid b0
  have Z0 := Lib.hid b1
  have R0 := Lib.hid (hr.below hb)
  have B0 := Lib.hid hb
  have HZ := Lib.hid hz
  clear b0 b1 hb hz hr
  go_enter Tryz.func10, Tryz.ntmps10
  go_upto_region 1 with fail
  clear hW
  refine wp_region_order [5,5,0,2,2,2,3] [0,1,2] [(3, 2, _), (4, 2, _), (5, 2, _)] (fun i => if i = 4 then [3] else []) [6] [_, _, _] [_] [5,5,0] [3] 3 rfl rfl rfl (by kernel_rfl) (by kernel_rfl) (by kernel_rfl) rfl rfl rfl (fun C0 hC0 hCb hCe K' hK' => ?_)
  have Q1 : ∀ w1, C0 w1 → rowAt w1 w.heap.size = A8 X := fun w1 hw => (P0.out.drew.belowAll (hCb w1 hw)).row
  repeat
    first
      | ((with_reducible refine h_pure (v := ?_) (a' := ?_) ?_ (fun _ => ?_) ?_ ?_); rotate_left; rotate_left; (focus (exact rfl)); (focus (go_simp; (try go_bits); exact rfl)); (focus (simp only [Act.put, List.setIfInBounds_toArray, List.set_cons_succ, List.set_cons_zero, Act.eval, Array.getD_eq_getD_getElem?, List.getElem?_toArray, List.getElem?_cons_succ, List.getElem?_cons_zero, Option.getD_some]; exact rfl)))
      | ((with_reducible refine h_obl (v := ?_) (a' := ?_) ?_ (fun _ hcw => ?_) ?_ ?_); rotate_left; rotate_left; (focus (exact rfl)); (focus (have f1 := Q1 _ hcw; go_simp; (try go_bits); exact rfl)); (focus (simp only [Act.put, List.setIfInBounds_toArray, List.set_cons_succ, List.set_cons_zero, Act.eval, Array.getD_eq_getD_getElem?, List.getElem?_toArray, List.getElem?_cons_succ, List.getElem?_cons_zero, Option.getD_some]; exact rfl)))
      | ((with_reducible refine h_read (v := ?_) (a' := ?_) ?_ (fun _ hbw => ?_) ?_ ?_); rotate_left; rotate_left; (focus (exact rfl)); (focus (skip; go_simp; (try go_bits); exact rfl)); (focus (simp only [Act.put, List.setIfInBounds_toArray, List.set_cons_succ, List.set_cons_zero, Act.eval, Array.getD_eq_getD_getElem?, List.getElem?_toArray, List.getElem?_cons_succ, List.getElem?_cons_zero, Option.getD_some]; exact rfl)))
  refine h_nil ?_
  clear Q1
  generalize hAct : Act.mk _ _ = act
  obtain ⟨u, rfl⟩ : ∃ u : Nat → Value, act = { tmps := (fun u : Nat → Value => (u 0 :: u 1 :: Value.pointer (some ⟨w.heap.size, 0, none⟩) :: u 3 :: Value.pointer (some ⟨w.heap.size + 1, 0, none⟩) :: u 5 :: Value.agg (A8 X) :: Value.agg (A8 X) :: Value.slice a n c :: u 9 :: u 10 :: u 11 :: u 12 :: u 13 :: u 14 :: u 15 :: u 16 :: u 17 :: u 18 :: u 19 :: u 20 :: u 21 :: u 22 :: u 23 :: []).toArray) u, defers := [] } := by
    subst hAct; exact ex_frame _ rfl
  clear hAct
  obtain ⟨St, hSt⟩ : ∃ St : Nat → Bool → Act → World → Prop, ∀ kk fr a' w', St kk fr a' w' ↔ (∃ x9 x10 x5 : Value, a' = { tmps := (u 0 :: u 1 :: Value.pointer (some ⟨w.heap.size, 0, none⟩) :: u 3 :: Value.pointer (some ⟨w.heap.size + 1, 0, none⟩) :: x5 :: Value.agg (A8 X) :: Value.agg (A8 X) :: Value.slice a n c :: x9 :: x10 :: u 11 :: u 12 :: u 13 :: u 14 :: u 15 :: u 16 :: u 17 :: u 18 :: u 19 :: u 20 :: u 21 :: u 22 :: u 23 :: []).toArray, defers := [] } ∧ Below W.drew.heap.size W.drew w' ∧ (1 ≤ kk → ∃ g c', x9 = .slice (some ⟨g, 0, none⟩) R c' ∧ OwnS w' W.heap.size 37 16 (.slice (some ⟨g, 0, none⟩) R c') R L) ∧ (2 ≤ kk → x10 = .agg (C18 X x9 (zeros 8 32))) ∧ (fr = true → ∃ g, x5 = .pointer (some ⟨g, 0, none⟩) ∧ W.heap.size ≤ g ∧ Blk w' g 39 ZC)) := ⟨_, fun _ _ _ _ => Iff.rfl⟩
  refine permHO_chain (St := St) [_, _] _ 0 ⟨?s1, ?s2, trivial⟩ ?sf ?sch ?snd ?sR _ _ ?s0
  case s0 => exact (hSt _ _ _ _).2 ⟨_, _, _, rfl, Below.refl _ _, fun h => by omega, fun h => by omega, fun h => by cases h⟩
  case sch => exact ⟨by decide, trivial⟩
  case snd => decide
  case s1 =>
    intro fr a3 w3 hs
    obtain ⟨x9, x10, x5, rfl, D3, h1, h2, hf⟩ := (hSt _ _ _ _).1 hs
    clear hs
    refine opH_of_wpH ?_
    (with_reducible refine h_call ?_ ?_)
    · exact rfl
    go_simp
    refine entersW_of ?_
    refine (KK.out w3 (R0.out.drew.below D3)).mono ?_
    rintro e w4 ⟨v4, rfl, o4, d4⟩
    refine ⟨_, rfl, d4, ?_⟩
    try simp only [Act.put, List.setIfInBounds_toArray, List.set_cons_succ, List.set_cons_zero]
    obtain ⟨gy, cy, rfl, _, _, _, _⟩ := o4.form (by omega)
    have ry := o4.base D3.size
    refine h_nil ((hSt _ _ _ _).2 ⟨_, _, _, rfl, D3.trans (d4.mono D3.size), fun _ => ⟨_, _, rfl, ry⟩, fun h => by omega, fun e => ?_⟩)
    obtain ⟨g, e1, e2, e3⟩ := hf e
    exact ⟨g, e1, e2, e3.belowAll d4⟩
  case s2 =>
    intro fr a3 w3 hs
    obtain ⟨x9, x10, x5, rfl, D3, h1, h2, hf⟩ := (hSt _ _ _ _).1 hs
    clear hs
    obtain ⟨gy, cy, rfl, ry⟩ := h1 (by omega)
    refine opH_of_wpH ?_
    have hf18 := fold18 X hXl
    have hs18 := C18_size hXl (.slice none 0 0) (K := zeros 8 32) (by rw [zeros_length])
    have he18 : (C18 X (.slice none 0 0) (zeros 8 32)).setIfInBounds 512 (.slice (some ⟨gy, 0, none⟩) R cy) = C18 X (.slice (some ⟨gy, 0, none⟩) R cy) (zeros 8 32) := C18_set hXl _ _ _
    refine h_made (v := .agg (C18 X (.slice (some ⟨gy, 0, none⟩) R cy) (zeros 8 32))) (w' := w3) rfl (by go_simp) (Below.refl _ _) ?_
    simp only [Act.put, List.setIfInBounds_toArray, List.set_cons_succ, List.set_cons_zero]
    exact h_nil ((hSt _ _ _ _).2 ⟨_, _, _, rfl, D3, fun _ => ⟨_, _, rfl, ry⟩, fun _ => rfl, hf⟩)
  case sf =>
    intro j hj a3 w3 hs
    obtain ⟨x9, x10, x5, rfl, D3, h1, h2, hf⟩ := (hSt _ _ _ _).1 hs
    clear hs
    refine opH_of_wpH ?_
    obtain ⟨u3, eu3⟩ : ∃ u, w3.alloc (.cells (C18 (zeros 8 512) (.slice none 0 0) (zeros 8 32)) 39) = u := ⟨_, rfl⟩
    obtain ⟨bf, du, zu⟩ := new1 _ _ _ _ eu3
    obtain ⟨pf, hpf⟩ : ∃ g, g = w3.heap.size := ⟨_, rfl⟩
    refine h_made (v := .pointer (some ⟨pf, 0, none⟩)) (w' := u3) rfl (by rw [hpf]; go_simp; exact eu3) du ?_
    simp only [Act.put, List.setIfInBounds_toArray, List.set_cons_succ, List.set_cons_zero]
    rw [← hpf, ← HZC.out] at bf
    refine h_nil ((hSt _ _ _ _).2 ⟨_, _, _, rfl, D3.trans (du.mono D3.size), fun h => ?_, h2, fun _ => ⟨pf, rfl, by rw [hpf]; exact D3.size, bf⟩⟩)
    obtain ⟨g, c2, e1, e2⟩ := h1 h
    exact ⟨g, c2, e1, e2.below du⟩
  case sR =>
    intro a3 w3 hs
    obtain ⟨x9, x10, x5, rfl, D3, h1, h2, hf⟩ := (hSt _ _ _ _).1 hs
    clear hs hSt
    obtain rfl := h2 (by decide)
    obtain ⟨gy, cy, rfl, ry⟩ := h1 (by decide)
    have hff := hf rfl
    clear hf
    obtain ⟨g5, hx5, hg, bg⟩ := hff
    subst hx5
    refine c_act ?_
    refine z_storeRow bg rfl rfl (by rw [hZCs, C18_size hXl _ (by rw [zeros_length])]) (C18_ones _ _ _ _ _) (by rw [C18_size hXl _ (by rw [zeros_length])]; exact Tryz.sizeOf39 _) (fun w4 k4 g4 s4 => ?_)
    have BD := D3.trans (grown_below g4 hg D3.size)
    refine z_nil ⟨hCe _ BD, ?_⟩
    refine c_nil (hK' _ _ ?_)
    have E4 : Below W.heap.size W w4 := ((Below.refl W.heap.size W).drew).trans BD
    have hne : gy ≠ g5 := by
      intro e
      subst e
      rcases ry.2 with ⟨e, _⟩ | ⟨g, cap, cur, e, _, hh, _⟩
      · cases e
      · cases e; have := Option.some.inj (hh.symm.trans bg); injection this with _ h2 _; exact absurd h2 (by decide)
    have o5 := Lib.hid (OwnS.keptG ry g4 hne)
    have hgW : w.heap.size + 2 ≤ g5 := by have := HZ.out; omega
    have K4 := Lib.hid k4
    have P4 := Lib.hid (P0.out.belowAll E4)
    have Z4 := Lib.hid (Z0.out.belowAll E4)
    have B4 := Lib.hid (B0.out.trans (E4.mono B0.out.size))
    clear hK' hC0 hCb hCe BD D3 h1 h2 bg g4 s4 k4 E4 ry P0 Z0 B0 R0 KK hne hg
    have r1 := P4.out.row
    have cc : w4.cell? ⟨g5, 512, none⟩ = some (.slice (some ⟨gy, 0, none⟩) R cy) := by rw [K4.out.cell]; exact C18_keys hXl _ _
    go_upto_region 2 with fail
    refine wp_region_plain [1,0,1,0,2,0,2] rfl (fun ops' K_ hK_ => ?_)
    repeat
      first
        | ((with_reducible refine z_move (a' := ?_) ?_ ?_); rotate_left; · (simp only [Act.put, List.setIfInBounds_toArray, List.set_cons_succ, List.set_cons_zero, Act.eval, Array.getD_eq_getD_getElem?, List.getElem?_toArray, List.getElem?_cons_succ, List.getElem?_cons_zero, Option.getD_some]; exact rfl))
        | ((with_reducible refine z_assign (a' := ?_) ?_ ?_); rotate_left; · (simp only [Act.put, List.setIfInBounds_toArray, List.set_cons_succ, List.set_cons_zero, Act.eval, Array.getD_eq_getD_getElem?, List.getElem?_toArray, List.getElem?_cons_succ, List.getElem?_cons_zero, Option.getD_some]; exact rfl))
        | ((with_reducible refine z_obl (v := ?_) (a' := ?_) rfl (fun _ => ?_) ?_ ?_); rotate_left; rotate_left; (focus (go_simp; (try go_bits); exact rfl)); (focus (simp only [Act.put, List.setIfInBounds_toArray, List.set_cons_succ, List.set_cons_zero, Act.eval, Array.getD_eq_getD_getElem?, List.getElem?_toArray, List.getElem?_cons_succ, List.getElem?_cons_zero, Option.getD_some]; exact rfl)))
        | ((with_reducible refine z_read (v := ?_) (a' := ?_) rfl ?_ ?_ ?_); rotate_left; rotate_left; (focus (go_simp; (try go_bits); exact rfl)); (focus (simp only [Act.put, List.setIfInBounds_toArray, List.set_cons_succ, List.set_cons_zero, Act.eval, Array.getD_eq_getD_getElem?, List.getElem?_toArray, List.getElem?_cons_succ, List.getElem?_cons_zero, Option.getD_some]; exact rfl)))
    (with_reducible refine z_callw rfl ?_)
    go_simp
    refine entersW_of ?_
    refine (refEncrypt_any X boxT backT L (zeros 8 16) gy cy R w4 BX.out o5.out.rdAt rfl hm3 hm100).mono ?_
    rintro e wz ⟨rfl, dz⟩
    refine ⟨_, rfl, ?_⟩
    try simp only [Act.put, List.setIfInBounds_toArray, List.set_cons_succ, List.set_cons_zero]
    rw [show encS L R (zeros 8 16) = HK from HHK.out.symm]
    repeat
      first
        | ((with_reducible refine z_move (a' := ?_) ?_ ?_); rotate_left; · (simp only [Act.put, List.setIfInBounds_toArray, List.set_cons_succ, List.set_cons_zero, Act.eval, Array.getD_eq_getD_getElem?, List.getElem?_toArray, List.getElem?_cons_succ, List.getElem?_cons_zero, Option.getD_some]; exact rfl))
        | ((with_reducible refine z_assign (a' := ?_) ?_ ?_); rotate_left; · (simp only [Act.put, List.setIfInBounds_toArray, List.set_cons_succ, List.set_cons_zero, Act.eval, Array.getD_eq_getD_getElem?, List.getElem?_toArray, List.getElem?_cons_succ, List.getElem?_cons_zero, Option.getD_some]; exact rfl))
        | ((with_reducible refine z_obl (v := ?_) (a' := ?_) rfl (fun _ => ?_) ?_ ?_); rotate_left; rotate_left; (focus (go_simp; (try go_bits); exact rfl)); (focus (simp only [Act.put, List.setIfInBounds_toArray, List.set_cons_succ, List.set_cons_zero, Act.eval, Array.getD_eq_getD_getElem?, List.getElem?_toArray, List.getElem?_cons_succ, List.getElem?_cons_zero, Option.getD_some]; exact rfl)))
        | ((with_reducible refine z_read (v := ?_) (a' := ?_) rfl ?_ ?_ ?_); rotate_left; rotate_left; (focus (go_simp; (try go_bits); exact rfl)); (focus (simp only [Act.put, List.setIfInBounds_toArray, List.set_cons_succ, List.set_cons_zero, Act.eval, Array.getD_eq_getD_getElem?, List.getElem?_toArray, List.getElem?_cons_succ, List.getElem?_cons_zero, Option.getD_some]; exact rfl)))
    refine z_storeC18 (o := 0) hXl (K4.out.belowAll dz) rfl rfl (by simp [splc, hHl]) (by rw [hHl]; exact Tryz.sizeOf37 _) (fun w6 k6 g6 s6 => ?_)
    refine z_nil (hK_ _ _ ?_)
    have ob := o5.out.below dz
    have hne : gy ≠ g5 := by
      intro e
      subst e
      rcases o5.out.2 with ⟨e, _⟩ | ⟨g, cap, cur, e, _, hh, _⟩
      · cases e
      · cases e; have := Option.some.inj (hh.symm.trans K4.out); injection this with _ h2 _; exact absurd h2 (by decide)
    have o7 := Lib.hid (OwnS.keptG ob g6 hne)
    have P6 := Lib.hid ((P4.out.belowAll dz).grown g6 (by simp; omega))
    have Z6 := Lib.hid ((Z4.out.belowAll dz).grown g6 (by simp; omega))
    have B6 := Lib.hid ((B4.out.trans (dz.mono B4.out.size)).trans (grown_below g6 (by omega) (Nat.le_trans B4.out.size dz.size)))
    have K6 := Lib.hid k6
    clear k6 g6 s6 ob hne dz K4 P4 Z4 B4 o5 r1 cc hK_
    have r1 := P6.out.row
    have cc : w6.cell? ⟨g5, 512, none⟩ = some (.slice (some ⟨gy, 0, none⟩) R cy) := by rw [K6.out.cell]; exact C18_keys hXl _ _
    go_upto_region 3 with fail
    refine wp_region_plain [1,0,1,0,2,0,2] rfl (fun ops' K_ hK_ => ?_)
    repeat
      first
        | ((with_reducible refine z_move (a' := ?_) ?_ ?_); rotate_left; · (simp only [Act.put, List.setIfInBounds_toArray, List.set_cons_succ, List.set_cons_zero, Act.eval, Array.getD_eq_getD_getElem?, List.getElem?_toArray, List.getElem?_cons_succ, List.getElem?_cons_zero, Option.getD_some]; exact rfl))
        | ((with_reducible refine z_assign (a' := ?_) ?_ ?_); rotate_left; · (simp only [Act.put, List.setIfInBounds_toArray, List.set_cons_succ, List.set_cons_zero, Act.eval, Array.getD_eq_getD_getElem?, List.getElem?_toArray, List.getElem?_cons_succ, List.getElem?_cons_zero, Option.getD_some]; exact rfl))
        | ((with_reducible refine z_obl (v := ?_) (a' := ?_) rfl (fun _ => ?_) ?_ ?_); rotate_left; rotate_left; (focus (go_simp; (try go_bits); exact rfl)); (focus (simp only [Act.put, List.setIfInBounds_toArray, List.set_cons_succ, List.set_cons_zero, Act.eval, Array.getD_eq_getD_getElem?, List.getElem?_toArray, List.getElem?_cons_succ, List.getElem?_cons_zero, Option.getD_some]; exact rfl)))
        | ((with_reducible refine z_read (v := ?_) (a' := ?_) rfl ?_ ?_ ?_); rotate_left; rotate_left; (focus (go_simp; (try go_bits); exact rfl)); (focus (simp only [Act.put, List.setIfInBounds_toArray, List.set_cons_succ, List.set_cons_zero, Act.eval, Array.getD_eq_getD_getElem?, List.getElem?_toArray, List.getElem?_cons_succ, List.getElem?_cons_zero, Option.getD_some]; exact rfl)))
    (with_reducible refine z_callw rfl ?_)
    go_simp
    refine entersW_of ?_
    refine (refEncrypt_any X boxT backT L hone gy cy R w6 BX.out o7.out.rdAt rfl hm3 hm100).mono ?_
    rintro e wz ⟨rfl, dz⟩
    refine ⟨_, rfl, ?_⟩
    try simp only [Act.put, List.setIfInBounds_toArray, List.set_cons_succ, List.set_cons_zero]
    rw [show encS L R hone = LK_ from HLK.out.symm]
    repeat
      first
        | ((with_reducible refine z_move (a' := ?_) ?_ ?_); rotate_left; · (simp only [Act.put, List.setIfInBounds_toArray, List.set_cons_succ, List.set_cons_zero, Act.eval, Array.getD_eq_getD_getElem?, List.getElem?_toArray, List.getElem?_cons_succ, List.getElem?_cons_zero, Option.getD_some]; exact rfl))
        | ((with_reducible refine z_assign (a' := ?_) ?_ ?_); rotate_left; · (simp only [Act.put, List.setIfInBounds_toArray, List.set_cons_succ, List.set_cons_zero, Act.eval, Array.getD_eq_getD_getElem?, List.getElem?_toArray, List.getElem?_cons_succ, List.getElem?_cons_zero, Option.getD_some]; exact rfl))
        | ((with_reducible refine z_obl (v := ?_) (a' := ?_) rfl (fun _ => ?_) ?_ ?_); rotate_left; rotate_left; (focus (go_simp; (try go_bits); exact rfl)); (focus (simp only [Act.put, List.setIfInBounds_toArray, List.set_cons_succ, List.set_cons_zero, Act.eval, Array.getD_eq_getD_getElem?, List.getElem?_toArray, List.getElem?_cons_succ, List.getElem?_cons_zero, Option.getD_some]; exact rfl)))
        | ((with_reducible refine z_read (v := ?_) (a' := ?_) rfl ?_ ?_ ?_); rotate_left; rotate_left; (focus (go_simp; (try go_bits); exact rfl)); (focus (simp only [Act.put, List.setIfInBounds_toArray, List.set_cons_succ, List.set_cons_zero, Act.eval, Array.getD_eq_getD_getElem?, List.getElem?_toArray, List.getElem?_cons_succ, List.getElem?_cons_zero, Option.getD_some]; exact rfl)))
    refine z_storeC18 (o := 16) hXl (K6.out.belowAll dz) rfl rfl (by simp [splc, hHl, hLl]) (by rw [hLl]; exact Tryz.sizeOf37 _) (fun w8 k8 g8 s8 => ?_)
    refine z_nil (hK_ _ _ ?_)
    have ob := o7.out.below dz
    have hne : gy ≠ g5 := by
      intro e
      subst e
      rcases o7.out.2 with ⟨e, _⟩ | ⟨g, cap, cur, e, _, hh, _⟩
      · cases e
      · cases e; have := Option.some.inj (hh.symm.trans K6.out); injection this with _ h2 _; exact absurd h2 (by decide)
    have o9 := Lib.hid (OwnS.keptG ob g8 hne)
    have P8 := Lib.hid ((P6.out.belowAll dz).grown g8 (by simp; omega))
    have Z8 := Lib.hid ((Z6.out.belowAll dz).grown g8 (by simp; omega))
    have B8 := Lib.hid ((B6.out.trans (dz.mono B6.out.size)).trans (grown_below g8 (by omega) (Nat.le_trans B6.out.size dz.size)))
    have K8 := Lib.hid k8
    clear k8 g8 s8 ob hne dz K6 P6 Z6 B6 o7 r1 cc hK_
    have k8 := K8.out
    rw [splc_two HK LK_ hHl hLl] at k8
    obtain ⟨F, hF⟩ : ∃ F, F = C18 X (.slice (some ⟨gy, 0, none⟩) R cy) (HK ++ LK_) := ⟨_, rfl⟩
    have hFs : F.size = 545 := by rw [hF]; exact C18_size hXl _ (by rw [List.length_append, hHl, hLl])
    have hF1 : ones F = true := by rw [hF]; exact C18_ones _ _ _ _ _
    have HF := Lib.hid hF
    rw [← hF] at k8
    have hFx : F.extract 0 545 = F := by rw [← hFs]; simp
    have r1 := k8.row
    have r2 := Z8.out.row
    rw [← HZC.out] at r2
    have r3 := Z8.out.whole
    have hput := run_storeAt_row (P := Tryz.prog) w8 39 (w.heap.size + 1) F (by rw [hFs]; exact Tryz.sizeOf39 _) (by rw [r2, hZCs, hFs]) hF1 r3
    clear hF k8 K8 P8
    go_wp2
    have hzz := HZ.out
    refine bodyPost_row F rfl rfl rfl (Tryz.isAgg39 _) (Tryz.sizeOf39 _) hFs (rowAt_setRow _ r3) ⟨gy, cy, by rw [HF.out], OwnS.base (OwnS.grown o9.out (grown_setRow _ (w.heap.size + 1) F) (by omega)) (by omega), below_setRow B8.out (by omega) _⟩
end Go.Proofs.YtfdkmjegcghieaaGreatDoor
/- hctr by definition: Encipher, Decipher -/
namespace Go.Proofs.YtfdkmjegcghieaaGreatDoor
open Go.RowKit
set_option linter.unusedSimpArgs false in
set_option maxRecDepth 100000 in
set_option maxHeartbeats 1600000 in
theorem refEnc18_any (X TT KT L hk lk T M : List (BitVec 8)) (g cr R : Nat) (a b : Option Addr) (n c m d : Nat) (w : World) (hBX : BoxL X TT KT) (hXl : X.length = 512) (hhk : hk.length = 16) (hlk : lk.length = 16) (hR : RdS w 16 (some ⟨g, 0, none⟩) R cr L) (hR3 : 3 ≤ R) (hR100 : R ≤ 100) (hT : Rd8 w a n c T) (hM : Rd8 w b m d M) (hn : n ≤ 300) (h16 : 16 ≤ m) (hm : m ≤ 520) :
    Calls Tryz.prog 13 #[.agg (C18 X (.slice (some ⟨g, 0, none⟩) R cr) (hk ++ lk)), .slice a n c, .slice b m d] w fun e w' => ∃ v, e = .returned v ∧ Own8 w' w.heap.size 5 v (doesS (encS L R) L R hk lk T M) ∧ Below w.heap.size w w' := by
  obtain ⟨CC, hCC⟩ : ∃ z, z = C18 X (.slice (some ⟨g, 0, none⟩) R cr) (hk ++ lk) := ⟨_, rfl⟩
  have k1 : CC.size = 545 := by rw [hCC]; exact C18_size hXl _ (by rw [List.length_append, hhk, hlk])
  have k2 : CC.extract 0 512 = A8 X := by rw [hCC]; exact C18_box hXl _ _
  have k3 : CC[512]? = some (.slice (some ⟨g, 0, none⟩) R cr) := by rw [hCC]; exact C18_keys hXl _ _
  have k4 : CC.extract 513 529 = A8 hk := by rw [hCC]; exact (C18_own hXl _ hk lk hhk hlk).1
  have k5 : CC.extract 529 545 = A8 lk := by rw [hCC]; exact (C18_own hXl _ hk lk hhk hlk).2
  rw [← hCC]
  clear hCC
  have hMl := hM.1
  obtain ⟨W, hW⟩ : ∃ W, w.alloc (.cells CC 39) = W := ⟨_, rfl⟩
  obtain ⟨b0, hb, hz⟩ := new1 _ _ _ _ hW
  have P0 := Lib.hid b0
  have B0 := Lib.hid hb
  have T0 := Lib.hid (hT.below hb)
  have M0 := Lib.hid (hM.below hb)
  have R0 := Lib.hid (hR.below hb)
  have BX := Lib.hid hBX
  have C3 := Lib.hid k3
  clear b0 hb hz hT hM hR hBX k3
  obtain ⟨hdx, ehdx⟩ : ∃ z, z = M.take 16 := ⟨_, rfl⟩
  have hdxl : hdx.length = 16 := by rw [ehdx]; rw [List.length_take]; omega
  have Hhdx := Lib.hid ehdx
  clear ehdx
  obtain ⟨blx, eblx⟩ : ∃ z, z = M.drop 16 := ⟨_, rfl⟩
  have blxl : blx.length = m - 16 := by rw [eblx]; rw [List.length_drop, hMl]
  have Hblx := Lib.hid eblx
  clear eblx
  obtain ⟨ha1, eha1⟩ : ∃ z, z = hashB hk T blx := ⟨_, rfl⟩
  have ha1l : ha1.length = 16 := by rw [eha1]; exact hashB_length _ _ _
  have Hha1 := Lib.hid eha1
  clear eha1
  obtain ⟨one, eone⟩ : ∃ z, z = xor16 hdx ha1 := ⟨_, rfl⟩
  have onel : one.length = 16 := by rw [eone]; exact xor16_length _ _
  have Hone := Lib.hid eone
  clear eone
  obtain ⟨two, etwo⟩ : ∃ z, z = encS L R one := ⟨_, rfl⟩
  have twol : two.length = 16 := by rw [etwo]; exact encS_length _ _ _
  have Htwo := Lib.hid etwo
  clear etwo
  obtain ⟨mid, emid⟩ : ∃ z, z = xor16 one two := ⟨_, rfl⟩
  have midl : mid.length = 16 := by rw [emid]; exact xor16_length _ _
  have Hmid := Lib.hid emid
  clear emid
  obtain ⟨st, est⟩ : ∃ z, z = xor16 mid lk := ⟨_, rfl⟩
  have stl : st.length = 16 := by rw [est]; exact xor16_length _ _
  have Hst := Lib.hid est
  clear est
  obtain ⟨bly, ebly⟩ : ∃ z, z = xcrypt L R st blx := ⟨_, rfl⟩
  have blyl : bly.length = m - 16 := by rw [ebly]; rw [xcrypt_length]; exact blxl
  have Hbly := Lib.hid ebly
  clear ebly
  obtain ⟨ha2, eha2⟩ : ∃ z, z = hashB hk T bly := ⟨_, rfl⟩
  have ha2l : ha2.length = 16 := by rw [eha2]; exact hashB_length _ _ _
  have Hha2 := Lib.hid eha2
  clear eha2
  obtain ⟨fst, efst⟩ : ∃ z, z = xor16 two ha2 := ⟨_, rfl⟩
  have fstl : fst.length = 16 := by rw [efst]; exact xor16_length _ _
  have Hfst := Lib.hid efst
  clear efst
  have hdo : doesS (encS L R) L R hk lk T M = fst ++ bly := by
    have e1 : one = oneH hk T M := by rw [Hone.out, Hha1.out, Hhdx.out, Hblx.out]; rfl
    have em : mid = xor16 one two := by rw [Hmid.out]
    have e2 : bly = bulkH (encS L R) L R hk lk T M := by rw [Hbly.out, Hst.out, em, Htwo.out, e1, Hblx.out]; rfl
    rw [Hfst.out, Hha2.out, e2, Htwo.out, e1]; rfl
  rw [hdo]
  clear hdo
  obtain ⟨bk, bo, rfl, _, _⟩ := M0.out.2.2.2 (by omega)
  obtain ⟨bA, eA⟩ : ∃ z, (if d = 16 then some (⟨bk, bo, none⟩ : Addr) else some ⟨bk, bo + 16, none⟩) = z := ⟨_, rfl⟩
  have mc := M0.out.cut (j := 16) (k := m) (by omega) (Nat.le_refl _)
  simp only [Option.map_some, Addr.add_lit] at mc
  rw [eA, List.take_of_length_le (by omega), ← Hblx.out] at mc
  have D0 := Lib.hid mc
  have mp := M0.out.pre (j := 16) (by omega)
  rw [← Hhdx.out] at mp
  have G0 := Lib.hid mp
  clear mc mp
  have i1 : (16 : Int) ≤ (m : Int) := by omega
  have i2 : (m : Int) ≤ (d : Int) := by have := M0.out.2.1; omega
  have i3 : (16 : Int) ≤ (d : Int) := by omega
  go_enter Tryz.func13, Tryz.ntmps13
  go_upto_region 1 with fail
  clear hW
  refine wp_region_order [0,0,2,0,5,0,0,0,2,2,2,3] [0,1,3,4,5,6,7] [(2, 2, _), (8, 2, _), (9, 2, _), (10, 2, _)] (fun i => if i = 8 then [2] else if i = 9 then [8] else []) [11] [_, _, _, _, _, _, _] [_] [0,0,0,5,0,0,0] [3] 4 rfl rfl rfl (by kernel_rfl) (by kernel_rfl) (by kernel_rfl) rfl rfl rfl (fun C0 hC0 hCb hCe K' hK' => ?_)
  have Q1 : ∀ w1, C0 w1 → rowAt w1 w.heap.size = CC := fun w1 hw => (P0.out.drew.belowAll (hCb w1 hw)).row
  repeat
    first
      | ((with_reducible refine h_pure (v := ?_) (a' := ?_) ?_ (fun _ => ?_) ?_ ?_); rotate_left; rotate_left; (focus (exact rfl)); (focus (go_simp; (try go_bits); exact rfl)); (focus (simp only [Act.put, List.setIfInBounds_toArray, List.set_cons_succ, List.set_cons_zero, Act.eval, Array.getD_eq_getD_getElem?, List.getElem?_toArray, List.getElem?_cons_succ, List.getElem?_cons_zero, Option.getD_some]; exact rfl)))
      | ((with_reducible refine h_obl (v := ?_) (a' := ?_) ?_ (fun _ hcw => ?_) ?_ ?_); rotate_left; rotate_left; (focus (exact rfl)); (focus (have fQ1 := Q1 _ hcw; go_simp; (try go_bits); exact rfl)); (focus (simp only [Act.put, List.setIfInBounds_toArray, List.set_cons_succ, List.set_cons_zero, Act.eval, Array.getD_eq_getD_getElem?, List.getElem?_toArray, List.getElem?_cons_succ, List.getElem?_cons_zero, Option.getD_some]; exact rfl)))
      | ((with_reducible refine h_read (v := ?_) (a' := ?_) ?_ (fun _ hbw => ?_) ?_ ?_); rotate_left; rotate_left; (focus (exact rfl)); (focus (skip; go_simp; (try go_bits); exact rfl)); (focus (simp only [Act.put, List.setIfInBounds_toArray, List.set_cons_succ, List.set_cons_zero, Act.eval, Array.getD_eq_getD_getElem?, List.getElem?_toArray, List.getElem?_cons_succ, List.getElem?_cons_zero, Option.getD_some]; exact rfl)))
  refine h_nil ?_
  clear Q1
  generalize hAct : Act.mk _ _ = act
  obtain ⟨u, rfl⟩ : ∃ u : Nat → Value, act = { tmps := (fun u : Nat → Value => (u 0 :: Value.slice a n c :: Value.slice (some ⟨bk, bo, none⟩) m d :: Value.pointer (some ⟨w.heap.size, 0, none⟩) :: u 4 :: u 5 :: u 6 :: u 7 :: u 8 :: u 9 :: u 10 :: u 11 :: u 12 :: Value.slice (some ⟨bk, bo, none⟩) 16 d :: u 14 :: u 15 :: Value.agg (A8 hk) :: Value.slice a n c :: u 18 :: Value.slice bA (m - 16) (d - 16) :: u 20 :: u 21 :: u 22 :: u 23 :: u 24 :: u 25 :: u 26 :: u 27 :: u 28 :: u 29 :: u 30 :: u 31 :: u 32 :: u 33 :: u 34 :: u 35 :: u 36 :: u 37 :: u 38 :: u 39 :: u 40 :: u 41 :: u 42 :: u 43 :: u 44 :: u 45 :: u 46 :: u 47 :: u 48 :: u 49 :: u 50 :: u 51 :: u 52 :: u 53 :: []).toArray) u, defers := [] } := by
    subst hAct; exact ex_frame _ rfl
  clear hAct
  obtain ⟨St, hSt⟩ : ∃ St : Nat → Bool → Act → World → Prop, ∀ kk fr a' w', St kk fr a' w' ↔ (∃ x14 x20 x21 x7 : Value, a' = { tmps := (u 0 :: Value.slice a n c :: Value.slice (some ⟨bk, bo, none⟩) m d :: Value.pointer (some ⟨w.heap.size, 0, none⟩) :: u 4 :: u 5 :: u 6 :: x7 :: u 8 :: u 9 :: u 10 :: u 11 :: u 12 :: Value.slice (some ⟨bk, bo, none⟩) 16 d :: x14 :: u 15 :: Value.agg (A8 hk) :: Value.slice a n c :: u 18 :: Value.slice bA (m - 16) (d - 16) :: x20 :: x21 :: u 22 :: u 23 :: u 24 :: u 25 :: u 26 :: u 27 :: u 28 :: u 29 :: u 30 :: u 31 :: u 32 :: u 33 :: u 34 :: u 35 :: u 36 :: u 37 :: u 38 :: u 39 :: u 40 :: u 41 :: u 42 :: u 43 :: u 44 :: u 45 :: u 46 :: u 47 :: u 48 :: u 49 :: u 50 :: u 51 :: u 52 :: u 53 :: []).toArray, defers := [] } ∧ Below W.drew.heap.size W.drew w' ∧ (1 ≤ kk → x14 = .agg (A8 hdx)) ∧ (2 ≤ kk → x20 = .agg (A8 ha1)) ∧ (3 ≤ kk → x21 = .agg (A8 one)) ∧ (fr = true → ∃ g, x7 = .pointer (some ⟨g, 0, none⟩) ∧ W.heap.size ≤ g ∧ Blk w' g 37 (A8 (zeros 8 16)))) := ⟨_, fun _ _ _ _ => Iff.rfl⟩
  refine permHO_chain (St := St) [_, _, _] _ 0 ⟨?as1, ?as2, ?as3, trivial⟩ ?af ?ach ?and ?aR _ _ ?a0
  case a0 => exact (hSt _ _ _ _).2 ⟨_, _, _, _, rfl, Below.refl _ _, fun h => by omega, fun h => by omega, fun h => by omega, fun h => by cases h⟩
  case ach => exact ⟨by decide, by decide, trivial⟩
  case and => decide
  case as1 =>
    intro fr a3 w3 hs
    obtain ⟨x14, x20, x21, x7, rfl, D3, h1, h2, h3, hf⟩ := (hSt _ _ _ _).1 hs
    clear hs
    refine opH_of_wpH ?_
    (with_reducible refine h_call ?_ ?_)
    · exact rfl
    go_simp
    refine entersW_of ?_
    refine (refBlock16_any hdx (some ⟨bk, bo, none⟩) 16 d w3 (G0.out.drew.below D3) (by omega)).mono ?_
    rintro e w4 ⟨rfl, d4⟩
    refine ⟨_, rfl, d4, ?_⟩
    try simp only [Act.put, List.setIfInBounds_toArray, List.set_cons_succ, List.set_cons_zero]
    rw [blk_id _ hdxl]
    refine h_nil ((hSt _ _ _ _).2 ⟨_, _, _, _, rfl, D3.trans (d4.mono D3.size), fun _ => rfl, fun h => by omega, fun h => by omega, fun e => ?_⟩)
    obtain ⟨g, e1, e2, e3⟩ := hf e
    exact ⟨g, e1, e2, e3.belowAll d4⟩
  case as2 =>
    intro fr a3 w3 hs
    obtain ⟨x14, x20, x21, x7, rfl, D3, h1, h2, h3, hf⟩ := (hSt _ _ _ _).1 hs
    clear hs
    obtain rfl := h1 (by omega)
    refine opH_of_wpH ?_
    (with_reducible refine h_call ?_ ?_)
    · exact rfl
    go_simp
    refine entersW_of ?_
    refine (refHash_any hk T blx a bA n c (m - 16) (d - 16) w3 hhk (T0.out.drew.below D3) (D0.out.drew.below D3) hn (by omega)).mono ?_
    rintro e w4 ⟨rfl, d4⟩
    refine ⟨_, rfl, d4, ?_⟩
    try simp only [Act.put, List.setIfInBounds_toArray, List.set_cons_succ, List.set_cons_zero]
    rw [← Hha1.out]
    refine h_nil ((hSt _ _ _ _).2 ⟨_, _, _, _, rfl, D3.trans (d4.mono D3.size), fun _ => rfl, fun _ => rfl, fun h => by omega, fun e => ?_⟩)
    obtain ⟨g, e1, e2, e3⟩ := hf e
    exact ⟨g, e1, e2, e3.belowAll d4⟩
  case as3 =>
    intro fr a3 w3 hs
    obtain ⟨x14, x20, x21, x7, rfl, D3, h1, h2, h3, hf⟩ := (hSt _ _ _ _).1 hs
    clear hs
    obtain rfl := h1 (by omega)
    obtain rfl := h2 (by omega)
    refine opH_of_wpH ?_
    (with_reducible refine h_call ?_ ?_)
    · exact rfl
    go_simp
    refine entersW_of ?_
    refine (refSixteen_any hdx ha1 w3 hdxl ha1l).mono ?_
    rintro e w4 ⟨rfl, d4⟩
    refine ⟨_, rfl, d4, ?_⟩
    try simp only [Act.put, List.setIfInBounds_toArray, List.set_cons_succ, List.set_cons_zero]
    rw [← Hone.out]
    refine h_nil ((hSt _ _ _ _).2 ⟨_, _, _, _, rfl, D3.trans (d4.mono D3.size), fun _ => rfl, fun _ => rfl, fun _ => rfl, fun e => ?_⟩)
    obtain ⟨g, e1, e2, e3⟩ := hf e
    exact ⟨g, e1, e2, e3.belowAll d4⟩
  case af =>
    intro j hj a3 w3 hs
    obtain ⟨x14, x20, x21, x7, rfl, D3, h1, h2, h3, hf⟩ := (hSt _ _ _ _).1 hs
    clear hs
    refine opH_of_wpH ?_
    obtain ⟨u3, eu3⟩ : ∃ u, w3.alloc (.cells (A8 (zeros 8 16)) 37) = u := ⟨_, rfl⟩
    obtain ⟨bf, du, zu⟩ := new1 _ _ _ _ eu3
    obtain ⟨pf, hpf⟩ : ∃ g, g = w3.heap.size := ⟨_, rfl⟩
    refine h_made (v := .pointer (some ⟨pf, 0, none⟩)) (w' := u3) rfl (by rw [hpf]; go_simp; exact eu3) du ?_
    simp only [Act.put, List.setIfInBounds_toArray, List.set_cons_succ, List.set_cons_zero]
    rw [← hpf] at bf
    exact h_nil ((hSt _ _ _ _).2 ⟨_, _, _, _, rfl, D3.trans (du.mono D3.size), h1, h2, h3, fun _ => ⟨pf, rfl, by rw [hpf]; exact D3.size, bf⟩⟩)
  case aR =>
    intro a3 w3 hs
    obtain ⟨x14, x20, x21, x7, rfl, D3, h1, h2, h3, hf⟩ := (hSt _ _ _ _).1 hs
    clear hs hSt
    obtain rfl := h1 (by decide)
    obtain rfl := h2 (by decide)
    obtain rfl := h3 (by decide)
    obtain ⟨g7, rfl, hg, bg⟩ := hf rfl
    refine c_act ?_
    refine z_storeRow bg rfl rfl (by rw [A8_size, A8_size, onel, zeros_length]) (A8_ones _) (by rw [A8_size, onel]; exact Tryz.sizeOf37 _) (fun w4 kk4 g4 s4 => ?_)
    have BD := D3.trans (grown_below g4 hg D3.size)
    refine z_nil ⟨hCe _ BD, ?_⟩
    refine c_nil (hK' _ _ ?_)
    have E4 : Below W.heap.size W w4 := ((Below.refl W.heap.size W).drew).trans BD
    have O4 := Lib.hid kk4
    have P4 := Lib.hid (P0.out.belowAll E4)
    have B4 := Lib.hid (B0.out.trans (E4.mono B0.out.size))
    have T4 := Lib.hid (T0.out.below E4)
    have M4 := Lib.hid (M0.out.below E4)
    have R4 := Lib.hid (R0.out.below E4)
    have D4 := Lib.hid (D0.out.below E4)
    have G4 := Lib.hid (G0.out.below E4)
    clear hK' hC0 hCb hCe BD D3  hf bg g4 s4 E4 kk4 h1 h2 P0 B0 T0 M0 R0 D0 G0
    have r1 := P4.out.row
    have r2 := O4.out.row
    have cc : w4.cell? ⟨w.heap.size, 512, none⟩ = some (.slice (some ⟨g, 0, none⟩) R cr) := by rw [P4.out.cell]; exact C3.out
    go_wp2_with fail
    refine (refEncrypt_any X TT KT L one g cr R w4 BX.out R4.out onel hR3 hR100).mono ?_
    rintro e wz ⟨rfl, dz⟩
    rw [show encS L R one = two from Htwo.out.symm]
    obtain ⟨w5, hw5⟩ : ∃ U, U = wz.alloc (.cells (A8 two) 37) := ⟨_, rfl⟩
    have E5 : Below w4.heap.size w4 w5 := by rw [hw5]; exact dz.alloc dz.size _
    have J0 := Blk.new wz 37 (A8 two)
    rw [← hw5] at J0
    have J5 := Lib.hid J0
    have HW5 := Lib.hid hw5
    have P5 := Lib.hid (P4.out.belowAll E5)
    have B5 := Lib.hid (B4.out.trans (E5.mono B4.out.size))
    have T5 := Lib.hid (T4.out.below E5)
    have M5 := Lib.hid (M4.out.below E5)
    have R5 := Lib.hid (R4.out.below E5)
    have D5 := Lib.hid (D4.out.below E5)
    have G5 := Lib.hid (G4.out.below E5)
    have O5 := Lib.hid (O4.out.belowAll E5)
    clear dz E5 J0 hw5 r1 r2 cc P4 B4 T4 M4 R4 D4 G4 O4
    go_upto_region 3 with fail
    rw [← HW5.out]
    clear HW5
    obtain ⟨g8_, hg8⟩ : ∃ z, z = wz.heap.size := ⟨_, rfl⟩
    rw [← hg8] at J5 ⊢
    clear hg8
    refine wp_region_order [5,5,2,0,5,2,2,3] [0,1,3,4] [(2, 2, _), (5, 2, _), (6, 2, _)] (fun i => if i = 5 then [2] else []) [7] [_, _, _, _] [_] [5,5,0,5] [3] 3 rfl rfl rfl (by kernel_rfl) (by kernel_rfl) (by kernel_rfl) rfl rfl rfl (fun C0 hC0 hCb hCe K' hK' => ?_)
    have Q1 : ∀ w1, C0 w1 → rowAt w1 w.heap.size = CC := fun w1 hw => (P5.out.drew.belowAll (hCb w1 hw)).row
    have Q2 : ∀ w1, C0 w1 → rowAt w1 g7 = A8 one := fun w1 hw => (O5.out.drew.belowAll (hCb w1 hw)).row
    have Q3 : ∀ w1, C0 w1 → rowAt w1 g8_ = A8 two := fun w1 hw => (J5.out.drew.belowAll (hCb w1 hw)).row
    repeat
      first
        | ((with_reducible refine h_pure (v := ?_) (a' := ?_) ?_ (fun _ => ?_) ?_ ?_); rotate_left; rotate_left; (focus (exact rfl)); (focus (go_simp; (try go_bits); exact rfl)); (focus (simp only [Act.put, List.setIfInBounds_toArray, List.set_cons_succ, List.set_cons_zero, Act.eval, Array.getD_eq_getD_getElem?, List.getElem?_toArray, List.getElem?_cons_succ, List.getElem?_cons_zero, Option.getD_some]; exact rfl)))
        | ((with_reducible refine h_obl (v := ?_) (a' := ?_) ?_ (fun _ hcw => ?_) ?_ ?_); rotate_left; rotate_left; (focus (exact rfl)); (focus (have fQ1 := Q1 _ hcw; have fQ2 := Q2 _ hcw; have fQ3 := Q3 _ hcw; go_simp; (try go_bits); exact rfl)); (focus (simp only [Act.put, List.setIfInBounds_toArray, List.set_cons_succ, List.set_cons_zero, Act.eval, Array.getD_eq_getD_getElem?, List.getElem?_toArray, List.getElem?_cons_succ, List.getElem?_cons_zero, Option.getD_some]; exact rfl)))
        | ((with_reducible refine h_read (v := ?_) (a' := ?_) ?_ (fun _ hbw => ?_) ?_ ?_); rotate_left; rotate_left; (focus (exact rfl)); (focus (skip; go_simp; (try go_bits); exact rfl)); (focus (simp only [Act.put, List.setIfInBounds_toArray, List.set_cons_succ, List.set_cons_zero, Act.eval, Array.getD_eq_getD_getElem?, List.getElem?_toArray, List.getElem?_cons_succ, List.getElem?_cons_zero, Option.getD_some]; exact rfl)))
    refine h_nil ?_
    clear Q1 Q2 Q3
    generalize hAct : Act.mk _ _ = act
    obtain ⟨u, rfl⟩ : ∃ u : Nat → Value, act = { tmps := (fun u : Nat → Value => (u 0 :: Value.slice a n c :: Value.slice (some ⟨bk, bo, none⟩) m d :: Value.pointer (some ⟨w.heap.size, 0, none⟩) :: u 4 :: u 5 :: u 6 :: Value.pointer (some ⟨g7, 0, none⟩) :: Value.pointer (some ⟨g8_, 0, none⟩) :: u 9 :: u 10 :: u 11 :: u 12 :: u 13 :: u 14 :: u 15 :: u 16 :: u 17 :: u 18 :: u 19 :: u 20 :: u 21 :: u 22 :: u 23 :: u 24 :: u 25 :: u 26 :: u 27 :: Value.agg (A8 one) :: Value.agg (A8 two) :: u 30 :: u 31 :: Value.agg (A8 lk) :: u 33 :: u 34 :: u 35 :: u 36 :: u 37 :: u 38 :: u 39 :: u 40 :: u 41 :: u 42 :: u 43 :: u 44 :: u 45 :: u 46 :: u 47 :: u 48 :: u 49 :: u 50 :: u 51 :: u 52 :: u 53 :: []).toArray) u, defers := [] } := by
      subst hAct; exact ex_frame _ rfl
    clear hAct
    obtain ⟨St, hSt⟩ : ∃ St : Nat → Bool → Act → World → Prop, ∀ kk fr a' w', St kk fr a' w' ↔ (∃ x30 x33 x9 : Value, a' = { tmps := (u 0 :: Value.slice a n c :: Value.slice (some ⟨bk, bo, none⟩) m d :: Value.pointer (some ⟨w.heap.size, 0, none⟩) :: u 4 :: u 5 :: u 6 :: Value.pointer (some ⟨g7, 0, none⟩) :: Value.pointer (some ⟨g8_, 0, none⟩) :: x9 :: u 10 :: u 11 :: u 12 :: u 13 :: u 14 :: u 15 :: u 16 :: u 17 :: u 18 :: u 19 :: u 20 :: u 21 :: u 22 :: u 23 :: u 24 :: u 25 :: u 26 :: u 27 :: Value.agg (A8 one) :: Value.agg (A8 two) :: x30 :: u 31 :: Value.agg (A8 lk) :: x33 :: u 34 :: u 35 :: u 36 :: u 37 :: u 38 :: u 39 :: u 40 :: u 41 :: u 42 :: u 43 :: u 44 :: u 45 :: u 46 :: u 47 :: u 48 :: u 49 :: u 50 :: u 51 :: u 52 :: u 53 :: []).toArray, defers := [] } ∧ Below w5.drew.heap.size w5.drew w' ∧ (1 ≤ kk → x30 = .agg (A8 mid)) ∧ (2 ≤ kk → x33 = .agg (A8 st)) ∧ (fr = true → ∃ g, x9 = .pointer (some ⟨g, 0, none⟩) ∧ w5.heap.size ≤ g ∧ Blk w' g 37 (A8 (zeros 8 16)))) := ⟨_, fun _ _ _ _ => Iff.rfl⟩
    refine permHO_chain (St := St) [_, _] _ 0 ⟨?bs1, ?bs2, trivial⟩ ?bf ?bch ?bnd ?bR _ _ ?b0
    case b0 => exact (hSt _ _ _ _).2 ⟨_, _, _, rfl, Below.refl _ _, fun h => by omega, fun h => by omega, fun h => by cases h⟩
    case bch => exact ⟨by decide, trivial⟩
    case bnd => decide
    case bs1 =>
      intro fr a3 w3 hs
      obtain ⟨x30, x33, x9, rfl, D3, h1, h2, hf⟩ := (hSt _ _ _ _).1 hs
      clear hs
      refine opH_of_wpH ?_
      (with_reducible refine h_call ?_ ?_)
      · exact rfl
      go_simp
      refine entersW_of ?_
      refine (refSixteen_any one two w3 onel twol).mono ?_
      rintro e w4 ⟨rfl, d4⟩
      refine ⟨_, rfl, d4, ?_⟩
      try simp only [Act.put, List.setIfInBounds_toArray, List.set_cons_succ, List.set_cons_zero]
      rw [← Hmid.out]
      refine h_nil ((hSt _ _ _ _).2 ⟨_, _, _, rfl, D3.trans (d4.mono D3.size), fun _ => rfl, fun h => by omega, fun e => ?_⟩)
      obtain ⟨g, e1, e2, e3⟩ := hf e
      exact ⟨g, e1, e2, e3.belowAll d4⟩
    case bs2 =>
      intro fr a3 w3 hs
      obtain ⟨x30, x33, x9, rfl, D3, h1, h2, hf⟩ := (hSt _ _ _ _).1 hs
      clear hs
      obtain rfl := h1 (by omega)
      refine opH_of_wpH ?_
      (with_reducible refine h_call ?_ ?_)
      · exact rfl
      go_simp
      refine entersW_of ?_
      refine (refSixteen_any mid lk w3 midl hlk).mono ?_
      rintro e w4 ⟨rfl, d4⟩
      refine ⟨_, rfl, d4, ?_⟩
      try simp only [Act.put, List.setIfInBounds_toArray, List.set_cons_succ, List.set_cons_zero]
      rw [← Hst.out]
      refine h_nil ((hSt _ _ _ _).2 ⟨_, _, _, rfl, D3.trans (d4.mono D3.size), fun _ => rfl, fun _ => rfl, fun e => ?_⟩)
      obtain ⟨g, e1, e2, e3⟩ := hf e
      exact ⟨g, e1, e2, e3.belowAll d4⟩
    case bf =>
      intro j hj a3 w3 hs
      obtain ⟨x30, x33, x9, rfl, D3, h1, h2, hf⟩ := (hSt _ _ _ _).1 hs
      clear hs
      refine opH_of_wpH ?_
      obtain ⟨u3, eu3⟩ : ∃ u, w3.alloc (.cells (A8 (zeros 8 16)) 37) = u := ⟨_, rfl⟩
      obtain ⟨bf, du, zu⟩ := new1 _ _ _ _ eu3
      obtain ⟨pf, hpf⟩ : ∃ g, g = w3.heap.size := ⟨_, rfl⟩
      refine h_made (v := .pointer (some ⟨pf, 0, none⟩)) (w' := u3) rfl (by rw [hpf]; go_simp; exact eu3) du ?_
      simp only [Act.put, List.setIfInBounds_toArray, List.set_cons_succ, List.set_cons_zero]
      rw [← hpf] at bf
      exact h_nil ((hSt _ _ _ _).2 ⟨_, _, _, rfl, D3.trans (du.mono D3.size), h1, h2, fun _ => ⟨pf, rfl, by rw [hpf]; exact D3.size, bf⟩⟩)
    case bR =>
      intro a3 w3 hs
      obtain ⟨x30, x33, x9, rfl, D3, h1, h2, hf⟩ := (hSt _ _ _ _).1 hs
      clear hs hSt
      obtain rfl := h1 (by decide)
      obtain rfl := h2 (by decide)
      obtain ⟨g9, rfl, hg, bg⟩ := hf rfl
      refine c_act ?_
      refine z_storeRow bg rfl rfl (by rw [A8_size, A8_size, stl, zeros_length]) (A8_ones _) (by rw [A8_size, stl]; exact Tryz.sizeOf37 _) (fun w6 kk4 g4 s4 => ?_)
      have BD := D3.trans (grown_below g4 hg D3.size)
      refine z_nil ⟨hCe _ BD, ?_⟩
      refine c_nil (hK' _ _ ?_)
      have E4 : Below w5.heap.size w5 w6 := ((Below.refl w5.heap.size w5).drew).trans BD
      have I6 := Lib.hid kk4
      have P6 := Lib.hid (P5.out.belowAll E4)
      have B6 := Lib.hid (B5.out.trans (E4.mono B5.out.size))
      have T6 := Lib.hid (T5.out.below E4)
      have M6 := Lib.hid (M5.out.below E4)
      have R6 := Lib.hid (R5.out.below E4)
      have D6 := Lib.hid (D5.out.below E4)
      have G6 := Lib.hid (G5.out.below E4)
      have J6 := Lib.hid (J5.out.belowAll E4)
      have O6 := Lib.hid (O5.out.belowAll E4)
      clear hK' hC0 hCb hCe BD D3  hf bg g4 s4 E4 kk4 h1 h2 P5 B5 T5 M5 R5 D5 G5 J5 O5
      go_upto_region 4 with fail
      refine wp_region_tail [0,5,0,5,5,0,0,2,0] (by kernel_rfl) (by kernel_rfl) (fun C0 hC0 hCb K' hK' => ?_)
      have Q1 : ∀ w1, C0 w1 → rowAt w1 w.heap.size = CC := fun w1 hw => (P6.out.drew.belowAll (hCb w1 hw)).row
      have Q2 : ∀ w1, C0 w1 → w1.cell? ⟨w.heap.size, 512, none⟩ = some (.slice (some ⟨g, 0, none⟩) R cr) := fun w1 hw => by rw [(P6.out.drew.belowAll (hCb w1 hw)).cell]; exact C3.out
      have Q3 : ∀ w1, C0 w1 → rowAt w1 g9 = A8 st := fun w1 hw => (I6.out.drew.belowAll (hCb w1 hw)).row
      repeat
        first
          | ((with_reducible refine h_pure (v := ?_) (a' := ?_) ?_ (fun _ => ?_) ?_ ?_); rotate_left; rotate_left; (focus (exact rfl)); (focus (go_simp; (try go_bits); exact rfl)); (focus (simp only [Act.put, List.setIfInBounds_toArray, List.set_cons_succ, List.set_cons_zero, Act.eval, Array.getD_eq_getD_getElem?, List.getElem?_toArray, List.getElem?_cons_succ, List.getElem?_cons_zero, Option.getD_some]; exact rfl)))
          | ((with_reducible refine h_obl (v := ?_) (a' := ?_) ?_ (fun _ hcw => ?_) ?_ ?_); rotate_left; rotate_left; (focus (exact rfl)); (focus (have f1 := Q1 _ hcw; have f2 := Q2 _ hcw; have f3 := Q3 _ hcw; go_simp; (try go_bits); exact rfl)); (focus (simp only [Act.put, List.setIfInBounds_toArray, List.set_cons_succ, List.set_cons_zero, Act.eval, Array.getD_eq_getD_getElem?, List.getElem?_toArray, List.getElem?_cons_succ, List.getElem?_cons_zero, Option.getD_some]; exact rfl)))
          | ((with_reducible refine h_read (v := ?_) (a' := ?_) ?_ (fun _ hbw => ?_) ?_ ?_); rotate_left; rotate_left; (focus (exact rfl)); (focus (skip; go_simp; (try go_bits); exact rfl)); (focus (simp only [Act.put, List.setIfInBounds_toArray, List.set_cons_succ, List.set_cons_zero, Act.eval, Array.getD_eq_getD_getElem?, List.getElem?_toArray, List.getElem?_cons_succ, List.getElem?_cons_zero, Option.getD_some]; exact rfl)))
      (with_reducible refine h_call ?_ ?_)
      · exact rfl
      go_simp
      refine entersW_of ?_
      refine (refXCrypt_any X TT KT L st blx bA g cr R (m - 16) (d - 16) w6.drew BX.out R6.out.drew stl hR3 hR100 D6.out.drew (by omega)).mono ?_
      rintro e w7 ⟨v7, rfl, o7, d7⟩
      refine ⟨_, rfl, d7, ?_⟩
      try simp only [Act.put, List.setIfInBounds_toArray, List.set_cons_succ, List.set_cons_zero]
      rw [← Hbly.out] at o7
      obtain ⟨ay, cy, rfl, r7, _⟩ := o7.rd
      rw [blyl] at r7 ⊢
      repeat
        first
          | ((with_reducible refine h_pure (v := ?_) (a' := ?_) ?_ (fun _ => ?_) ?_ ?_); rotate_left; rotate_left; (focus (exact rfl)); (focus (go_simp; (try go_bits); exact rfl)); (focus (simp only [Act.put, List.setIfInBounds_toArray, List.set_cons_succ, List.set_cons_zero, Act.eval, Array.getD_eq_getD_getElem?, List.getElem?_toArray, List.getElem?_cons_succ, List.getElem?_cons_zero, Option.getD_some]; exact rfl)))
          | ((with_reducible refine h_obl (v := ?_) (a' := ?_) ?_ (fun _ hcw => ?_) ?_ ?_); rotate_left; rotate_left; (focus (exact rfl)); (focus (skip; go_simp; (try go_bits); exact rfl)); (focus (simp only [Act.put, List.setIfInBounds_toArray, List.set_cons_succ, List.set_cons_zero, Act.eval, Array.getD_eq_getD_getElem?, List.getElem?_toArray, List.getElem?_cons_succ, List.getElem?_cons_zero, Option.getD_some]; exact rfl)))
          | ((with_reducible refine h_read (v := ?_) (a' := ?_) ?_ (fun _ hbw => ?_) ?_ ?_); rotate_left; rotate_left; (focus (exact rfl)); (focus (skip; go_simp; (try go_bits); exact rfl)); (focus (simp only [Act.put, List.setIfInBounds_toArray, List.set_cons_succ, List.set_cons_zero, Act.eval, Array.getD_eq_getD_getElem?, List.getElem?_toArray, List.getElem?_cons_succ, List.getElem?_cons_zero, Option.getD_some]; exact rfl)))
      refine h_tail [] rfl (by simp) (z_nil (hK' _ _ ?_))
      have E7 : Below w6.heap.size w6 w7 := ((Below.refl w6.heap.size w6).drew).trans d7
      have AA8 := Lib.hid r7
      have P8 := Lib.hid (P6.out.belowAll E7)
      have B8 := Lib.hid (B6.out.trans (E7.mono B6.out.size))
      have T8 := Lib.hid (T6.out.below E7)
      have M8 := Lib.hid (M6.out.below E7)
      have R8 := Lib.hid (R6.out.below E7)
      have D8 := Lib.hid (D6.out.below E7)
      have G8 := Lib.hid (G6.out.below E7)
      have J8 := Lib.hid (J6.out.belowAll E7)
      clear Q1 Q2 Q3 hC0 hCb hK' o7 r7 d7 E7 I6 eA i1 i2 i3 P6 B6 T6 M6 R6 D6 G6 J6 O6
      have w8e : w7 = w7 := rfl
      go_upto_region 5 with fail
      refine wp_region_order [5,0,5,0,0,2,2,2,3] [0,1,2,3,4] [(5, 2, _), (6, 2, _), (7, 2, _)] (fun i => if i = 6 then [5] else []) [8] [_, _, _, _, _] [_] [5,0,5,0,0] [3] 3 rfl rfl rfl (by kernel_rfl) (by kernel_rfl) (by kernel_rfl) rfl rfl rfl (fun C0 hC0 hCb hCe K' hK' => ?_)
      have Q1 : ∀ w1, C0 w1 → rowAt w1 w.heap.size = CC := fun w1 hw => (P8.out.drew.belowAll (hCb w1 hw)).row
      have Q2 : ∀ w1, C0 w1 → rowAt w1 g8_ = A8 two := fun w1 hw => (J8.out.drew.belowAll (hCb w1 hw)).row
      repeat
        first
          | ((with_reducible refine h_pure (v := ?_) (a' := ?_) ?_ (fun _ => ?_) ?_ ?_); rotate_left; rotate_left; (focus (exact rfl)); (focus (go_simp; (try go_bits); exact rfl)); (focus (simp only [Act.put, List.setIfInBounds_toArray, List.set_cons_succ, List.set_cons_zero, Act.eval, Array.getD_eq_getD_getElem?, List.getElem?_toArray, List.getElem?_cons_succ, List.getElem?_cons_zero, Option.getD_some]; exact rfl)))
          | ((with_reducible refine h_obl (v := ?_) (a' := ?_) ?_ (fun _ hcw => ?_) ?_ ?_); rotate_left; rotate_left; (focus (exact rfl)); (focus (have fQ1 := Q1 _ hcw; have fQ2 := Q2 _ hcw; go_simp; (try go_bits); exact rfl)); (focus (simp only [Act.put, List.setIfInBounds_toArray, List.set_cons_succ, List.set_cons_zero, Act.eval, Array.getD_eq_getD_getElem?, List.getElem?_toArray, List.getElem?_cons_succ, List.getElem?_cons_zero, Option.getD_some]; exact rfl)))
          | ((with_reducible refine h_read (v := ?_) (a' := ?_) ?_ (fun _ hbw => ?_) ?_ ?_); rotate_left; rotate_left; (focus (exact rfl)); (focus (skip; go_simp; (try go_bits); exact rfl)); (focus (simp only [Act.put, List.setIfInBounds_toArray, List.set_cons_succ, List.set_cons_zero, Act.eval, Array.getD_eq_getD_getElem?, List.getElem?_toArray, List.getElem?_cons_succ, List.getElem?_cons_zero, Option.getD_some]; exact rfl)))
      refine h_nil ?_
      clear Q1 Q2
      generalize hAct : Act.mk _ _ = act
      obtain ⟨u, rfl⟩ : ∃ u : Nat → Value, act = { tmps := (fun u : Nat → Value => (u 0 :: Value.slice a n c :: Value.slice (some ⟨bk, bo, none⟩) m d :: Value.pointer (some ⟨w.heap.size, 0, none⟩) :: u 4 :: u 5 :: u 6 :: Value.pointer (some ⟨g7, 0, none⟩) :: Value.pointer (some ⟨g8_, 0, none⟩) :: Value.pointer (some ⟨g9, 0, none⟩) :: Value.slice ay (m - 16) cy :: u 11 :: u 12 :: u 13 :: u 14 :: u 15 :: u 16 :: u 17 :: u 18 :: u 19 :: u 20 :: u 21 :: u 22 :: u 23 :: u 24 :: u 25 :: u 26 :: u 27 :: u 28 :: u 29 :: u 30 :: u 31 :: u 32 :: u 33 :: u 34 :: u 35 :: u 36 :: u 37 :: u 38 :: u 39 :: u 40 :: u 41 :: Value.agg (A8 two) :: u 43 :: Value.agg (A8 hk) :: Value.slice a n c :: Value.slice ay (m - 16) cy :: u 47 :: u 48 :: u 49 :: u 50 :: u 51 :: u 52 :: u 53 :: []).toArray) u, defers := [] } := by
        subst hAct; exact ex_frame _ rfl
      clear hAct
      obtain ⟨St, hSt⟩ : ∃ St : Nat → Bool → Act → World → Prop, ∀ kk fr a' w', St kk fr a' w' ↔ (∃ x47 x48 x11 : Value, a' = { tmps := (u 0 :: Value.slice a n c :: Value.slice (some ⟨bk, bo, none⟩) m d :: Value.pointer (some ⟨w.heap.size, 0, none⟩) :: u 4 :: u 5 :: u 6 :: Value.pointer (some ⟨g7, 0, none⟩) :: Value.pointer (some ⟨g8_, 0, none⟩) :: Value.pointer (some ⟨g9, 0, none⟩) :: Value.slice ay (m - 16) cy :: x11 :: u 12 :: u 13 :: u 14 :: u 15 :: u 16 :: u 17 :: u 18 :: u 19 :: u 20 :: u 21 :: u 22 :: u 23 :: u 24 :: u 25 :: u 26 :: u 27 :: u 28 :: u 29 :: u 30 :: u 31 :: u 32 :: u 33 :: u 34 :: u 35 :: u 36 :: u 37 :: u 38 :: u 39 :: u 40 :: u 41 :: Value.agg (A8 two) :: u 43 :: Value.agg (A8 hk) :: Value.slice a n c :: Value.slice ay (m - 16) cy :: x47 :: x48 :: u 49 :: u 50 :: u 51 :: u 52 :: u 53 :: []).toArray, defers := [] } ∧ Below w7.drew.heap.size w7.drew w' ∧ (1 ≤ kk → x47 = .agg (A8 ha2)) ∧ (2 ≤ kk → x48 = .agg (A8 fst)) ∧ (fr = true → ∃ g, x11 = .pointer (some ⟨g, 0, none⟩) ∧ w7.heap.size ≤ g ∧ Blk w' g 37 (A8 (zeros 8 16)))) := ⟨_, fun _ _ _ _ => Iff.rfl⟩
      refine permHO_chain (St := St) [_, _] _ 0 ⟨?cs1, ?cs2, trivial⟩ ?cf ?cch ?cnd ?cR _ _ ?c0
      case c0 => exact (hSt _ _ _ _).2 ⟨_, _, _, rfl, Below.refl _ _, fun h => by omega, fun h => by omega, fun h => by cases h⟩
      case cch => exact ⟨by decide, trivial⟩
      case cnd => decide
      case cs1 =>
        intro fr a3 w3 hs
        obtain ⟨x47, x48, x11, rfl, D3, h1, h2, hf⟩ := (hSt _ _ _ _).1 hs
        clear hs
        refine opH_of_wpH ?_
        (with_reducible refine h_call ?_ ?_)
        · exact rfl
        go_simp
        refine entersW_of ?_
        refine (refHash_any hk T bly a ay n c (m - 16) cy w3 hhk (T8.out.drew.below D3) (AA8.out.drew.below D3) hn (by omega)).mono ?_
        rintro e w4 ⟨rfl, d4⟩
        refine ⟨_, rfl, d4, ?_⟩
        try simp only [Act.put, List.setIfInBounds_toArray, List.set_cons_succ, List.set_cons_zero]
        rw [← Hha2.out]
        refine h_nil ((hSt _ _ _ _).2 ⟨_, _, _, rfl, D3.trans (d4.mono D3.size), fun _ => rfl, fun h => by omega, fun e => ?_⟩)
        obtain ⟨g, e1, e2, e3⟩ := hf e
        exact ⟨g, e1, e2, e3.belowAll d4⟩
      case cs2 =>
        intro fr a3 w3 hs
        obtain ⟨x47, x48, x11, rfl, D3, h1, h2, hf⟩ := (hSt _ _ _ _).1 hs
        clear hs
        obtain rfl := h1 (by omega)
        refine opH_of_wpH ?_
        (with_reducible refine h_call ?_ ?_)
        · exact rfl
        go_simp
        refine entersW_of ?_
        refine (refSixteen_any two ha2 w3 twol ha2l).mono ?_
        rintro e w4 ⟨rfl, d4⟩
        refine ⟨_, rfl, d4, ?_⟩
        try simp only [Act.put, List.setIfInBounds_toArray, List.set_cons_succ, List.set_cons_zero]
        rw [← Hfst.out]
        refine h_nil ((hSt _ _ _ _).2 ⟨_, _, _, rfl, D3.trans (d4.mono D3.size), fun _ => rfl, fun _ => rfl, fun e => ?_⟩)
        obtain ⟨g, e1, e2, e3⟩ := hf e
        exact ⟨g, e1, e2, e3.belowAll d4⟩
      case cf =>
        intro j hj a3 w3 hs
        obtain ⟨x47, x48, x11, rfl, D3, h1, h2, hf⟩ := (hSt _ _ _ _).1 hs
        clear hs
        refine opH_of_wpH ?_
        obtain ⟨u3, eu3⟩ : ∃ u, w3.alloc (.cells (A8 (zeros 8 16)) 37) = u := ⟨_, rfl⟩
        obtain ⟨bf, du, zu⟩ := new1 _ _ _ _ eu3
        obtain ⟨pf, hpf⟩ : ∃ g, g = w3.heap.size := ⟨_, rfl⟩
        refine h_made (v := .pointer (some ⟨pf, 0, none⟩)) (w' := u3) rfl (by rw [hpf]; go_simp; exact eu3) du ?_
        simp only [Act.put, List.setIfInBounds_toArray, List.set_cons_succ, List.set_cons_zero]
        rw [← hpf] at bf
        exact h_nil ((hSt _ _ _ _).2 ⟨_, _, _, rfl, D3.trans (du.mono D3.size), h1, h2, fun _ => ⟨pf, rfl, by rw [hpf]; exact D3.size, bf⟩⟩)
      case cR =>
        intro a3 w3 hs
        obtain ⟨x47, x48, x11, rfl, D3, h1, h2, hf⟩ := (hSt _ _ _ _).1 hs
        clear hs hSt
        obtain rfl := h1 (by decide)
        obtain rfl := h2 (by decide)
        obtain ⟨g11, rfl, hg, bg⟩ := hf rfl
        refine c_act ?_
        refine z_storeRow bg rfl rfl (by rw [A8_size, A8_size, fstl, zeros_length]) (A8_ones _) (by rw [A8_size, fstl]; exact Tryz.sizeOf37 _) (fun w9 kk4 g4 s4 => ?_)
        have BD := D3.trans (grown_below g4 hg D3.size)
        refine z_nil ⟨hCe _ BD, ?_⟩
        refine c_nil (hK' _ _ ?_)
        have E4 : Below w7.heap.size w7 w9 := ((Below.refl w7.heap.size w7).drew).trans BD
        have O5 := Lib.hid kk4
        have B9 := Lib.hid (B8.out.trans (E4.mono B8.out.size))
        have AA9 := Lib.hid (AA8.out.below E4)
        clear hK' hC0 hCb hCe BD D3  hf bg g4 s4 E4 kk4 h1 h2 P8 T8 M8 R8 D8 G8 J8 AA8 B8
        have rf := O5.out.rd8 16 (by rw [fstl]; exact Nat.le_refl _) (by rw [fstl]; unfold maxLen; omega)
        rw [List.take_of_length_le (by omega)] at rf
        rw [fstl] at rf
        have RF := Lib.hid rf
        clear rf
        go_upto_region 6 with fail
        refine wp_region_plain [2,0,2,0,2,0] rfl (fun ops' K4 hK4 => ?_)
        refine z_build0 (B := w9.heap.size) (Nat.le_refl _) Tryz.underlying23 info8 (fun wa va oa ba => ?_)
        simp only [Act.put, List.setIfInBounds_toArray, List.set_cons_succ, List.set_cons_zero]
        repeat
          first
            | ((with_reducible refine z_move (a' := ?_) ?_ ?_); rotate_left; · (simp only [Act.put, List.setIfInBounds_toArray, List.set_cons_succ, List.set_cons_zero, Act.eval, Array.getD_eq_getD_getElem?, List.getElem?_toArray, List.getElem?_cons_succ, List.getElem?_cons_zero, Option.getD_some]; exact rfl))
            | ((with_reducible refine z_assign (a' := ?_) ?_ ?_); rotate_left; · (simp only [Act.put, List.setIfInBounds_toArray, List.set_cons_succ, List.set_cons_zero, Act.eval, Array.getD_eq_getD_getElem?, List.getElem?_toArray, List.getElem?_cons_succ, List.getElem?_cons_zero, Option.getD_some]; exact rfl))
            | ((with_reducible refine z_obl (v := ?_) (a' := ?_) rfl (fun _ => ?_) ?_ ?_); rotate_left; rotate_left; (focus (go_simp; (try go_bits); exact rfl)); (focus (simp only [Act.put, List.setIfInBounds_toArray, List.set_cons_succ, List.set_cons_zero, Act.eval, Array.getD_eq_getD_getElem?, List.getElem?_toArray, List.getElem?_cons_succ, List.getElem?_cons_zero, Option.getD_some]; exact rfl)))
            | ((with_reducible refine z_read (v := ?_) (a' := ?_) rfl ?_ ?_ ?_); rotate_left; rotate_left; (focus (go_simp; (try go_bits); exact rfl)); (focus (simp only [Act.put, List.setIfInBounds_toArray, List.set_cons_succ, List.set_cons_zero, Act.eval, Array.getD_eq_getD_getElem?, List.getElem?_toArray, List.getElem?_cons_succ, List.getElem?_cons_zero, Option.getD_some]; exact rfl)))
        refine z_append8 oa (RF.out.below ba) rfl rfl Tryz.underlying23 info8 (by simp) ba.size (fun wb vb ob gb bb => ?_)
        simp only [Act.put, List.setIfInBounds_toArray, List.set_cons_succ, List.set_cons_zero]
        rw [List.nil_append] at ob
        repeat
          first
            | ((with_reducible refine z_move (a' := ?_) ?_ ?_); rotate_left; · (simp only [Act.put, List.setIfInBounds_toArray, List.set_cons_succ, List.set_cons_zero, Act.eval, Array.getD_eq_getD_getElem?, List.getElem?_toArray, List.getElem?_cons_succ, List.getElem?_cons_zero, Option.getD_some]; exact rfl))
            | ((with_reducible refine z_assign (a' := ?_) ?_ ?_); rotate_left; · (simp only [Act.put, List.setIfInBounds_toArray, List.set_cons_succ, List.set_cons_zero, Act.eval, Array.getD_eq_getD_getElem?, List.getElem?_toArray, List.getElem?_cons_succ, List.getElem?_cons_zero, Option.getD_some]; exact rfl))
            | ((with_reducible refine z_obl (v := ?_) (a' := ?_) rfl (fun _ => ?_) ?_ ?_); rotate_left; rotate_left; (focus (go_simp; (try go_bits); exact rfl)); (focus (simp only [Act.put, List.setIfInBounds_toArray, List.set_cons_succ, List.set_cons_zero, Act.eval, Array.getD_eq_getD_getElem?, List.getElem?_toArray, List.getElem?_cons_succ, List.getElem?_cons_zero, Option.getD_some]; exact rfl)))
            | ((with_reducible refine z_read (v := ?_) (a' := ?_) rfl ?_ ?_ ?_); rotate_left; rotate_left; (focus (go_simp; (try go_bits); exact rfl)); (focus (simp only [Act.put, List.setIfInBounds_toArray, List.set_cons_succ, List.set_cons_zero, Act.eval, Array.getD_eq_getD_getElem?, List.getElem?_toArray, List.getElem?_cons_succ, List.getElem?_cons_zero, Option.getD_some]; exact rfl)))
        have Bb := ba.trans bb
        refine z_append8 ob (AA9.out.below Bb) rfl rfl Tryz.underlying23 info8 (by rw [fstl]; omega) Bb.size (fun wc vc oc gc bc => ?_)
        simp only [Act.put, List.setIfInBounds_toArray, List.set_cons_succ, List.set_cons_zero]
        repeat
          first
            | ((with_reducible refine z_move (a' := ?_) ?_ ?_); rotate_left; · (simp only [Act.put, List.setIfInBounds_toArray, List.set_cons_succ, List.set_cons_zero, Act.eval, Array.getD_eq_getD_getElem?, List.getElem?_toArray, List.getElem?_cons_succ, List.getElem?_cons_zero, Option.getD_some]; exact rfl))
            | ((with_reducible refine z_assign (a' := ?_) ?_ ?_); rotate_left; · (simp only [Act.put, List.setIfInBounds_toArray, List.set_cons_succ, List.set_cons_zero, Act.eval, Array.getD_eq_getD_getElem?, List.getElem?_toArray, List.getElem?_cons_succ, List.getElem?_cons_zero, Option.getD_some]; exact rfl))
            | ((with_reducible refine z_obl (v := ?_) (a' := ?_) rfl (fun _ => ?_) ?_ ?_); rotate_left; rotate_left; (focus (go_simp; (try go_bits); exact rfl)); (focus (simp only [Act.put, List.setIfInBounds_toArray, List.set_cons_succ, List.set_cons_zero, Act.eval, Array.getD_eq_getD_getElem?, List.getElem?_toArray, List.getElem?_cons_succ, List.getElem?_cons_zero, Option.getD_some]; exact rfl)))
            | ((with_reducible refine z_read (v := ?_) (a' := ?_) rfl ?_ ?_ ?_); rotate_left; rotate_left; (focus (go_simp; (try go_bits); exact rfl)); (focus (simp only [Act.put, List.setIfInBounds_toArray, List.set_cons_succ, List.set_cons_zero, Act.eval, Array.getD_eq_getD_getElem?, List.getElem?_toArray, List.getElem?_cons_succ, List.getElem?_cons_zero, Option.getD_some]; exact rfl)))
        refine z_nil (hK4 _ _ ?_)
        have Bc := Bb.trans bc
        have OO := Lib.hid (Own8.base oc B9.out.size)
        have BB := Lib.hid (B9.out.trans (Bc.mono B9.out.size))
        clear oa ba ob gb bb Bb oc gc bc Bc hK4
        go_wp2
        go_ret
        exact ⟨_, rfl, OO.out, BB.out⟩
set_option linter.unusedSimpArgs false in
set_option maxRecDepth 100000 in
set_option maxHeartbeats 1600000 in
theorem refDec18_any (X TT KT L hk lk T M : List (BitVec 8)) (g cr R : Nat) (a b : Option Addr) (n c m d : Nat) (w : World) (hBX : BoxL X TT KT) (hXl : X.length = 512) (hhk : hk.length = 16) (hlk : lk.length = 16) (hR : RdS w 16 (some ⟨g, 0, none⟩) R cr L) (hR3 : 3 ≤ R) (hR100 : R ≤ 100) (hT : Rd8 w a n c T) (hM : Rd8 w b m d M) (hn : n ≤ 300) (h16 : 16 ≤ m) (hm : m ≤ 520) :
    Calls Tryz.prog 14 #[.agg (C18 X (.slice (some ⟨g, 0, none⟩) R cr) (hk ++ lk)), .slice a n c, .slice b m d] w fun e w' => ∃ v, e = .returned v ∧ Own8 w' w.heap.size 5 v (doesS (decS L R) L R hk lk T M) ∧ Below w.heap.size w w' := by
  obtain ⟨CC, hCC⟩ : ∃ z, z = C18 X (.slice (some ⟨g, 0, none⟩) R cr) (hk ++ lk) := ⟨_, rfl⟩
  have k1 : CC.size = 545 := by rw [hCC]; exact C18_size hXl _ (by rw [List.length_append, hhk, hlk])
  have k2 : CC.extract 0 512 = A8 X := by rw [hCC]; exact C18_box hXl _ _
  have k3 : CC[512]? = some (.slice (some ⟨g, 0, none⟩) R cr) := by rw [hCC]; exact C18_keys hXl _ _
  have k4 : CC.extract 513 529 = A8 hk := by rw [hCC]; exact (C18_own hXl _ hk lk hhk hlk).1
  have k5 : CC.extract 529 545 = A8 lk := by rw [hCC]; exact (C18_own hXl _ hk lk hhk hlk).2
  rw [← hCC]
  clear hCC
  have hMl := hM.1
  obtain ⟨W, hW⟩ : ∃ W, w.alloc (.cells CC 39) = W := ⟨_, rfl⟩
  obtain ⟨b0, hb, hz⟩ := new1 _ _ _ _ hW
  have P0 := Lib.hid b0
  have B0 := Lib.hid hb
  have T0 := Lib.hid (hT.below hb)
  have M0 := Lib.hid (hM.below hb)
  have R0 := Lib.hid (hR.below hb)
  have BX := Lib.hid hBX
  have C3 := Lib.hid k3
  clear b0 hb hz hT hM hR hBX k3
  obtain ⟨hdx, ehdx⟩ : ∃ z, z = M.take 16 := ⟨_, rfl⟩
  have hdxl : hdx.length = 16 := by rw [ehdx]; rw [List.length_take]; omega
  have Hhdx := Lib.hid ehdx
  clear ehdx
  obtain ⟨blx, eblx⟩ : ∃ z, z = M.drop 16 := ⟨_, rfl⟩
  have blxl : blx.length = m - 16 := by rw [eblx]; rw [List.length_drop, hMl]
  have Hblx := Lib.hid eblx
  clear eblx
  obtain ⟨ha1, eha1⟩ : ∃ z, z = hashB hk T blx := ⟨_, rfl⟩
  have ha1l : ha1.length = 16 := by rw [eha1]; exact hashB_length _ _ _
  have Hha1 := Lib.hid eha1
  clear eha1
  obtain ⟨one, eone⟩ : ∃ z, z = xor16 hdx ha1 := ⟨_, rfl⟩
  have onel : one.length = 16 := by rw [eone]; exact xor16_length _ _
  have Hone := Lib.hid eone
  clear eone
  obtain ⟨two, etwo⟩ : ∃ z, z = decS L R one := ⟨_, rfl⟩
  have twol : two.length = 16 := by rw [etwo]; exact decS_length _ _ _
  have Htwo := Lib.hid etwo
  clear etwo
  obtain ⟨mid, emid⟩ : ∃ z, z = xor16 two one := ⟨_, rfl⟩
  have midl : mid.length = 16 := by rw [emid]; exact xor16_length _ _
  have Hmid := Lib.hid emid
  clear emid
  obtain ⟨st, est⟩ : ∃ z, z = xor16 mid lk := ⟨_, rfl⟩
  have stl : st.length = 16 := by rw [est]; exact xor16_length _ _
  have Hst := Lib.hid est
  clear est
  obtain ⟨bly, ebly⟩ : ∃ z, z = xcrypt L R st blx := ⟨_, rfl⟩
  have blyl : bly.length = m - 16 := by rw [ebly]; rw [xcrypt_length]; exact blxl
  have Hbly := Lib.hid ebly
  clear ebly
  obtain ⟨ha2, eha2⟩ : ∃ z, z = hashB hk T bly := ⟨_, rfl⟩
  have ha2l : ha2.length = 16 := by rw [eha2]; exact hashB_length _ _ _
  have Hha2 := Lib.hid eha2
  clear eha2
  obtain ⟨fst, efst⟩ : ∃ z, z = xor16 two ha2 := ⟨_, rfl⟩
  have fstl : fst.length = 16 := by rw [efst]; exact xor16_length _ _
  have Hfst := Lib.hid efst
  clear efst
  have hdo : doesS (decS L R) L R hk lk T M = fst ++ bly := by
    have e1 : one = oneH hk T M := by rw [Hone.out, Hha1.out, Hhdx.out, Hblx.out]; rfl
    have em : mid = xor16 one two := by rw [Hmid.out, xor16_comm]
    have e2 : bly = bulkH (decS L R) L R hk lk T M := by rw [Hbly.out, Hst.out, em, Htwo.out, e1, Hblx.out]; rfl
    rw [Hfst.out, Hha2.out, e2, Htwo.out, e1]; rfl
  rw [hdo]
  clear hdo
  obtain ⟨bk, bo, rfl, _, _⟩ := M0.out.2.2.2 (by omega)
  obtain ⟨bA, eA⟩ : ∃ z, (if d = 16 then some (⟨bk, bo, none⟩ : Addr) else some ⟨bk, bo + 16, none⟩) = z := ⟨_, rfl⟩
  have mc := M0.out.cut (j := 16) (k := m) (by omega) (Nat.le_refl _)
  simp only [Option.map_some, Addr.add_lit] at mc
  rw [eA, List.take_of_length_le (by omega), ← Hblx.out] at mc
  have D0 := Lib.hid mc
  have mp := M0.out.pre (j := 16) (by omega)
  rw [← Hhdx.out] at mp
  have G0 := Lib.hid mp
  clear mc mp
  have i1 : (16 : Int) ≤ (m : Int) := by omega
  have i2 : (m : Int) ≤ (d : Int) := by have := M0.out.2.1; omega
  have i3 : (16 : Int) ≤ (d : Int) := by omega
  go_enter Tryz.func14, Tryz.ntmps14
  go_upto_region 1 with fail
  clear hW
  refine wp_region_order [0,0,2,0,5,0,0,0,2,2,2,3] [0,1,3,4,5,6,7] [(2, 2, _), (8, 2, _), (9, 2, _), (10, 2, _)] (fun i => if i = 8 then [2] else if i = 9 then [8] else []) [11] [_, _, _, _, _, _, _] [_] [0,0,0,5,0,0,0] [3] 4 rfl rfl rfl (by kernel_rfl) (by kernel_rfl) (by kernel_rfl) rfl rfl rfl (fun C0 hC0 hCb hCe K' hK' => ?_)
  have Q1 : ∀ w1, C0 w1 → rowAt w1 w.heap.size = CC := fun w1 hw => (P0.out.drew.belowAll (hCb w1 hw)).row
  repeat
    first
      | ((with_reducible refine h_pure (v := ?_) (a' := ?_) ?_ (fun _ => ?_) ?_ ?_); rotate_left; rotate_left; (focus (exact rfl)); (focus (go_simp; (try go_bits); exact rfl)); (focus (simp only [Act.put, List.setIfInBounds_toArray, List.set_cons_succ, List.set_cons_zero, Act.eval, Array.getD_eq_getD_getElem?, List.getElem?_toArray, List.getElem?_cons_succ, List.getElem?_cons_zero, Option.getD_some]; exact rfl)))
      | ((with_reducible refine h_obl (v := ?_) (a' := ?_) ?_ (fun _ hcw => ?_) ?_ ?_); rotate_left; rotate_left; (focus (exact rfl)); (focus (have fQ1 := Q1 _ hcw; go_simp; (try go_bits); exact rfl)); (focus (simp only [Act.put, List.setIfInBounds_toArray, List.set_cons_succ, List.set_cons_zero, Act.eval, Array.getD_eq_getD_getElem?, List.getElem?_toArray, List.getElem?_cons_succ, List.getElem?_cons_zero, Option.getD_some]; exact rfl)))
      | ((with_reducible refine h_read (v := ?_) (a' := ?_) ?_ (fun _ hbw => ?_) ?_ ?_); rotate_left; rotate_left; (focus (exact rfl)); (focus (skip; go_simp; (try go_bits); exact rfl)); (focus (simp only [Act.put, List.setIfInBounds_toArray, List.set_cons_succ, List.set_cons_zero, Act.eval, Array.getD_eq_getD_getElem?, List.getElem?_toArray, List.getElem?_cons_succ, List.getElem?_cons_zero, Option.getD_some]; exact rfl)))
  refine h_nil ?_
  clear Q1
  generalize hAct : Act.mk _ _ = act
  obtain ⟨u, rfl⟩ : ∃ u : Nat → Value, act = { tmps := (fun u : Nat → Value => (u 0 :: Value.slice a n c :: Value.slice (some ⟨bk, bo, none⟩) m d :: Value.pointer (some ⟨w.heap.size, 0, none⟩) :: u 4 :: u 5 :: u 6 :: u 7 :: u 8 :: u 9 :: u 10 :: u 11 :: u 12 :: Value.slice (some ⟨bk, bo, none⟩) 16 d :: u 14 :: u 15 :: Value.agg (A8 hk) :: Value.slice a n c :: u 18 :: Value.slice bA (m - 16) (d - 16) :: u 20 :: u 21 :: u 22 :: u 23 :: u 24 :: u 25 :: u 26 :: u 27 :: u 28 :: u 29 :: u 30 :: u 31 :: u 32 :: u 33 :: u 34 :: u 35 :: u 36 :: u 37 :: u 38 :: u 39 :: u 40 :: u 41 :: u 42 :: u 43 :: u 44 :: u 45 :: u 46 :: u 47 :: u 48 :: u 49 :: u 50 :: u 51 :: u 52 :: u 53 :: []).toArray) u, defers := [] } := by
    subst hAct; exact ex_frame _ rfl
  clear hAct
  obtain ⟨St, hSt⟩ : ∃ St : Nat → Bool → Act → World → Prop, ∀ kk fr a' w', St kk fr a' w' ↔ (∃ x14 x20 x21 x7 : Value, a' = { tmps := (u 0 :: Value.slice a n c :: Value.slice (some ⟨bk, bo, none⟩) m d :: Value.pointer (some ⟨w.heap.size, 0, none⟩) :: u 4 :: u 5 :: u 6 :: x7 :: u 8 :: u 9 :: u 10 :: u 11 :: u 12 :: Value.slice (some ⟨bk, bo, none⟩) 16 d :: x14 :: u 15 :: Value.agg (A8 hk) :: Value.slice a n c :: u 18 :: Value.slice bA (m - 16) (d - 16) :: x20 :: x21 :: u 22 :: u 23 :: u 24 :: u 25 :: u 26 :: u 27 :: u 28 :: u 29 :: u 30 :: u 31 :: u 32 :: u 33 :: u 34 :: u 35 :: u 36 :: u 37 :: u 38 :: u 39 :: u 40 :: u 41 :: u 42 :: u 43 :: u 44 :: u 45 :: u 46 :: u 47 :: u 48 :: u 49 :: u 50 :: u 51 :: u 52 :: u 53 :: []).toArray, defers := [] } ∧ Below W.drew.heap.size W.drew w' ∧ (1 ≤ kk → x14 = .agg (A8 hdx)) ∧ (2 ≤ kk → x20 = .agg (A8 ha1)) ∧ (3 ≤ kk → x21 = .agg (A8 one)) ∧ (fr = true → ∃ g, x7 = .pointer (some ⟨g, 0, none⟩) ∧ W.heap.size ≤ g ∧ Blk w' g 37 (A8 (zeros 8 16)))) := ⟨_, fun _ _ _ _ => Iff.rfl⟩
  refine permHO_chain (St := St) [_, _, _] _ 0 ⟨?as1, ?as2, ?as3, trivial⟩ ?af ?ach ?and ?aR _ _ ?a0
  case a0 => exact (hSt _ _ _ _).2 ⟨_, _, _, _, rfl, Below.refl _ _, fun h => by omega, fun h => by omega, fun h => by omega, fun h => by cases h⟩
  case ach => exact ⟨by decide, by decide, trivial⟩
  case and => decide
  case as1 =>
    intro fr a3 w3 hs
    obtain ⟨x14, x20, x21, x7, rfl, D3, h1, h2, h3, hf⟩ := (hSt _ _ _ _).1 hs
    clear hs
    refine opH_of_wpH ?_
    (with_reducible refine h_call ?_ ?_)
    · exact rfl
    go_simp
    refine entersW_of ?_
    refine (refBlock16_any hdx (some ⟨bk, bo, none⟩) 16 d w3 (G0.out.drew.below D3) (by omega)).mono ?_
    rintro e w4 ⟨rfl, d4⟩
    refine ⟨_, rfl, d4, ?_⟩
    try simp only [Act.put, List.setIfInBounds_toArray, List.set_cons_succ, List.set_cons_zero]
    rw [blk_id _ hdxl]
    refine h_nil ((hSt _ _ _ _).2 ⟨_, _, _, _, rfl, D3.trans (d4.mono D3.size), fun _ => rfl, fun h => by omega, fun h => by omega, fun e => ?_⟩)
    obtain ⟨g, e1, e2, e3⟩ := hf e
    exact ⟨g, e1, e2, e3.belowAll d4⟩
  case as2 =>
    intro fr a3 w3 hs
    obtain ⟨x14, x20, x21, x7, rfl, D3, h1, h2, h3, hf⟩ := (hSt _ _ _ _).1 hs
    clear hs
    obtain rfl := h1 (by omega)
    refine opH_of_wpH ?_
    (with_reducible refine h_call ?_ ?_)
    · exact rfl
    go_simp
    refine entersW_of ?_
    refine (refHash_any hk T blx a bA n c (m - 16) (d - 16) w3 hhk (T0.out.drew.below D3) (D0.out.drew.below D3) hn (by omega)).mono ?_
    rintro e w4 ⟨rfl, d4⟩
    refine ⟨_, rfl, d4, ?_⟩
    try simp only [Act.put, List.setIfInBounds_toArray, List.set_cons_succ, List.set_cons_zero]
    rw [← Hha1.out]
    refine h_nil ((hSt _ _ _ _).2 ⟨_, _, _, _, rfl, D3.trans (d4.mono D3.size), fun _ => rfl, fun _ => rfl, fun h => by omega, fun e => ?_⟩)
    obtain ⟨g, e1, e2, e3⟩ := hf e
    exact ⟨g, e1, e2, e3.belowAll d4⟩
  case as3 =>
    intro fr a3 w3 hs
    obtain ⟨x14, x20, x21, x7, rfl, D3, h1, h2, h3, hf⟩ := (hSt _ _ _ _).1 hs
    clear hs
    obtain rfl := h1 (by omega)
    obtain rfl := h2 (by omega)
    refine opH_of_wpH ?_
    (with_reducible refine h_call ?_ ?_)
    · exact rfl
    go_simp
    refine entersW_of ?_
    refine (refSixteen_any hdx ha1 w3 hdxl ha1l).mono ?_
    rintro e w4 ⟨rfl, d4⟩
    refine ⟨_, rfl, d4, ?_⟩
    try simp only [Act.put, List.setIfInBounds_toArray, List.set_cons_succ, List.set_cons_zero]
    rw [← Hone.out]
    refine h_nil ((hSt _ _ _ _).2 ⟨_, _, _, _, rfl, D3.trans (d4.mono D3.size), fun _ => rfl, fun _ => rfl, fun _ => rfl, fun e => ?_⟩)
    obtain ⟨g, e1, e2, e3⟩ := hf e
    exact ⟨g, e1, e2, e3.belowAll d4⟩
  case af =>
    intro j hj a3 w3 hs
    obtain ⟨x14, x20, x21, x7, rfl, D3, h1, h2, h3, hf⟩ := (hSt _ _ _ _).1 hs
    clear hs
    refine opH_of_wpH ?_
    obtain ⟨u3, eu3⟩ : ∃ u, w3.alloc (.cells (A8 (zeros 8 16)) 37) = u := ⟨_, rfl⟩
    obtain ⟨bf, du, zu⟩ := new1 _ _ _ _ eu3
    obtain ⟨pf, hpf⟩ : ∃ g, g = w3.heap.size := ⟨_, rfl⟩
    refine h_made (v := .pointer (some ⟨pf, 0, none⟩)) (w' := u3) rfl (by rw [hpf]; go_simp; exact eu3) du ?_
    simp only [Act.put, List.setIfInBounds_toArray, List.set_cons_succ, List.set_cons_zero]
    rw [← hpf] at bf
    exact h_nil ((hSt _ _ _ _).2 ⟨_, _, _, _, rfl, D3.trans (du.mono D3.size), h1, h2, h3, fun _ => ⟨pf, rfl, by rw [hpf]; exact D3.size, bf⟩⟩)
  case aR =>
    intro a3 w3 hs
    obtain ⟨x14, x20, x21, x7, rfl, D3, h1, h2, h3, hf⟩ := (hSt _ _ _ _).1 hs
    clear hs hSt
    obtain rfl := h1 (by decide)
    obtain rfl := h2 (by decide)
    obtain rfl := h3 (by decide)
    obtain ⟨g7, rfl, hg, bg⟩ := hf rfl
    refine c_act ?_
    refine z_storeRow bg rfl rfl (by rw [A8_size, A8_size, onel, zeros_length]) (A8_ones _) (by rw [A8_size, onel]; exact Tryz.sizeOf37 _) (fun w4 kk4 g4 s4 => ?_)
    have BD := D3.trans (grown_below g4 hg D3.size)
    refine z_nil ⟨hCe _ BD, ?_⟩
    refine c_nil (hK' _ _ ?_)
    have E4 : Below W.heap.size W w4 := ((Below.refl W.heap.size W).drew).trans BD
    have O4 := Lib.hid kk4
    have P4 := Lib.hid (P0.out.belowAll E4)
    have B4 := Lib.hid (B0.out.trans (E4.mono B0.out.size))
    have T4 := Lib.hid (T0.out.below E4)
    have M4 := Lib.hid (M0.out.below E4)
    have R4 := Lib.hid (R0.out.below E4)
    have D4 := Lib.hid (D0.out.below E4)
    have G4 := Lib.hid (G0.out.below E4)
    clear hK' hC0 hCb hCe BD D3  hf bg g4 s4 E4 kk4 h1 h2 P0 B0 T0 M0 R0 D0 G0
    have r1 := P4.out.row
    have r2 := O4.out.row
    have cc : w4.cell? ⟨w.heap.size, 512, none⟩ = some (.slice (some ⟨g, 0, none⟩) R cr) := by rw [P4.out.cell]; exact C3.out
    go_wp2_with fail
    refine (refDecrypt_any X TT KT L one g cr R w4 BX.out R4.out onel hR3 hR100).mono ?_
    rintro e wz ⟨rfl, dz⟩
    rw [show decS L R one = two from Htwo.out.symm]
    obtain ⟨w5, hw5⟩ : ∃ U, U = wz.alloc (.cells (A8 two) 37) := ⟨_, rfl⟩
    have E5 : Below w4.heap.size w4 w5 := by rw [hw5]; exact dz.alloc dz.size _
    have J0 := Blk.new wz 37 (A8 two)
    rw [← hw5] at J0
    have J5 := Lib.hid J0
    have HW5 := Lib.hid hw5
    have P5 := Lib.hid (P4.out.belowAll E5)
    have B5 := Lib.hid (B4.out.trans (E5.mono B4.out.size))
    have T5 := Lib.hid (T4.out.below E5)
    have M5 := Lib.hid (M4.out.below E5)
    have R5 := Lib.hid (R4.out.below E5)
    have D5 := Lib.hid (D4.out.below E5)
    have G5 := Lib.hid (G4.out.below E5)
    have O5 := Lib.hid (O4.out.belowAll E5)
    clear dz E5 J0 hw5 r1 r2 cc P4 B4 T4 M4 R4 D4 G4 O4
    go_upto_region 3 with fail
    rw [← HW5.out]
    clear HW5
    obtain ⟨g8_, hg8⟩ : ∃ z, z = wz.heap.size := ⟨_, rfl⟩
    rw [← hg8] at J5 ⊢
    clear hg8
    refine wp_region_order [5,5,2,0,5,2,2,3] [0,1,3,4] [(2, 2, _), (5, 2, _), (6, 2, _)] (fun i => if i = 5 then [2] else []) [7] [_, _, _, _] [_] [5,5,0,5] [3] 3 rfl rfl rfl (by kernel_rfl) (by kernel_rfl) (by kernel_rfl) rfl rfl rfl (fun C0 hC0 hCb hCe K' hK' => ?_)
    have Q1 : ∀ w1, C0 w1 → rowAt w1 w.heap.size = CC := fun w1 hw => (P5.out.drew.belowAll (hCb w1 hw)).row
    have Q2 : ∀ w1, C0 w1 → rowAt w1 g7 = A8 one := fun w1 hw => (O5.out.drew.belowAll (hCb w1 hw)).row
    have Q3 : ∀ w1, C0 w1 → rowAt w1 g8_ = A8 two := fun w1 hw => (J5.out.drew.belowAll (hCb w1 hw)).row
    repeat
      first
        | ((with_reducible refine h_pure (v := ?_) (a' := ?_) ?_ (fun _ => ?_) ?_ ?_); rotate_left; rotate_left; (focus (exact rfl)); (focus (go_simp; (try go_bits); exact rfl)); (focus (simp only [Act.put, List.setIfInBounds_toArray, List.set_cons_succ, List.set_cons_zero, Act.eval, Array.getD_eq_getD_getElem?, List.getElem?_toArray, List.getElem?_cons_succ, List.getElem?_cons_zero, Option.getD_some]; exact rfl)))
        | ((with_reducible refine h_obl (v := ?_) (a' := ?_) ?_ (fun _ hcw => ?_) ?_ ?_); rotate_left; rotate_left; (focus (exact rfl)); (focus (have fQ1 := Q1 _ hcw; have fQ2 := Q2 _ hcw; have fQ3 := Q3 _ hcw; go_simp; (try go_bits); exact rfl)); (focus (simp only [Act.put, List.setIfInBounds_toArray, List.set_cons_succ, List.set_cons_zero, Act.eval, Array.getD_eq_getD_getElem?, List.getElem?_toArray, List.getElem?_cons_succ, List.getElem?_cons_zero, Option.getD_some]; exact rfl)))
        | ((with_reducible refine h_read (v := ?_) (a' := ?_) ?_ (fun _ hbw => ?_) ?_ ?_); rotate_left; rotate_left; (focus (exact rfl)); (focus (skip; go_simp; (try go_bits); exact rfl)); (focus (simp only [Act.put, List.setIfInBounds_toArray, List.set_cons_succ, List.set_cons_zero, Act.eval, Array.getD_eq_getD_getElem?, List.getElem?_toArray, List.getElem?_cons_succ, List.getElem?_cons_zero, Option.getD_some]; exact rfl)))
    refine h_nil ?_
    clear Q1 Q2 Q3
    generalize hAct : Act.mk _ _ = act
    obtain ⟨u, rfl⟩ : ∃ u : Nat → Value, act = { tmps := (fun u : Nat → Value => (u 0 :: Value.slice a n c :: Value.slice (some ⟨bk, bo, none⟩) m d :: Value.pointer (some ⟨w.heap.size, 0, none⟩) :: u 4 :: u 5 :: u 6 :: Value.pointer (some ⟨g7, 0, none⟩) :: Value.pointer (some ⟨g8_, 0, none⟩) :: u 9 :: u 10 :: u 11 :: u 12 :: u 13 :: u 14 :: u 15 :: u 16 :: u 17 :: u 18 :: u 19 :: u 20 :: u 21 :: u 22 :: u 23 :: u 24 :: u 25 :: u 26 :: u 27 :: Value.agg (A8 two) :: Value.agg (A8 one) :: u 30 :: u 31 :: Value.agg (A8 lk) :: u 33 :: u 34 :: u 35 :: u 36 :: u 37 :: u 38 :: u 39 :: u 40 :: u 41 :: u 42 :: u 43 :: u 44 :: u 45 :: u 46 :: u 47 :: u 48 :: u 49 :: u 50 :: u 51 :: u 52 :: u 53 :: []).toArray) u, defers := [] } := by
      subst hAct; exact ex_frame _ rfl
    clear hAct
    obtain ⟨St, hSt⟩ : ∃ St : Nat → Bool → Act → World → Prop, ∀ kk fr a' w', St kk fr a' w' ↔ (∃ x30 x33 x9 : Value, a' = { tmps := (u 0 :: Value.slice a n c :: Value.slice (some ⟨bk, bo, none⟩) m d :: Value.pointer (some ⟨w.heap.size, 0, none⟩) :: u 4 :: u 5 :: u 6 :: Value.pointer (some ⟨g7, 0, none⟩) :: Value.pointer (some ⟨g8_, 0, none⟩) :: x9 :: u 10 :: u 11 :: u 12 :: u 13 :: u 14 :: u 15 :: u 16 :: u 17 :: u 18 :: u 19 :: u 20 :: u 21 :: u 22 :: u 23 :: u 24 :: u 25 :: u 26 :: u 27 :: Value.agg (A8 two) :: Value.agg (A8 one) :: x30 :: u 31 :: Value.agg (A8 lk) :: x33 :: u 34 :: u 35 :: u 36 :: u 37 :: u 38 :: u 39 :: u 40 :: u 41 :: u 42 :: u 43 :: u 44 :: u 45 :: u 46 :: u 47 :: u 48 :: u 49 :: u 50 :: u 51 :: u 52 :: u 53 :: []).toArray, defers := [] } ∧ Below w5.drew.heap.size w5.drew w' ∧ (1 ≤ kk → x30 = .agg (A8 mid)) ∧ (2 ≤ kk → x33 = .agg (A8 st)) ∧ (fr = true → ∃ g, x9 = .pointer (some ⟨g, 0, none⟩) ∧ w5.heap.size ≤ g ∧ Blk w' g 37 (A8 (zeros 8 16)))) := ⟨_, fun _ _ _ _ => Iff.rfl⟩
    refine permHO_chain (St := St) [_, _] _ 0 ⟨?bs1, ?bs2, trivial⟩ ?bf ?bch ?bnd ?bR _ _ ?b0
    case b0 => exact (hSt _ _ _ _).2 ⟨_, _, _, rfl, Below.refl _ _, fun h => by omega, fun h => by omega, fun h => by cases h⟩
    case bch => exact ⟨by decide, trivial⟩
    case bnd => decide
    case bs1 =>
      intro fr a3 w3 hs
      obtain ⟨x30, x33, x9, rfl, D3, h1, h2, hf⟩ := (hSt _ _ _ _).1 hs
      clear hs
      refine opH_of_wpH ?_
      (with_reducible refine h_call ?_ ?_)
      · exact rfl
      go_simp
      refine entersW_of ?_
      refine (refSixteen_any two one w3 twol onel).mono ?_
      rintro e w4 ⟨rfl, d4⟩
      refine ⟨_, rfl, d4, ?_⟩
      try simp only [Act.put, List.setIfInBounds_toArray, List.set_cons_succ, List.set_cons_zero]
      rw [← Hmid.out]
      refine h_nil ((hSt _ _ _ _).2 ⟨_, _, _, rfl, D3.trans (d4.mono D3.size), fun _ => rfl, fun h => by omega, fun e => ?_⟩)
      obtain ⟨g, e1, e2, e3⟩ := hf e
      exact ⟨g, e1, e2, e3.belowAll d4⟩
    case bs2 =>
      intro fr a3 w3 hs
      obtain ⟨x30, x33, x9, rfl, D3, h1, h2, hf⟩ := (hSt _ _ _ _).1 hs
      clear hs
      obtain rfl := h1 (by omega)
      refine opH_of_wpH ?_
      (with_reducible refine h_call ?_ ?_)
      · exact rfl
      go_simp
      refine entersW_of ?_
      refine (refSixteen_any mid lk w3 midl hlk).mono ?_
      rintro e w4 ⟨rfl, d4⟩
      refine ⟨_, rfl, d4, ?_⟩
      try simp only [Act.put, List.setIfInBounds_toArray, List.set_cons_succ, List.set_cons_zero]
      rw [← Hst.out]
      refine h_nil ((hSt _ _ _ _).2 ⟨_, _, _, rfl, D3.trans (d4.mono D3.size), fun _ => rfl, fun _ => rfl, fun e => ?_⟩)
      obtain ⟨g, e1, e2, e3⟩ := hf e
      exact ⟨g, e1, e2, e3.belowAll d4⟩
    case bf =>
      intro j hj a3 w3 hs
      obtain ⟨x30, x33, x9, rfl, D3, h1, h2, hf⟩ := (hSt _ _ _ _).1 hs
      clear hs
      refine opH_of_wpH ?_
      obtain ⟨u3, eu3⟩ : ∃ u, w3.alloc (.cells (A8 (zeros 8 16)) 37) = u := ⟨_, rfl⟩
      obtain ⟨bf, du, zu⟩ := new1 _ _ _ _ eu3
      obtain ⟨pf, hpf⟩ : ∃ g, g = w3.heap.size := ⟨_, rfl⟩
      refine h_made (v := .pointer (some ⟨pf, 0, none⟩)) (w' := u3) rfl (by rw [hpf]; go_simp; exact eu3) du ?_
      simp only [Act.put, List.setIfInBounds_toArray, List.set_cons_succ, List.set_cons_zero]
      rw [← hpf] at bf
      exact h_nil ((hSt _ _ _ _).2 ⟨_, _, _, rfl, D3.trans (du.mono D3.size), h1, h2, fun _ => ⟨pf, rfl, by rw [hpf]; exact D3.size, bf⟩⟩)
    case bR =>
      intro a3 w3 hs
      obtain ⟨x30, x33, x9, rfl, D3, h1, h2, hf⟩ := (hSt _ _ _ _).1 hs
      clear hs hSt
      obtain rfl := h1 (by decide)
      obtain rfl := h2 (by decide)
      obtain ⟨g9, rfl, hg, bg⟩ := hf rfl
      refine c_act ?_
      refine z_storeRow bg rfl rfl (by rw [A8_size, A8_size, stl, zeros_length]) (A8_ones _) (by rw [A8_size, stl]; exact Tryz.sizeOf37 _) (fun w6 kk4 g4 s4 => ?_)
      have BD := D3.trans (grown_below g4 hg D3.size)
      refine z_nil ⟨hCe _ BD, ?_⟩
      refine c_nil (hK' _ _ ?_)
      have E4 : Below w5.heap.size w5 w6 := ((Below.refl w5.heap.size w5).drew).trans BD
      have I6 := Lib.hid kk4
      have P6 := Lib.hid (P5.out.belowAll E4)
      have B6 := Lib.hid (B5.out.trans (E4.mono B5.out.size))
      have T6 := Lib.hid (T5.out.below E4)
      have M6 := Lib.hid (M5.out.below E4)
      have R6 := Lib.hid (R5.out.below E4)
      have D6 := Lib.hid (D5.out.below E4)
      have G6 := Lib.hid (G5.out.below E4)
      have J6 := Lib.hid (J5.out.belowAll E4)
      have O6 := Lib.hid (O5.out.belowAll E4)
      clear hK' hC0 hCb hCe BD D3  hf bg g4 s4 E4 kk4 h1 h2 P5 B5 T5 M5 R5 D5 G5 J5 O5
      go_upto_region 4 with fail
      refine wp_region_tail [0,5,0,5,5,0,0,2,0] (by kernel_rfl) (by kernel_rfl) (fun C0 hC0 hCb K' hK' => ?_)
      have Q1 : ∀ w1, C0 w1 → rowAt w1 w.heap.size = CC := fun w1 hw => (P6.out.drew.belowAll (hCb w1 hw)).row
      have Q2 : ∀ w1, C0 w1 → w1.cell? ⟨w.heap.size, 512, none⟩ = some (.slice (some ⟨g, 0, none⟩) R cr) := fun w1 hw => by rw [(P6.out.drew.belowAll (hCb w1 hw)).cell]; exact C3.out
      have Q3 : ∀ w1, C0 w1 → rowAt w1 g9 = A8 st := fun w1 hw => (I6.out.drew.belowAll (hCb w1 hw)).row
      repeat
        first
          | ((with_reducible refine h_pure (v := ?_) (a' := ?_) ?_ (fun _ => ?_) ?_ ?_); rotate_left; rotate_left; (focus (exact rfl)); (focus (go_simp; (try go_bits); exact rfl)); (focus (simp only [Act.put, List.setIfInBounds_toArray, List.set_cons_succ, List.set_cons_zero, Act.eval, Array.getD_eq_getD_getElem?, List.getElem?_toArray, List.getElem?_cons_succ, List.getElem?_cons_zero, Option.getD_some]; exact rfl)))
          | ((with_reducible refine h_obl (v := ?_) (a' := ?_) ?_ (fun _ hcw => ?_) ?_ ?_); rotate_left; rotate_left; (focus (exact rfl)); (focus (have f1 := Q1 _ hcw; have f2 := Q2 _ hcw; have f3 := Q3 _ hcw; go_simp; (try go_bits); exact rfl)); (focus (simp only [Act.put, List.setIfInBounds_toArray, List.set_cons_succ, List.set_cons_zero, Act.eval, Array.getD_eq_getD_getElem?, List.getElem?_toArray, List.getElem?_cons_succ, List.getElem?_cons_zero, Option.getD_some]; exact rfl)))
          | ((with_reducible refine h_read (v := ?_) (a' := ?_) ?_ (fun _ hbw => ?_) ?_ ?_); rotate_left; rotate_left; (focus (exact rfl)); (focus (skip; go_simp; (try go_bits); exact rfl)); (focus (simp only [Act.put, List.setIfInBounds_toArray, List.set_cons_succ, List.set_cons_zero, Act.eval, Array.getD_eq_getD_getElem?, List.getElem?_toArray, List.getElem?_cons_succ, List.getElem?_cons_zero, Option.getD_some]; exact rfl)))
      (with_reducible refine h_call ?_ ?_)
      · exact rfl
      go_simp
      refine entersW_of ?_
      refine (refXCrypt_any X TT KT L st blx bA g cr R (m - 16) (d - 16) w6.drew BX.out R6.out.drew stl hR3 hR100 D6.out.drew (by omega)).mono ?_
      rintro e w7 ⟨v7, rfl, o7, d7⟩
      refine ⟨_, rfl, d7, ?_⟩
      try simp only [Act.put, List.setIfInBounds_toArray, List.set_cons_succ, List.set_cons_zero]
      rw [← Hbly.out] at o7
      obtain ⟨ay, cy, rfl, r7, _⟩ := o7.rd
      rw [blyl] at r7 ⊢
      repeat
        first
          | ((with_reducible refine h_pure (v := ?_) (a' := ?_) ?_ (fun _ => ?_) ?_ ?_); rotate_left; rotate_left; (focus (exact rfl)); (focus (go_simp; (try go_bits); exact rfl)); (focus (simp only [Act.put, List.setIfInBounds_toArray, List.set_cons_succ, List.set_cons_zero, Act.eval, Array.getD_eq_getD_getElem?, List.getElem?_toArray, List.getElem?_cons_succ, List.getElem?_cons_zero, Option.getD_some]; exact rfl)))
          | ((with_reducible refine h_obl (v := ?_) (a' := ?_) ?_ (fun _ hcw => ?_) ?_ ?_); rotate_left; rotate_left; (focus (exact rfl)); (focus (skip; go_simp; (try go_bits); exact rfl)); (focus (simp only [Act.put, List.setIfInBounds_toArray, List.set_cons_succ, List.set_cons_zero, Act.eval, Array.getD_eq_getD_getElem?, List.getElem?_toArray, List.getElem?_cons_succ, List.getElem?_cons_zero, Option.getD_some]; exact rfl)))
          | ((with_reducible refine h_read (v := ?_) (a' := ?_) ?_ (fun _ hbw => ?_) ?_ ?_); rotate_left; rotate_left; (focus (exact rfl)); (focus (skip; go_simp; (try go_bits); exact rfl)); (focus (simp only [Act.put, List.setIfInBounds_toArray, List.set_cons_succ, List.set_cons_zero, Act.eval, Array.getD_eq_getD_getElem?, List.getElem?_toArray, List.getElem?_cons_succ, List.getElem?_cons_zero, Option.getD_some]; exact rfl)))
      refine h_tail [] rfl (by simp) (z_nil (hK' _ _ ?_))
      have E7 : Below w6.heap.size w6 w7 := ((Below.refl w6.heap.size w6).drew).trans d7
      have AA8 := Lib.hid r7
      have P8 := Lib.hid (P6.out.belowAll E7)
      have B8 := Lib.hid (B6.out.trans (E7.mono B6.out.size))
      have T8 := Lib.hid (T6.out.below E7)
      have M8 := Lib.hid (M6.out.below E7)
      have R8 := Lib.hid (R6.out.below E7)
      have D8 := Lib.hid (D6.out.below E7)
      have G8 := Lib.hid (G6.out.below E7)
      have J8 := Lib.hid (J6.out.belowAll E7)
      clear Q1 Q2 Q3 hC0 hCb hK' o7 r7 d7 E7 I6 eA i1 i2 i3 P6 B6 T6 M6 R6 D6 G6 J6 O6
      have w8e : w7 = w7 := rfl
      go_upto_region 5 with fail
      refine wp_region_order [5,0,5,0,0,2,2,2,3] [0,1,2,3,4] [(5, 2, _), (6, 2, _), (7, 2, _)] (fun i => if i = 6 then [5] else []) [8] [_, _, _, _, _] [_] [5,0,5,0,0] [3] 3 rfl rfl rfl (by kernel_rfl) (by kernel_rfl) (by kernel_rfl) rfl rfl rfl (fun C0 hC0 hCb hCe K' hK' => ?_)
      have Q1 : ∀ w1, C0 w1 → rowAt w1 w.heap.size = CC := fun w1 hw => (P8.out.drew.belowAll (hCb w1 hw)).row
      have Q2 : ∀ w1, C0 w1 → rowAt w1 g8_ = A8 two := fun w1 hw => (J8.out.drew.belowAll (hCb w1 hw)).row
      repeat
        first
          | ((with_reducible refine h_pure (v := ?_) (a' := ?_) ?_ (fun _ => ?_) ?_ ?_); rotate_left; rotate_left; (focus (exact rfl)); (focus (go_simp; (try go_bits); exact rfl)); (focus (simp only [Act.put, List.setIfInBounds_toArray, List.set_cons_succ, List.set_cons_zero, Act.eval, Array.getD_eq_getD_getElem?, List.getElem?_toArray, List.getElem?_cons_succ, List.getElem?_cons_zero, Option.getD_some]; exact rfl)))
          | ((with_reducible refine h_obl (v := ?_) (a' := ?_) ?_ (fun _ hcw => ?_) ?_ ?_); rotate_left; rotate_left; (focus (exact rfl)); (focus (have fQ1 := Q1 _ hcw; have fQ2 := Q2 _ hcw; go_simp; (try go_bits); exact rfl)); (focus (simp only [Act.put, List.setIfInBounds_toArray, List.set_cons_succ, List.set_cons_zero, Act.eval, Array.getD_eq_getD_getElem?, List.getElem?_toArray, List.getElem?_cons_succ, List.getElem?_cons_zero, Option.getD_some]; exact rfl)))
          | ((with_reducible refine h_read (v := ?_) (a' := ?_) ?_ (fun _ hbw => ?_) ?_ ?_); rotate_left; rotate_left; (focus (exact rfl)); (focus (skip; go_simp; (try go_bits); exact rfl)); (focus (simp only [Act.put, List.setIfInBounds_toArray, List.set_cons_succ, List.set_cons_zero, Act.eval, Array.getD_eq_getD_getElem?, List.getElem?_toArray, List.getElem?_cons_succ, List.getElem?_cons_zero, Option.getD_some]; exact rfl)))
      refine h_nil ?_
      clear Q1 Q2
      generalize hAct : Act.mk _ _ = act
      obtain ⟨u, rfl⟩ : ∃ u : Nat → Value, act = { tmps := (fun u : Nat → Value => (u 0 :: Value.slice a n c :: Value.slice (some ⟨bk, bo, none⟩) m d :: Value.pointer (some ⟨w.heap.size, 0, none⟩) :: u 4 :: u 5 :: u 6 :: Value.pointer (some ⟨g7, 0, none⟩) :: Value.pointer (some ⟨g8_, 0, none⟩) :: Value.pointer (some ⟨g9, 0, none⟩) :: Value.slice ay (m - 16) cy :: u 11 :: u 12 :: u 13 :: u 14 :: u 15 :: u 16 :: u 17 :: u 18 :: u 19 :: u 20 :: u 21 :: u 22 :: u 23 :: u 24 :: u 25 :: u 26 :: u 27 :: u 28 :: u 29 :: u 30 :: u 31 :: u 32 :: u 33 :: u 34 :: u 35 :: u 36 :: u 37 :: u 38 :: u 39 :: u 40 :: u 41 :: Value.agg (A8 two) :: u 43 :: Value.agg (A8 hk) :: Value.slice a n c :: Value.slice ay (m - 16) cy :: u 47 :: u 48 :: u 49 :: u 50 :: u 51 :: u 52 :: u 53 :: []).toArray) u, defers := [] } := by
        subst hAct; exact ex_frame _ rfl
      clear hAct
      obtain ⟨St, hSt⟩ : ∃ St : Nat → Bool → Act → World → Prop, ∀ kk fr a' w', St kk fr a' w' ↔ (∃ x47 x48 x11 : Value, a' = { tmps := (u 0 :: Value.slice a n c :: Value.slice (some ⟨bk, bo, none⟩) m d :: Value.pointer (some ⟨w.heap.size, 0, none⟩) :: u 4 :: u 5 :: u 6 :: Value.pointer (some ⟨g7, 0, none⟩) :: Value.pointer (some ⟨g8_, 0, none⟩) :: Value.pointer (some ⟨g9, 0, none⟩) :: Value.slice ay (m - 16) cy :: x11 :: u 12 :: u 13 :: u 14 :: u 15 :: u 16 :: u 17 :: u 18 :: u 19 :: u 20 :: u 21 :: u 22 :: u 23 :: u 24 :: u 25 :: u 26 :: u 27 :: u 28 :: u 29 :: u 30 :: u 31 :: u 32 :: u 33 :: u 34 :: u 35 :: u 36 :: u 37 :: u 38 :: u 39 :: u 40 :: u 41 :: Value.agg (A8 two) :: u 43 :: Value.agg (A8 hk) :: Value.slice a n c :: Value.slice ay (m - 16) cy :: x47 :: x48 :: u 49 :: u 50 :: u 51 :: u 52 :: u 53 :: []).toArray, defers := [] } ∧ Below w7.drew.heap.size w7.drew w' ∧ (1 ≤ kk → x47 = .agg (A8 ha2)) ∧ (2 ≤ kk → x48 = .agg (A8 fst)) ∧ (fr = true → ∃ g, x11 = .pointer (some ⟨g, 0, none⟩) ∧ w7.heap.size ≤ g ∧ Blk w' g 37 (A8 (zeros 8 16)))) := ⟨_, fun _ _ _ _ => Iff.rfl⟩
      refine permHO_chain (St := St) [_, _] _ 0 ⟨?cs1, ?cs2, trivial⟩ ?cf ?cch ?cnd ?cR _ _ ?c0
      case c0 => exact (hSt _ _ _ _).2 ⟨_, _, _, rfl, Below.refl _ _, fun h => by omega, fun h => by omega, fun h => by cases h⟩
      case cch => exact ⟨by decide, trivial⟩
      case cnd => decide
      case cs1 =>
        intro fr a3 w3 hs
        obtain ⟨x47, x48, x11, rfl, D3, h1, h2, hf⟩ := (hSt _ _ _ _).1 hs
        clear hs
        refine opH_of_wpH ?_
        (with_reducible refine h_call ?_ ?_)
        · exact rfl
        go_simp
        refine entersW_of ?_
        refine (refHash_any hk T bly a ay n c (m - 16) cy w3 hhk (T8.out.drew.below D3) (AA8.out.drew.below D3) hn (by omega)).mono ?_
        rintro e w4 ⟨rfl, d4⟩
        refine ⟨_, rfl, d4, ?_⟩
        try simp only [Act.put, List.setIfInBounds_toArray, List.set_cons_succ, List.set_cons_zero]
        rw [← Hha2.out]
        refine h_nil ((hSt _ _ _ _).2 ⟨_, _, _, rfl, D3.trans (d4.mono D3.size), fun _ => rfl, fun h => by omega, fun e => ?_⟩)
        obtain ⟨g, e1, e2, e3⟩ := hf e
        exact ⟨g, e1, e2, e3.belowAll d4⟩
      case cs2 =>
        intro fr a3 w3 hs
        obtain ⟨x47, x48, x11, rfl, D3, h1, h2, hf⟩ := (hSt _ _ _ _).1 hs
        clear hs
        obtain rfl := h1 (by omega)
        refine opH_of_wpH ?_
        (with_reducible refine h_call ?_ ?_)
        · exact rfl
        go_simp
        refine entersW_of ?_
        refine (refSixteen_any two ha2 w3 twol ha2l).mono ?_
        rintro e w4 ⟨rfl, d4⟩
        refine ⟨_, rfl, d4, ?_⟩
        try simp only [Act.put, List.setIfInBounds_toArray, List.set_cons_succ, List.set_cons_zero]
        rw [← Hfst.out]
        refine h_nil ((hSt _ _ _ _).2 ⟨_, _, _, rfl, D3.trans (d4.mono D3.size), fun _ => rfl, fun _ => rfl, fun e => ?_⟩)
        obtain ⟨g, e1, e2, e3⟩ := hf e
        exact ⟨g, e1, e2, e3.belowAll d4⟩
      case cf =>
        intro j hj a3 w3 hs
        obtain ⟨x47, x48, x11, rfl, D3, h1, h2, hf⟩ := (hSt _ _ _ _).1 hs
        clear hs
        refine opH_of_wpH ?_
        obtain ⟨u3, eu3⟩ : ∃ u, w3.alloc (.cells (A8 (zeros 8 16)) 37) = u := ⟨_, rfl⟩
        obtain ⟨bf, du, zu⟩ := new1 _ _ _ _ eu3
        obtain ⟨pf, hpf⟩ : ∃ g, g = w3.heap.size := ⟨_, rfl⟩
        refine h_made (v := .pointer (some ⟨pf, 0, none⟩)) (w' := u3) rfl (by rw [hpf]; go_simp; exact eu3) du ?_
        simp only [Act.put, List.setIfInBounds_toArray, List.set_cons_succ, List.set_cons_zero]
        rw [← hpf] at bf
        exact h_nil ((hSt _ _ _ _).2 ⟨_, _, _, rfl, D3.trans (du.mono D3.size), h1, h2, fun _ => ⟨pf, rfl, by rw [hpf]; exact D3.size, bf⟩⟩)
      case cR =>
        intro a3 w3 hs
        obtain ⟨x47, x48, x11, rfl, D3, h1, h2, hf⟩ := (hSt _ _ _ _).1 hs
        clear hs hSt
        obtain rfl := h1 (by decide)
        obtain rfl := h2 (by decide)
        obtain ⟨g11, rfl, hg, bg⟩ := hf rfl
        refine c_act ?_
        refine z_storeRow bg rfl rfl (by rw [A8_size, A8_size, fstl, zeros_length]) (A8_ones _) (by rw [A8_size, fstl]; exact Tryz.sizeOf37 _) (fun w9 kk4 g4 s4 => ?_)
        have BD := D3.trans (grown_below g4 hg D3.size)
        refine z_nil ⟨hCe _ BD, ?_⟩
        refine c_nil (hK' _ _ ?_)
        have E4 : Below w7.heap.size w7 w9 := ((Below.refl w7.heap.size w7).drew).trans BD
        have O5 := Lib.hid kk4
        have B9 := Lib.hid (B8.out.trans (E4.mono B8.out.size))
        have AA9 := Lib.hid (AA8.out.below E4)
        clear hK' hC0 hCb hCe BD D3  hf bg g4 s4 E4 kk4 h1 h2 P8 T8 M8 R8 D8 G8 J8 AA8 B8
        have rf := O5.out.rd8 16 (by rw [fstl]; exact Nat.le_refl _) (by rw [fstl]; unfold maxLen; omega)
        rw [List.take_of_length_le (by omega)] at rf
        rw [fstl] at rf
        have RF := Lib.hid rf
        clear rf
        go_upto_region 6 with fail
        refine wp_region_plain [2,0,2,0,2,0] rfl (fun ops' K4 hK4 => ?_)
        refine z_build0 (B := w9.heap.size) (Nat.le_refl _) Tryz.underlying23 info8 (fun wa va oa ba => ?_)
        simp only [Act.put, List.setIfInBounds_toArray, List.set_cons_succ, List.set_cons_zero]
        repeat
          first
            | ((with_reducible refine z_move (a' := ?_) ?_ ?_); rotate_left; · (simp only [Act.put, List.setIfInBounds_toArray, List.set_cons_succ, List.set_cons_zero, Act.eval, Array.getD_eq_getD_getElem?, List.getElem?_toArray, List.getElem?_cons_succ, List.getElem?_cons_zero, Option.getD_some]; exact rfl))
            | ((with_reducible refine z_assign (a' := ?_) ?_ ?_); rotate_left; · (simp only [Act.put, List.setIfInBounds_toArray, List.set_cons_succ, List.set_cons_zero, Act.eval, Array.getD_eq_getD_getElem?, List.getElem?_toArray, List.getElem?_cons_succ, List.getElem?_cons_zero, Option.getD_some]; exact rfl))
            | ((with_reducible refine z_obl (v := ?_) (a' := ?_) rfl (fun _ => ?_) ?_ ?_); rotate_left; rotate_left; (focus (go_simp; (try go_bits); exact rfl)); (focus (simp only [Act.put, List.setIfInBounds_toArray, List.set_cons_succ, List.set_cons_zero, Act.eval, Array.getD_eq_getD_getElem?, List.getElem?_toArray, List.getElem?_cons_succ, List.getElem?_cons_zero, Option.getD_some]; exact rfl)))
            | ((with_reducible refine z_read (v := ?_) (a' := ?_) rfl ?_ ?_ ?_); rotate_left; rotate_left; (focus (go_simp; (try go_bits); exact rfl)); (focus (simp only [Act.put, List.setIfInBounds_toArray, List.set_cons_succ, List.set_cons_zero, Act.eval, Array.getD_eq_getD_getElem?, List.getElem?_toArray, List.getElem?_cons_succ, List.getElem?_cons_zero, Option.getD_some]; exact rfl)))
        refine z_append8 oa (RF.out.below ba) rfl rfl Tryz.underlying23 info8 (by simp) ba.size (fun wb vb ob gb bb => ?_)
        simp only [Act.put, List.setIfInBounds_toArray, List.set_cons_succ, List.set_cons_zero]
        rw [List.nil_append] at ob
        repeat
          first
            | ((with_reducible refine z_move (a' := ?_) ?_ ?_); rotate_left; · (simp only [Act.put, List.setIfInBounds_toArray, List.set_cons_succ, List.set_cons_zero, Act.eval, Array.getD_eq_getD_getElem?, List.getElem?_toArray, List.getElem?_cons_succ, List.getElem?_cons_zero, Option.getD_some]; exact rfl))
            | ((with_reducible refine z_assign (a' := ?_) ?_ ?_); rotate_left; · (simp only [Act.put, List.setIfInBounds_toArray, List.set_cons_succ, List.set_cons_zero, Act.eval, Array.getD_eq_getD_getElem?, List.getElem?_toArray, List.getElem?_cons_succ, List.getElem?_cons_zero, Option.getD_some]; exact rfl))
            | ((with_reducible refine z_obl (v := ?_) (a' := ?_) rfl (fun _ => ?_) ?_ ?_); rotate_left; rotate_left; (focus (go_simp; (try go_bits); exact rfl)); (focus (simp only [Act.put, List.setIfInBounds_toArray, List.set_cons_succ, List.set_cons_zero, Act.eval, Array.getD_eq_getD_getElem?, List.getElem?_toArray, List.getElem?_cons_succ, List.getElem?_cons_zero, Option.getD_some]; exact rfl)))
            | ((with_reducible refine z_read (v := ?_) (a' := ?_) rfl ?_ ?_ ?_); rotate_left; rotate_left; (focus (go_simp; (try go_bits); exact rfl)); (focus (simp only [Act.put, List.setIfInBounds_toArray, List.set_cons_succ, List.set_cons_zero, Act.eval, Array.getD_eq_getD_getElem?, List.getElem?_toArray, List.getElem?_cons_succ, List.getElem?_cons_zero, Option.getD_some]; exact rfl)))
        have Bb := ba.trans bb
        refine z_append8 ob (AA9.out.below Bb) rfl rfl Tryz.underlying23 info8 (by rw [fstl]; omega) Bb.size (fun wc vc oc gc bc => ?_)
        simp only [Act.put, List.setIfInBounds_toArray, List.set_cons_succ, List.set_cons_zero]
        repeat
          first
            | ((with_reducible refine z_move (a' := ?_) ?_ ?_); rotate_left; · (simp only [Act.put, List.setIfInBounds_toArray, List.set_cons_succ, List.set_cons_zero, Act.eval, Array.getD_eq_getD_getElem?, List.getElem?_toArray, List.getElem?_cons_succ, List.getElem?_cons_zero, Option.getD_some]; exact rfl))
            | ((with_reducible refine z_assign (a' := ?_) ?_ ?_); rotate_left; · (simp only [Act.put, List.setIfInBounds_toArray, List.set_cons_succ, List.set_cons_zero, Act.eval, Array.getD_eq_getD_getElem?, List.getElem?_toArray, List.getElem?_cons_succ, List.getElem?_cons_zero, Option.getD_some]; exact rfl))
            | ((with_reducible refine z_obl (v := ?_) (a' := ?_) rfl (fun _ => ?_) ?_ ?_); rotate_left; rotate_left; (focus (go_simp; (try go_bits); exact rfl)); (focus (simp only [Act.put, List.setIfInBounds_toArray, List.set_cons_succ, List.set_cons_zero, Act.eval, Array.getD_eq_getD_getElem?, List.getElem?_toArray, List.getElem?_cons_succ, List.getElem?_cons_zero, Option.getD_some]; exact rfl)))
            | ((with_reducible refine z_read (v := ?_) (a' := ?_) rfl ?_ ?_ ?_); rotate_left; rotate_left; (focus (go_simp; (try go_bits); exact rfl)); (focus (simp only [Act.put, List.setIfInBounds_toArray, List.set_cons_succ, List.set_cons_zero, Act.eval, Array.getD_eq_getD_getElem?, List.getElem?_toArray, List.getElem?_cons_succ, List.getElem?_cons_zero, Option.getD_some]; exact rfl)))
        refine z_nil (hK4 _ _ ?_)
        have Bc := Bb.trans bc
        have OO := Lib.hid (Own8.base oc B9.out.size)
        have BB := Lib.hid (B9.out.trans (Bc.mono B9.out.size))
        clear oa ba ob gb bb Bb oc gc bc Bc hK4
        go_wp2
        go_ret
        exact ⟨_, rfl, OO.out, BB.out⟩
end Go.Proofs.YtfdkmjegcghieaaGreatDoor
