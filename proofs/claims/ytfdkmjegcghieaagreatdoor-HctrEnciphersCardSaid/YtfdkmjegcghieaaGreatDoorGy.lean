/- hctr: Encipher, Decipher -/
import Derived.Test.YtfdkmjegcghieaaGreatDoorIk
import Derived.Test.YtfdkmjegcghieaaGreatDoorGh
import Derived.Test.YtfdkmjegcghieaaGreatDoorGk
namespace Go.Proofs.YtfdkmjegcghieaaGreatDoor
open Go.RowKit
set_option maxRecDepth 100000 in
theorem hdoes_nil (x y f : Value) (w : World) :
    Calls Tryz.prog 25 #[.pointer none, x, y, f] w fun e w' => e = .returned (.tuple #[.slice none 0 0, .int .i64 2]) ∧ w = w' := by
  go_enter Tryz.func25, Tryz.ntmps25
  go_wp2
  go_ret2
  exact ⟨rfl, rfl⟩
set_option maxRecDepth 100000 in
theorem hdoes_short (p : Nat) (x f : Value) (b : Option Addr) (len d : Nat) (w : World) (hlen : len < 16) :
    Calls Tryz.prog 25 #[.pointer (some ⟨p, 0, none⟩), x, .slice b len d, f] w fun e w' => e = .returned (.tuple #[.slice none 0 0, .int .i64 7]) ∧ w = w' := by
  have f1 : (len : Int) < 16 := by omega
  go_enter Tryz.func25, Tryz.ntmps25
  go_wp2
  go_ret2
  exact ⟨rfl, rfl⟩
set_option linter.unusedSimpArgs false in
set_option maxRecDepth 100000 in
set_option maxHeartbeats 800000 in
theorem henc1_any (p k pt m cp : Nat) (L h lb x : List (BitVec 8)) (w : World) (hc : CiAt w p k pt m L h lb) (hm : 3 ≤ m) (hm2 : m ≤ 100) (hcp : Blk w cp 27 #[.pointer (some ⟨p, 0, none⟩)]) (hx : x.length = 16) :
    Calls Tryz.prog 26 #[.agg (A8 x), .pointer (some ⟨cp, 0, none⟩)] w fun e w' => e = .returned (.agg (A8 (encS L m x))) ∧ Below w.heap.size w w' := by
  obtain ⟨W, hW⟩ : ∃ W, (w.alloc (.cells (A8 x) 37)).alloc (.cells (A8 (zeros 8 16)) 37) = W := ⟨_, rfl⟩
  obtain ⟨b0, b1, hb, hz⟩ := new2 _ _ _ _ _ _ hW
  have P0 := Lib.hid b0
  have Z0 := Lib.hid b1
  have B0 := Lib.hid hb
  have C0 := Lib.hid (hc.below hb)
  have V0 := Lib.hid (hcp.belowAll hb)
  have hUl : (encS L m x).length = 16 := encS_length L m x
  obtain ⟨U, hU⟩ : ∃ U, U = encS L m x := ⟨_, rfl⟩
  rw [← hU] at hUl ⊢
  have HU := Lib.hid hU
  clear b0 b1 hb hz hc hcp hU
  go_enter Tryz.func26, Tryz.ntmps26
  go_upto_region 1 with fail
  clear hW
  refine wp_region_tail [5,0,0,5,5,2,3] (by kernel_rfl) (by kernel_rfl) (fun C hC0 hCb K' hK' => ?_)
  have Q1 : ∀ w1, C w1 → w1.cell? ⟨cp, 0, none⟩ = some (.pointer (some ⟨p, 0, none⟩)) := fun w1 hw => (V0.out.drew.belowAll (hCb w1 hw)).cell 0
  have Q2 : ∀ w1, C w1 → w1.cell? ⟨p, 0, none⟩ = some (.pointer (some ⟨k, 0, none⟩)) := fun w1 hw => (C0.out.drew.below (hCb w1 hw)).cell
  have Q3 : ∀ w1, C w1 → rowAt w1 w.heap.size = A8 x := fun w1 hw => (P0.out.drew.belowAll (hCb w1 hw)).row
  repeat
    first
      | ((with_reducible refine h_pure (v := ?_) (a' := ?_) ?_ (fun _ => ?_) ?_ ?_); rotate_left; rotate_left; (focus (exact rfl)); (focus (go_simp; (try go_bits); exact rfl)); (focus (simp only [Act.put, List.setIfInBounds_toArray, List.set_cons_succ, List.set_cons_zero, Act.eval, Array.getD_eq_getD_getElem?, List.getElem?_toArray, List.getElem?_cons_succ, List.getElem?_cons_zero, Option.getD_some]; exact rfl)))
      | ((with_reducible refine h_obl (v := ?_) (a' := ?_) ?_ (fun _ hcw => ?_) ?_ ?_); rotate_left; rotate_left; (focus (exact rfl)); (focus (have f1 := Q1 _ hcw; have f2 := Q2 _ hcw; have f3 := Q3 _ hcw; go_simp; (try go_bits); exact rfl)); (focus (simp only [Act.put, List.setIfInBounds_toArray, List.set_cons_succ, List.set_cons_zero, Act.eval, Array.getD_eq_getD_getElem?, List.getElem?_toArray, List.getElem?_cons_succ, List.getElem?_cons_zero, Option.getD_some]; exact rfl)))
      | ((with_reducible refine h_read (v := ?_) (a' := ?_) ?_ (fun _ hbw => ?_) ?_ ?_); rotate_left; rotate_left; (focus (exact rfl)); (focus (skip; go_simp; (try go_bits); exact rfl)); (focus (simp only [Act.put, List.setIfInBounds_toArray, List.set_cons_succ, List.set_cons_zero, Act.eval, Array.getD_eq_getD_getElem?, List.getElem?_toArray, List.getElem?_cons_succ, List.getElem?_cons_zero, Option.getD_some]; exact rfl)))
  (with_reducible refine h_call ?_ ?_)
  · exact rfl
  go_simp
  refine entersW_of ?_
  refine (encrypt_any k pt m L x W.drew C0.out.drew.key hx hm hm2).mono ?_
  rintro e w3 ⟨rfl, d3⟩
  refine ⟨_, rfl, d3, ?_⟩
  try simp only [Act.put, List.setIfInBounds_toArray, List.set_cons_succ, List.set_cons_zero]
  rw [show encS L m x = U from HU.out.symm]
  refine h_tail [2] rfl (by simp) ?_
  refine z_storeRow (Z0.out.drew.belowAll d3) rfl rfl (by rw [A8_size, A8_size, hUl, zeros_length]) (A8_ones _) (by rw [A8_size, hUl]; exact Tryz.sizeOf37 _) (fun w4 k4 g4 s4 => ?_)
  refine z_nil (hK' _ _ ?_)
  have B4 := Lib.hid ((B0.out.drew.trans (d3.mono B0.out.size)).grown g4 (Nat.le_trans B0.out.size d3.size) (fun k hk => by cases hk; omega))
  have r4 := k4.row
  clear Q1 Q2 Q3 hC0 hCb hK' d3 g4 s4
  go_wp2
  refine bodyPost_row (A8 U) rfl rfl rfl (Tryz.isAgg37 _) (Tryz.sizeOf37 _) (by rw [A8_size]; exact hUl) r4 ⟨rfl, B4.out⟩
theorem callEncipher1 (args : Array Value) (w : World) : (callFunc 26 args).run Tryz.prog w = .ok (.enter 26 args) w := by
  go_simp
set_option linter.unusedSimpArgs false in
set_option maxRecDepth 100000 in
theorem henc_any (p k pt m : Nat) (L h lb T M : List (BitVec 8)) (a b : Option Addr) (n c len d : Nat) (w : World) (hc : CiAt w p k pt m L h lb) (hm : 3 ≤ m) (hm2 : m ≤ 100)
    (ht : Rd8 w a n c T) (hM : Rd8 w b len d M) (hn : n ≤ 1000) (h16 : 16 ≤ len) (hlen : len ≤ 520) :
    Calls Tryz.prog 7 #[.pointer (some ⟨p, 0, none⟩), .slice a n c, .slice b len d] w fun e w' => ∃ v, e = .returned (.tuple #[v, .int .i64 0]) ∧ Own8 w' w.heap.size 5 v (doesS (encS L m) L m h lb T M) ∧ Below w.heap.size w w' := by
  obtain ⟨W, hW⟩ : ∃ W, (w.alloc (.cells #[.pointer (some ⟨p, 0, none⟩)] 27)) = W := ⟨_, rfl⟩
  obtain ⟨b0, hb, hz⟩ := new1 _ _ _ _ hW
  have c0 : W.cell? ⟨w.heap.size, 0, none⟩ = some (.pointer (some ⟨p, 0, none⟩)) := b0.cell 0
  have V0 := Lib.hid b0
  have B0 := Lib.hid hb
  have C0 := Lib.hid (hc.below hb)
  have dd := hdoes_any (encS L m) 26 w.heap.size p k pt m L h lb T M a b n c len d W C0.out hm hm2 (ht.below hb) (hM.below hb) hn h16 hlen (fun x _ => encS_length L m x) callEncipher1
    (fun w1 x hw hx => henc1_any p k pt m w.heap.size L h lb x w1 (C0.out.below hw) hm hm2 (V0.out.belowAll hw) hx)
  have DD := Lib.hid dd
  clear dd b0 hb hz hc ht hM
  go_enter Tryz.func7, Tryz.ntmps7
  go_wp2_with fail
  refine DD.out.mono ?_
  rintro e w1 ⟨v, rfl, own, d1⟩
  have O := Lib.hid (Own8.base own B0.out.size)
  have B1 := Lib.hid (B0.out.trans (d1.mono B0.out.size))
  clear own d1
  go_wp2
  go_ret2
  exact ⟨v, rfl, O.out, B1.out⟩
set_option maxRecDepth 100000 in
theorem henc_nil (x y : Value) (w : World) :
    Calls Tryz.prog 7 #[.pointer none, x, y] w fun e w' => e = .returned (.tuple #[.slice none 0 0, .int .i64 2]) ∧ Below w.heap.size w w' := by
  obtain ⟨W, hW⟩ : ∃ W, (w.alloc (.cells #[.pointer none] 27)) = W := ⟨_, rfl⟩
  obtain ⟨b0, hb, hz⟩ := new1 _ _ _ _ hW
  have c0 : W.cell? ⟨w.heap.size, 0, none⟩ = some (.pointer none) := b0.cell 0
  go_enter Tryz.func7, Tryz.ntmps7
  go_wp2_with fail
  refine (hdoes_nil x y _ W).mono ?_
  rintro e w1 ⟨rfl, rfl⟩
  go_wp2
  go_ret2
  exact ⟨rfl, hb⟩
set_option maxRecDepth 100000 in
theorem henc_short (p : Nat) (x : Value) (b : Option Addr) (len d : Nat) (w : World) (hlen : len < 16) :
    Calls Tryz.prog 7 #[.pointer (some ⟨p, 0, none⟩), x, .slice b len d] w fun e w' => e = .returned (.tuple #[.slice none 0 0, .int .i64 7]) ∧ Below w.heap.size w w' := by
  obtain ⟨W, hW⟩ : ∃ W, (w.alloc (.cells #[.pointer (some ⟨p, 0, none⟩)] 27)) = W := ⟨_, rfl⟩
  obtain ⟨b0, hb, hz⟩ := new1 _ _ _ _ hW
  have c0 : W.cell? ⟨w.heap.size, 0, none⟩ = some (.pointer (some ⟨p, 0, none⟩)) := b0.cell 0
  go_enter Tryz.func7, Tryz.ntmps7
  go_wp2_with fail
  refine (hdoes_short p x _ b len d W hlen).mono ?_
  rintro e w1 ⟨rfl, rfl⟩
  go_wp2
  go_ret2
  exact ⟨rfl, hb⟩
set_option linter.unusedSimpArgs false in
set_option maxRecDepth 100000 in
set_option maxHeartbeats 800000 in
theorem hdec1_any (p k pt m cp : Nat) (L h lb x : List (BitVec 8)) (w : World) (hc : CiAt w p k pt m L h lb) (hm : 3 ≤ m) (hm2 : m ≤ 100) (hcp : Blk w cp 27 #[.pointer (some ⟨p, 0, none⟩)]) (hx : x.length = 16) :
    Calls Tryz.prog 28 #[.agg (A8 x), .pointer (some ⟨cp, 0, none⟩)] w fun e w' => e = .returned (.agg (A8 (decS L m x))) ∧ Below w.heap.size w w' := by
  obtain ⟨W, hW⟩ : ∃ W, (w.alloc (.cells (A8 x) 37)).alloc (.cells (A8 (zeros 8 16)) 37) = W := ⟨_, rfl⟩
  obtain ⟨b0, b1, hb, hz⟩ := new2 _ _ _ _ _ _ hW
  have P0 := Lib.hid b0
  have Z0 := Lib.hid b1
  have B0 := Lib.hid hb
  have C0 := Lib.hid (hc.below hb)
  have V0 := Lib.hid (hcp.belowAll hb)
  have hUl : (decS L m x).length = 16 := decS_length L m x
  obtain ⟨U, hU⟩ : ∃ U, U = decS L m x := ⟨_, rfl⟩
  rw [← hU] at hUl ⊢
  have HU := Lib.hid hU
  clear b0 b1 hb hz hc hcp hU
  go_enter Tryz.func28, Tryz.ntmps28
  go_upto_region 1 with fail
  clear hW
  refine wp_region_tail [5,0,0,5,5,2,3] (by kernel_rfl) (by kernel_rfl) (fun C hC0 hCb K' hK' => ?_)
  have Q1 : ∀ w1, C w1 → w1.cell? ⟨cp, 0, none⟩ = some (.pointer (some ⟨p, 0, none⟩)) := fun w1 hw => (V0.out.drew.belowAll (hCb w1 hw)).cell 0
  have Q2 : ∀ w1, C w1 → w1.cell? ⟨p, 0, none⟩ = some (.pointer (some ⟨k, 0, none⟩)) := fun w1 hw => (C0.out.drew.below (hCb w1 hw)).cell
  have Q3 : ∀ w1, C w1 → rowAt w1 w.heap.size = A8 x := fun w1 hw => (P0.out.drew.belowAll (hCb w1 hw)).row
  repeat
    first
      | ((with_reducible refine h_pure (v := ?_) (a' := ?_) ?_ (fun _ => ?_) ?_ ?_); rotate_left; rotate_left; (focus (exact rfl)); (focus (go_simp; (try go_bits); exact rfl)); (focus (simp only [Act.put, List.setIfInBounds_toArray, List.set_cons_succ, List.set_cons_zero, Act.eval, Array.getD_eq_getD_getElem?, List.getElem?_toArray, List.getElem?_cons_succ, List.getElem?_cons_zero, Option.getD_some]; exact rfl)))
      | ((with_reducible refine h_obl (v := ?_) (a' := ?_) ?_ (fun _ hcw => ?_) ?_ ?_); rotate_left; rotate_left; (focus (exact rfl)); (focus (have f1 := Q1 _ hcw; have f2 := Q2 _ hcw; have f3 := Q3 _ hcw; go_simp; (try go_bits); exact rfl)); (focus (simp only [Act.put, List.setIfInBounds_toArray, List.set_cons_succ, List.set_cons_zero, Act.eval, Array.getD_eq_getD_getElem?, List.getElem?_toArray, List.getElem?_cons_succ, List.getElem?_cons_zero, Option.getD_some]; exact rfl)))
      | ((with_reducible refine h_read (v := ?_) (a' := ?_) ?_ (fun _ hbw => ?_) ?_ ?_); rotate_left; rotate_left; (focus (exact rfl)); (focus (skip; go_simp; (try go_bits); exact rfl)); (focus (simp only [Act.put, List.setIfInBounds_toArray, List.set_cons_succ, List.set_cons_zero, Act.eval, Array.getD_eq_getD_getElem?, List.getElem?_toArray, List.getElem?_cons_succ, List.getElem?_cons_zero, Option.getD_some]; exact rfl)))
  (with_reducible refine h_call ?_ ?_)
  · exact rfl
  go_simp
  refine entersW_of ?_
  refine (decrypt_any k pt m L x W.drew C0.out.drew.key hx hm hm2).mono ?_
  rintro e w3 ⟨rfl, d3⟩
  refine ⟨_, rfl, d3, ?_⟩
  try simp only [Act.put, List.setIfInBounds_toArray, List.set_cons_succ, List.set_cons_zero]
  rw [show decS L m x = U from HU.out.symm]
  refine h_tail [2] rfl (by simp) ?_
  refine z_storeRow (Z0.out.drew.belowAll d3) rfl rfl (by rw [A8_size, A8_size, hUl, zeros_length]) (A8_ones _) (by rw [A8_size, hUl]; exact Tryz.sizeOf37 _) (fun w4 k4 g4 s4 => ?_)
  refine z_nil (hK' _ _ ?_)
  have B4 := Lib.hid ((B0.out.drew.trans (d3.mono B0.out.size)).grown g4 (Nat.le_trans B0.out.size d3.size) (fun k hk => by cases hk; omega))
  have r4 := k4.row
  clear Q1 Q2 Q3 hC0 hCb hK' d3 g4 s4
  go_wp2
  refine bodyPost_row (A8 U) rfl rfl rfl (Tryz.isAgg37 _) (Tryz.sizeOf37 _) (by rw [A8_size]; exact hUl) r4 ⟨rfl, B4.out⟩
theorem callDecipher1 (args : Array Value) (w : World) : (callFunc 28 args).run Tryz.prog w = .ok (.enter 28 args) w := by
  go_simp
set_option linter.unusedSimpArgs false in
set_option maxRecDepth 100000 in
theorem hdec_any (p k pt m : Nat) (L h lb T M : List (BitVec 8)) (a b : Option Addr) (n c len d : Nat) (w : World) (hc : CiAt w p k pt m L h lb) (hm : 3 ≤ m) (hm2 : m ≤ 100)
    (ht : Rd8 w a n c T) (hM : Rd8 w b len d M) (hn : n ≤ 1000) (h16 : 16 ≤ len) (hlen : len ≤ 520) :
    Calls Tryz.prog 8 #[.pointer (some ⟨p, 0, none⟩), .slice a n c, .slice b len d] w fun e w' => ∃ v, e = .returned (.tuple #[v, .int .i64 0]) ∧ Own8 w' w.heap.size 5 v (doesS (decS L m) L m h lb T M) ∧ Below w.heap.size w w' := by
  obtain ⟨W, hW⟩ : ∃ W, (w.alloc (.cells #[.pointer (some ⟨p, 0, none⟩)] 27)) = W := ⟨_, rfl⟩
  obtain ⟨b0, hb, hz⟩ := new1 _ _ _ _ hW
  have c0 : W.cell? ⟨w.heap.size, 0, none⟩ = some (.pointer (some ⟨p, 0, none⟩)) := b0.cell 0
  have V0 := Lib.hid b0
  have B0 := Lib.hid hb
  have C0 := Lib.hid (hc.below hb)
  have dd := hdoes_any (decS L m) 28 w.heap.size p k pt m L h lb T M a b n c len d W C0.out hm hm2 (ht.below hb) (hM.below hb) hn h16 hlen (fun x _ => decS_length L m x) callDecipher1
    (fun w1 x hw hx => hdec1_any p k pt m w.heap.size L h lb x w1 (C0.out.below hw) hm hm2 (V0.out.belowAll hw) hx)
  have DD := Lib.hid dd
  clear dd b0 hb hz hc ht hM
  go_enter Tryz.func8, Tryz.ntmps8
  go_wp2_with fail
  refine DD.out.mono ?_
  rintro e w1 ⟨v, rfl, own, d1⟩
  have O := Lib.hid (Own8.base own B0.out.size)
  have B1 := Lib.hid (B0.out.trans (d1.mono B0.out.size))
  clear own d1
  go_wp2
  go_ret2
  exact ⟨v, rfl, O.out, B1.out⟩
set_option maxRecDepth 100000 in
theorem hdec_nil (x y : Value) (w : World) :
    Calls Tryz.prog 8 #[.pointer none, x, y] w fun e w' => e = .returned (.tuple #[.slice none 0 0, .int .i64 2]) ∧ Below w.heap.size w w' := by
  obtain ⟨W, hW⟩ : ∃ W, (w.alloc (.cells #[.pointer none] 27)) = W := ⟨_, rfl⟩
  obtain ⟨b0, hb, hz⟩ := new1 _ _ _ _ hW
  have c0 : W.cell? ⟨w.heap.size, 0, none⟩ = some (.pointer none) := b0.cell 0
  go_enter Tryz.func8, Tryz.ntmps8
  go_wp2_with fail
  refine (hdoes_nil x y _ W).mono ?_
  rintro e w1 ⟨rfl, rfl⟩
  go_wp2
  go_ret2
  exact ⟨rfl, hb⟩
set_option maxRecDepth 100000 in
theorem hdec_short (p : Nat) (x : Value) (b : Option Addr) (len d : Nat) (w : World) (hlen : len < 16) :
    Calls Tryz.prog 8 #[.pointer (some ⟨p, 0, none⟩), x, .slice b len d] w fun e w' => e = .returned (.tuple #[.slice none 0 0, .int .i64 7]) ∧ Below w.heap.size w w' := by
  obtain ⟨W, hW⟩ : ∃ W, (w.alloc (.cells #[.pointer (some ⟨p, 0, none⟩)] 27)) = W := ⟨_, rfl⟩
  obtain ⟨b0, hb, hz⟩ := new1 _ _ _ _ hW
  have c0 : W.cell? ⟨w.heap.size, 0, none⟩ = some (.pointer (some ⟨p, 0, none⟩)) := b0.cell 0
  go_enter Tryz.func8, Tryz.ntmps8
  go_wp2_with fail
  refine (hdoes_short p x _ b len d W hlen).mono ?_
  rintro e w1 ⟨rfl, rfl⟩
  go_wp2
  go_ret2
  exact ⟨rfl, hb⟩
end Go.Proofs.YtfdkmjegcghieaaGreatDoor
/- hctr: New -/
namespace Go.Proofs.YtfdkmjegcghieaaGreatDoor
open Go.RowKit
section
variable {P : Program} {ops : Array Oper} {ks : List Nat} {l : List Oper} {a : Act}
theorem run_storeAt_PBpart (w : World) (e t : TypeId) (g o : Nat) (u : Value) (m l : List (BitVec 8)) (hb : Blk w g t (PB u m)) (h2 : (sizeOf e).run P w = .ok l.length w) (h3 : o + l.length ≤ m.length) :
    (putAt e (.pointer (some ⟨g, 1 + o, none⟩)) (.agg (A8 l))).run P w = .ok () (w.setRow g (PB u (splc m o l))) := by
  have hg : w.heap[g]? = some (.cells (PB u m) t (0, 0)) := hb
  have hst := run_storeCells_at (P := P) g (1 + o) t (A8 l).toList 0 (PB u m) w hg (by rw [Array.length_toList, A8_size, PB_size]; omega) (fun v hv => by
    have := Array.all_eq_true'.1 (A8_ones l) v (by simpa using hv)
    exact this)
  have e1 : ((PB u m).toList.take (1 + o + 0) ++ (A8 l).toList ++ (PB u m).toList.drop (1 + o + 0 + (A8 l).toList.length)).toArray = PB u (splc m o l) := by
    simp only [PB, A8, Nat.add_zero, List.length_map]
    rw [Nat.add_comm 1 o, List.take_succ_cons, show o + 1 + l.length = (o + l.length) + 1 by omega, List.drop_succ_cons]
    simp [splc, List.map_take, List.map_drop]
  rw [e1] at hst
  have h2' : (sizeOf e).run P w = .ok (A8 l).size w := by rw [A8_size]; exact h2
  simp only [putAt, Instr.storeAt, Instr.sureAddr, storeVar, Sem.run_bind, Sem.run_pure, Result.andThen_ok, h2', Value.cells, ne_eq, not_true_eq_false, if_false, hst]
theorem z_storePBpart {K : Act → World → Prop} {w : World} {e : TypeId} {p x : Operand} {ty : TypeId} {pos : String} {after : Array Edge} {g o : Nat} {t : TypeId} {u : Value} {m c : List (BitVec 8)} (hb : Blk w g t (PB u m)) (hp : a.eval p = .pointer (some ⟨g, 1 + o, none⟩)) (hv : a.eval x = .agg (A8 c)) (hn : o + c.length ≤ m.length)
    (hsz : (sizeOf e).run P w = .ok c.length w) (h : ∀ w1, Blk w1 g t (PB u (splc m o c)) → w.grownBy w1 (some g) → w1.heap.size = w.heap.size → wpZ P ops K ks l a w1) : wpZ P ops K (2 :: ks) (⟨none, .store e p x, ty, pos, after, none⟩ :: l) a w := by
  have hr : (execOp a.eval ⟨none, .store e p x, ty, pos, after, none⟩).run P w = .ok .skip (w.setRow g (PB u (splc m o c))) := by
    rw [execOp_store', hp, hv, run_storeAt_PBpart w e t g o u m c hb hsz hn]
    simp
  refine z_eff rfl (fun K' hK' => ?_)
  unfold Oper.wp
  rw [hr]
  exact hK' _ _ (h _ (hb.put _) (grown_setRow w g _) (by simp))
end
def hone : List (BitVec 8) := 1#8 :: zeros 8 15
@[go_sem ↓ high] theorem build_hone (w : World) : (Instr.build 37 #[(0, .int .u8 1)]).run Tryz.prog w = .ok (.agg (A8 hone)) w := by kernel_rfl
@[go_sem ↓ high] theorem build_hzero (w : World) : (Instr.build 37 #[]).run Tryz.prog w = .ok (.agg (A8 (zeros 8 16))) w := by kernel_rfl
/-- a key's own blocks -/
def hkey (L : List (BitVec 8)) (m : Nat) : List (BitVec 8) := encS L m (zeros 8 16)
def lkey (L : List (BitVec 8)) (m : Nat) : List (BitVec 8) := encS L m hone
theorem splc_two (h lb : List (BitVec 8)) (hh : h.length = 16) (hl : lb.length = 16) : splc (splc (zeros 8 32) 0 h) 16 lb = h ++ lb := by
  have e0 : splc (zeros 8 32) 0 h = h ++ zeros 8 16 := by simp [splc, zeros, hh]
  rw [e0, splc, List.take_left' hh, List.drop_eq_nil_of_le (by simp [hh, hl]), List.append_nil]
set_option linter.unusedSimpArgs false in
set_option maxRecDepth 100000 in
set_option maxHeartbeats 800000 in
theorem hnew_any (p : Nat) (key : List (BitVec 8)) (a : Option Addr) (n c : Nat) (w : World) (hT : TabAt w p) (hr : Rd8 w a n c key) (hn : n = 16 ∨ n = 24 ∨ n = 32) :
    Calls Tryz.prog 23 #[.pointer (some ⟨p, 0, none⟩), .slice a n c] w fun e w' => ∃ q k, e = .returned (.tuple #[.pointer (some ⟨q, 0, none⟩), .int .i64 0]) ∧ CiAt w' q k p (n / 4 + 7) (sch (n / 4) key (3 * (n / 4) + 28)) (hkey (sch (n / 4) key (3 * (n / 4) + 28)) (n / 4 + 7)) (lkey (sch (n / 4) key (3 * (n / 4) + 28)) (n / 4 + 7)) ∧ Below w.heap.size w w' := by
  have hm : 3 ≤ n / 4 + 7 := by omega
  have hm2 : n / 4 + 7 ≤ 100 := by omega
  have ex := expand_yes p key a n c w hT hr hn
  obtain ⟨m, hm0⟩ : ∃ m, m = n / 4 + 7 := ⟨_, rfl⟩
  obtain ⟨L, hL⟩ : ∃ L, L = sch (n / 4) key (3 * (n / 4) + 28) := ⟨_, rfl⟩
  rw [← hm0, ← hL] at ex
  rw [← hm0] at hm hm2
  rw [← hm0, ← hL]
  have EX := Lib.hid ex
  clear ex hm0 hL hr hT hn
  go_enter Tryz.func23, Tryz.ntmps23
  go_wp2_with fail
  refine EX.out.mono ?_
  rintro e w1 ⟨k, rfl, hk, hkB, d1⟩
  have K1 := Lib.hid hk
  have D1 := Lib.hid d1
  clear hk d1 EX
  obtain ⟨u, hu⟩ : ∃ u : Value, u = .pointer (some ⟨k, 0, none⟩) := ⟨_, rfl⟩
  have HB := Lib.hid (Blk.new w1 63 (PB (.pointer (some ⟨k, 0, none⟩)) (zeros 8 32)))
  have DD := Lib.hid (D1.out.alloc D1.out.size (.cells (PB (.pointer (some ⟨k, 0, none⟩)) (zeros 8 32)) 63))
  have KK := Lib.hid (K1.out.below ((Below.refl w1.heap.size w1).alloc (Nat.le_refl _) (.cells (PB (.pointer (some ⟨k, 0, none⟩)) (zeros 8 32)) 63)))
  have hq1 : w.heap.size ≤ w1.heap.size := D1.out.size
  have LL := Lib.hid (show ∀ w', Below w1.heap.size w1 w' → KeyAt w' k p m L from fun w' h => K1.out.below h)
  have DW := Lib.hid ((Below.refl w1.heap.size w1).alloc (Nat.le_refl _) (.cells (PB (.pointer (some ⟨k, 0, none⟩)) (zeros 8 32)) 63))
  clear K1
  go_upto_region 5 with fail
  generalize hW2 : World.alloc _ _ = W2
  have eW : w1.alloc (.cells (PB (.pointer (some ⟨k, 0, none⟩)) (zeros 8 32)) 63) = W2 := hW2
  rw [eW] at HB DD KK DW
  clear hW2 eW
  generalize w1.heap.size = q at *
  have hHl : (hkey L m).length = 16 := encS_length L m _
  have hLl : (lkey L m).length = 16 := encS_length L m _
  obtain ⟨H, hH⟩ : ∃ H, H = hkey L m := ⟨_, rfl⟩
  obtain ⟨G, hG⟩ : ∃ G, G = lkey L m := ⟨_, rfl⟩
  rw [← hH] at hHl
  rw [← hG] at hLl
  have HH := Lib.hid hH
  have HG := Lib.hid hG
  clear hH hG
  refine wp_region_tail [0,0,0,0,0,5,0,2,0,0,0,5,0,2,0,0,3,0,0,3] (by kernel_rfl) (by kernel_rfl) (fun C0 hC0 hCb K' hK' => ?_)
  have Q1 : ∀ w1, C0 w1 → w1.cell? ⟨q, 0, none⟩ = some (.pointer (some ⟨k, 0, none⟩)) := fun w1 hw => by rw [(HB.out.drew.belowAll (hCb w1 hw)).cell, PB_zero]
  repeat
    first
      | ((with_reducible refine h_pure (v := ?_) (a' := ?_) ?_ (fun _ => ?_) ?_ ?_); rotate_left; rotate_left; (focus (exact rfl)); (focus (go_simp; (try go_bits); exact rfl)); (focus (simp only [Act.put, List.setIfInBounds_toArray, List.set_cons_succ, List.set_cons_zero, Act.eval, Array.getD_eq_getD_getElem?, List.getElem?_toArray, List.getElem?_cons_succ, List.getElem?_cons_zero, Option.getD_some]; exact rfl)))
      | ((with_reducible refine h_obl (v := ?_) (a' := ?_) ?_ (fun _ hcw => ?_) ?_ ?_); rotate_left; rotate_left; (focus (exact rfl)); (focus (have f1 := Q1 _ hcw; go_simp; (try go_bits); exact rfl)); (focus (simp only [Act.put, List.setIfInBounds_toArray, List.set_cons_succ, List.set_cons_zero, Act.eval, Array.getD_eq_getD_getElem?, List.getElem?_toArray, List.getElem?_cons_succ, List.getElem?_cons_zero, Option.getD_some]; exact rfl)))
      | ((with_reducible refine h_read (v := ?_) (a' := ?_) ?_ (fun _ hbw => ?_) ?_ ?_); rotate_left; rotate_left; (focus (exact rfl)); (focus (skip; go_simp; (try go_bits); exact rfl)); (focus (simp only [Act.put, List.setIfInBounds_toArray, List.set_cons_succ, List.set_cons_zero, Act.eval, Array.getD_eq_getD_getElem?, List.getElem?_toArray, List.getElem?_cons_succ, List.getElem?_cons_zero, Option.getD_some]; exact rfl)))
  (with_reducible refine h_call ?_ ?_)
  · exact rfl
  go_simp
  refine entersW_of ?_
  refine (encrypt_any k p m L (zeros 8 16) W2.drew KK.out.drew rfl hm hm2).mono ?_
  rintro e w3 ⟨rfl, d3⟩
  refine ⟨_, rfl, d3, ?_⟩
  try simp only [Act.put, List.setIfInBounds_toArray, List.set_cons_succ, List.set_cons_zero]
  rw [show encS L m (zeros 8 16) = H from HH.out.symm]
  repeat
    first
      | ((with_reducible refine h_pure (v := ?_) (a' := ?_) ?_ (fun _ => ?_) ?_ ?_); rotate_left; rotate_left; (focus (exact rfl)); (focus (go_simp; (try go_bits); exact rfl)); (focus (simp only [Act.put, List.setIfInBounds_toArray, List.set_cons_succ, List.set_cons_zero, Act.eval, Array.getD_eq_getD_getElem?, List.getElem?_toArray, List.getElem?_cons_succ, List.getElem?_cons_zero, Option.getD_some]; exact rfl)))
      | ((with_reducible refine h_obl (v := ?_) (a' := ?_) ?_ (fun _ hcw => ?_) ?_ ?_); rotate_left; rotate_left; (focus (exact rfl)); (focus (have f1 := Q1 _ hcw; go_simp; (try go_bits); exact rfl)); (focus (simp only [Act.put, List.setIfInBounds_toArray, List.set_cons_succ, List.set_cons_zero, Act.eval, Array.getD_eq_getD_getElem?, List.getElem?_toArray, List.getElem?_cons_succ, List.getElem?_cons_zero, Option.getD_some]; exact rfl)))
      | ((with_reducible refine h_read (v := ?_) (a' := ?_) ?_ (fun _ hbw => ?_) ?_ ?_); rotate_left; rotate_left; (focus (exact rfl)); (focus (skip; go_simp; (try go_bits); exact rfl)); (focus (simp only [Act.put, List.setIfInBounds_toArray, List.set_cons_succ, List.set_cons_zero, Act.eval, Array.getD_eq_getD_getElem?, List.getElem?_toArray, List.getElem?_cons_succ, List.getElem?_cons_zero, Option.getD_some]; exact rfl)))
  (with_reducible refine h_call ?_ ?_)
  · exact rfl
  go_simp
  refine entersW_of ?_
  refine (encrypt_any k p m L hone w3 (KK.out.drew.below d3) rfl hm hm2).mono ?_
  rintro e w4 ⟨rfl, d4⟩
  refine ⟨_, rfl, d4, ?_⟩
  try simp only [Act.put, List.setIfInBounds_toArray, List.set_cons_succ, List.set_cons_zero]
  rw [show encS L m hone = G from HG.out.symm]
  have d34 := d3.trans (d4.mono d3.size)
  refine h_tail [0,0,2,0,0,2] rfl (by simp) ?_
  repeat
    first
      | ((with_reducible refine z_move (a' := ?_) ?_ ?_); rotate_left; · (simp only [Act.put, List.setIfInBounds_toArray, List.set_cons_succ, List.set_cons_zero, Act.eval, Array.getD_eq_getD_getElem?, List.getElem?_toArray, List.getElem?_cons_succ, List.getElem?_cons_zero, Option.getD_some]; exact rfl))
      | ((with_reducible refine z_assign (a' := ?_) ?_ ?_); rotate_left; · (simp only [Act.put, List.setIfInBounds_toArray, List.set_cons_succ, List.set_cons_zero, Act.eval, Array.getD_eq_getD_getElem?, List.getElem?_toArray, List.getElem?_cons_succ, List.getElem?_cons_zero, Option.getD_some]; exact rfl))
      | ((with_reducible refine z_obl (v := ?_) (a' := ?_) rfl (fun _ => ?_) ?_ ?_); rotate_left; rotate_left; (focus (go_simp; (try go_bits); exact rfl)); (focus (simp only [Act.put, List.setIfInBounds_toArray, List.set_cons_succ, List.set_cons_zero, Act.eval, Array.getD_eq_getD_getElem?, List.getElem?_toArray, List.getElem?_cons_succ, List.getElem?_cons_zero, Option.getD_some]; exact rfl)))
      | ((with_reducible refine z_read (v := ?_) (a' := ?_) rfl ?_ ?_ ?_); rotate_left; rotate_left; (focus (go_simp; (try go_bits); exact rfl)); (focus (simp only [Act.put, List.setIfInBounds_toArray, List.set_cons_succ, List.set_cons_zero, Act.eval, Array.getD_eq_getD_getElem?, List.getElem?_toArray, List.getElem?_cons_succ, List.getElem?_cons_zero, Option.getD_some]; exact rfl)))
  refine z_storePBpart (o := 0) (HB.out.drew.belowAll d34) rfl rfl (by rw [hHl, zeros_length]; omega) (by rw [hHl]; exact Tryz.sizeOf37 _) (fun w5 k5 g5 s5 => ?_)
  repeat
    first
      | ((with_reducible refine z_move (a' := ?_) ?_ ?_); rotate_left; · (simp only [Act.put, List.setIfInBounds_toArray, List.set_cons_succ, List.set_cons_zero, Act.eval, Array.getD_eq_getD_getElem?, List.getElem?_toArray, List.getElem?_cons_succ, List.getElem?_cons_zero, Option.getD_some]; exact rfl))
      | ((with_reducible refine z_assign (a' := ?_) ?_ ?_); rotate_left; · (simp only [Act.put, List.setIfInBounds_toArray, List.set_cons_succ, List.set_cons_zero, Act.eval, Array.getD_eq_getD_getElem?, List.getElem?_toArray, List.getElem?_cons_succ, List.getElem?_cons_zero, Option.getD_some]; exact rfl))
      | ((with_reducible refine z_obl (v := ?_) (a' := ?_) rfl (fun _ => ?_) ?_ ?_); rotate_left; rotate_left; (focus (go_simp; (try go_bits); exact rfl)); (focus (simp only [Act.put, List.setIfInBounds_toArray, List.set_cons_succ, List.set_cons_zero, Act.eval, Array.getD_eq_getD_getElem?, List.getElem?_toArray, List.getElem?_cons_succ, List.getElem?_cons_zero, Option.getD_some]; exact rfl)))
      | ((with_reducible refine z_read (v := ?_) (a' := ?_) rfl ?_ ?_ ?_); rotate_left; rotate_left; (focus (go_simp; (try go_bits); exact rfl)); (focus (simp only [Act.put, List.setIfInBounds_toArray, List.set_cons_succ, List.set_cons_zero, Act.eval, Array.getD_eq_getD_getElem?, List.getElem?_toArray, List.getElem?_cons_succ, List.getElem?_cons_zero, Option.getD_some]; exact rfl)))
  refine z_storePBpart (o := 16) k5 rfl rfl (by rw [hLl]; simp [splc, hHl]) (by rw [hLl]; exact Tryz.sizeOf37 _) (fun w6 k6 g6 s6 => ?_)
  refine z_nil (hK' _ _ ?_)
  rw [splc_two H G hHl hLl] at k6
  have Kq := HB.out.lt
  have B5 := (DD.out.drew.trans (d34.mono DD.out.size)).grown g5 (Nat.le_trans DD.out.size d34.size) (fun k hk => by cases hk; exact hq1)
  have B6 := B5.grown g6 B5.size (fun k hk => by cases hk; exact hq1)
  have dq : q ≤ W2.drew.heap.size := Nat.le_of_lt Kq
  have E5 := (DW.out.drew.trans (d34.mono dq)).grown g5 (Nat.le_trans dq d34.size) (fun k hk => by cases hk; exact Nat.le_refl _)
  have E6 := E5.grown g6 (Nat.le_trans (Nat.le_trans dq d34.size) (by omega)) (fun k hk => by cases hk; exact Nat.le_refl _)
  have CI : CiAt w6 q k p m L H G := ⟨LL.out _ E6, k6, hHl, hLl⟩
  rw [HH.out, HG.out] at CI
  have CI2 := Lib.hid CI
  have BB := Lib.hid B6
  clear Q1 hC0 hCb hK' d3 d4 d34 k5 g5 s5 k6 g6 s6 B5 B6 E5 E6 CI HB DD KK LL DW D1
  go_wp2
  go_ret2
  exact ⟨q, k, rfl, CI2.out, BB.out⟩
set_option maxRecDepth 100000 in
theorem hnew_nil (x : Value) (w : World) :
    Calls Tryz.prog 23 #[.pointer none, x] w fun e w' => e = .returned (.tuple #[.pointer none, .int .i64 1]) ∧ Below w.heap.size w w' := by
  go_enter Tryz.func23, Tryz.ntmps23
  go_wp2_with fail
  refine (expand_nil x w).mono ?_
  rintro e w1 ⟨rfl, rfl⟩
  go_wp2
  go_ret2
  exact ⟨rfl, Below.refl _ _⟩
set_option maxRecDepth 100000 in
theorem hnew_no (p : Nat) (a : Option Addr) (n c : Nat) (w : World) (hn : ¬ (n = 16 ∨ n = 24 ∨ n = 32)) :
    Calls Tryz.prog 23 #[.pointer (some ⟨p, 0, none⟩), .slice a n c] w fun e w' => e = .returned (.tuple #[.pointer none, .int .i64 2]) ∧ Below w.heap.size w w' := by
  go_enter Tryz.func23, Tryz.ntmps23
  go_wp2_with fail
  refine (expand_no p a n c w hn).mono ?_
  rintro e w1 ⟨rfl, rfl⟩
  go_wp2
  go_ret2
  exact ⟨rfl, Below.refl _ _⟩
end Go.Proofs.YtfdkmjegcghieaaGreatDoor
