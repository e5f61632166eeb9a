/- numbers of 128 bits: their cells -/
import Derived.Test.YtfdkmjegcghieaaGreatDoorGa
import Derived.Test.YtfdkmjegcghieaaGreatDoorGb
import Derived.Test.YtfdkmjegcghieaaGreatDoorGu
namespace Go.Proofs.YtfdkmjegcghieaaGreatDoor
open Go.RowKit
@[go_sem] theorem cellsOf76 : Tryz.prog.cellsOf 76 = 2 := by kernel_rfl
theorem zero76 (w : World) : (zeroValue 76).run Tryz.prog w = .ok (.agg (A64 (zeros 64 2))) w := by kernel_rfl
@[go_sem ↓ high] theorem alloc76 (w : World) : (Instr.alloc 76 true (.tuple #[])).run Tryz.prog w = .ok (.pointer (some ⟨w.heap.size, 0, none⟩)) (w.alloc (.cells (A64 (zeros 64 2)) 76)) := alloc_of_zero zero76 w
@[go_sem ↓ high] theorem build076 (w : World) : (Instr.build 76 #[]).run Tryz.prog w = .ok (.agg (A64 (zeros 64 2))) w := by kernel_rfl
@[go_sem] theorem cellsOf235 : Tryz.prog.cellsOf 235 = 32 := by kernel_rfl
theorem zero235 (w : World) : (zeroValue 235).run Tryz.prog w = .ok (.agg (A64 (zeros 64 32))) w := by kernel_rfl
@[go_sem ↓ high] theorem alloc235 (w : World) : (Instr.alloc 235 true (.tuple #[])).run Tryz.prog w = .ok (.pointer (some ⟨w.heap.size, 0, none⟩)) (w.alloc (.cells (A64 (zeros 64 32)) 235)) := alloc_of_zero zero235 w
@[go_sem ↓ high] theorem build0235 (w : World) : (Instr.build 235 #[]).run Tryz.prog w = .ok (.agg (A64 (zeros 64 32))) w := by kernel_rfl
@[go_sem] theorem cellsOf237 : Tryz.prog.cellsOf 237 = 32 := by kernel_rfl
theorem zero237 (w : World) : (zeroValue 237).run Tryz.prog w = .ok (.agg (A64 (zeros 64 32))) w := by kernel_rfl
@[go_sem ↓ high] theorem alloc237 (w : World) : (Instr.alloc 237 true (.tuple #[])).run Tryz.prog w = .ok (.pointer (some ⟨w.heap.size, 0, none⟩)) (w.alloc (.cells (A64 (zeros 64 32)) 237)) := alloc_of_zero zero237 w
@[go_sem ↓ high] theorem build0237 (w : World) : (Instr.build 237 #[]).run Tryz.prog w = .ok (.agg (A64 (zeros 64 32))) w := by kernel_rfl
abbrev W2 := BitVec 64 × BitVec 64
/-- a number of 128 bits as its two words -/
def wl (x : W2) : List (BitVec 64) := [x.1, x.2]
@[simp] theorem wl_length (x : W2) : (wl x).length = 2 := rfl
def buildB2 (e : TypeId) (a b : Value) : Sem Value := Instr.build e #[(0, a), (1, b)]
@[go_sem ↓ high] theorem execOp_buildB2 {P : Program} {ρ : Operand → Value} {w : World} {dst : Option Tmp} {ty : TypeId} {pos : String} {after : Array Edge} {guard : Option (Nat × Bool)} (e : TypeId) (a b : Operand) : (execOp ρ ⟨dst, .build e #[(0, a), (1, b)], ty, pos, after, guard⟩).run P w = ((buildB2 e (ρ a) (ρ b)).run P w).andThen fun v w' => .ok (.value v) w' := by simp [execOp, buildB2]
@[go_sem high] theorem buildB2_wide (a b : BitVec 64) (w : World) : (buildB2 76 (v64 a) (v64 b)).run Tryz.prog w = .ok (.agg (A64 [a, b])) w := by kernel_rfl
end Go.Proofs.YtfdkmjegcghieaaGreatDoor
/- octet: Load -/
namespace Go.Proofs.YtfdkmjegcghieaaGreatDoor
open Go.RowKit
set_option linter.unusedSimpArgs false in
set_option maxRecDepth 100000 in
theorem load_any (l : List (BitVec 8)) (a : Option Addr) (n c : Nat) (w : World) (hr : Rd8 w a n c l) :
    Calls Tryz.prog 79 #[.slice a n c] w fun e w' => e = .returned (.agg (A64 (wl (long l 0, long l 8)))) ∧ Below w.heap.size w w' := by
  obtain ⟨W, hW⟩ : ∃ W, (w.alloc (.cells (A64 (zeros 64 2)) 76)) = W := ⟨_, rfl⟩
  obtain ⟨b0, hb, hz⟩ := new1 _ _ _ _ hW
  have K0 := Lib.hid b0
  have B0 := Lib.hid hb
  have R0 := Lib.hid (hr.below hb)
  clear b0 hb hz hr
  go_enter Tryz.func79, Tryz.ntmps79
  go_wp2_with fail
  clear hW
  refine (long_any l a n c 0 W R0.out (by omega) (by omega)).mono ?_
  rintro e w1 ⟨rfl, d1⟩
  go_wp2_with fail
  refine (long_any l a n c 8 w1 (R0.out.below d1) (by omega) (by omega)).mono ?_
  rintro e w2 ⟨rfl, d2⟩
  have D2 := d1.trans (d2.mono d1.size)
  have k2 := K0.out.belowAll D2
  have r1 := k2.row
  have r2 := k2.whole
  have BB := below_setRow (B0.out.trans (D2.mono B0.out.size)) (Nat.le_refl _) (A64 (wl (long l 0, long l 8)))
  have KK := (k2.put (A64 (wl (long l 0, long l 8)))).row
  have K3 := Lib.hid KK
  have B3 := Lib.hid BB
  clear d1 d2 D2 k2 BB KK K0 B0 R0
  go_wp2
  refine bodyPost_row (A64 (wl (long l 0, long l 8))) rfl rfl rfl (Tryz.isAgg76 _) (Tryz.sizeOf76 _) rfl K3.out ⟨rfl, B3.out⟩
end Go.Proofs.YtfdkmjegcghieaaGreatDoor
/- a part of a block of words is read and written -/
namespace Go.Proofs.YtfdkmjegcghieaaGreatDoor
open Go.RowKit
variable {P : Program}
theorem run_storeAt_part {P : Program} (w : World) (e t : TypeId) (g off : Nat) (m l : List (BitVec 64)) (hb : Blk w g t (A64 m)) (h2 : (sizeOf e).run P w = .ok l.length w) (h3 : off + l.length ≤ m.length) :
    (putAt e (.pointer (some ⟨g, off, none⟩)) (.agg (A64 l))).run P w = .ok () (w.setRow g (A64 (splc m off l))) := by
  have hg : w.heap[g]? = some (.cells (A64 m) t (0, 0)) := hb
  have hst := run_storeCells_at (P := P) g off t (A64 l).toList 0 (A64 m) w hg (by rw [Array.length_toList, A64_size, A64_size]; omega) (fun v hv => by
    have := Array.all_eq_true'.1 (A64_ones l) v (by simpa using hv)
    exact this)
  have e1 : ((A64 m).toList.take (off + 0) ++ (A64 l).toList ++ (A64 m).toList.drop (off + 0 + (A64 l).toList.length)).toArray = A64 (splc m off l) := by
    simp [A64, splc]
  rw [e1] at hst
  have h2' : (sizeOf e).run P w = .ok (A64 l).size w := by rw [A64_size]; exact h2
  simp only [putAt, Instr.storeAt, Instr.sureAddr, storeVar, Sem.run_bind, Sem.run_pure, Result.andThen_ok, h2', Value.cells, ne_eq, not_true_eq_false, if_false, hst]
variable {ops : Array Oper} {ks : List Nat} {l : List Oper} {a : Act}
theorem z_storePart {K : Act → World → Prop} {w : World} {e : TypeId} {p x : Operand} {ty : TypeId} {pos : String} {after : Array Edge} {g off : Nat} {t : TypeId} {m c : List (BitVec 64)} (hb : Blk w g t (A64 m)) (hp : a.eval p = .pointer (some ⟨g, off, none⟩)) (hv : a.eval x = .agg (A64 c)) (hn : off + c.length ≤ m.length)
    (hsz : (sizeOf e).run P w = .ok c.length w) (h : ∀ w1, Blk w1 g t (A64 (splc m off c)) → w.grownBy w1 (some g) → w1.heap.size = w.heap.size → wpZ P ops K ks l a w1) : wpZ P ops K (2 :: ks) (⟨none, .store e p x, ty, pos, after, none⟩ :: l) a w := by
  have hr : (execOp a.eval ⟨none, .store e p x, ty, pos, after, none⟩).run P w = .ok .skip (w.setRow g (A64 (splc m off c))) := by
    rw [execOp_store', hp, hv, run_storeAt_part w e t g off m c hb hsz hn]
    simp
  refine z_eff rfl (fun K' hK' => ?_)
  unfold Oper.wp
  rw [hr]
  exact hK' _ _ (h _ (hb.put _) (grown_setRow w g _) (by simp))
theorem A64_part (m : List (BitVec 64)) (i j : Nat) : (A64 m).extract i j = A64 ((m.drop i).take (j - i)) := by
  simp [A64, List.extract_eq_take_drop, List.map_drop, List.map_take]
end Go.Proofs.YtfdkmjegcghieaaGreatDoor
