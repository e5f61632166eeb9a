/- numbers of 128 bits: their cells -/
import Derived.Test.YtpifdkkhdgbcdaaGreatDoorMGa
import Derived.Test.YtpifdkkhdgbcdaaGreatDoorMGb
namespace Go.Proofs.YtpifdkkhdgbcdaaGreatDoor
open Lib (hid)
set_option linter.unusedSimpArgs false
set_option maxRecDepth 100000
set_option maxHeartbeats 1600000
open Go.RowKit
@[go_sem] theorem cellsOf161 : Tryz.prog.cellsOf 161 = 2 := by kernel_rfl
theorem zero161 (w : World) : (zeroValue 161).run Tryz.prog w = .ok (.agg (A64 (zeros 64 2))) w := by kernel_rfl
@[go_sem ↓ high] theorem alloc161 (w : World) : (Instr.alloc 161 true (.tuple #[])).run Tryz.prog w = .ok (.pointer (some ⟨w.heap.size, 0, none⟩)) (w.alloc (.cells (A64 (zeros 64 2)) 161)) := alloc_of_zero zero161 w
@[go_sem ↓ high] theorem build0161 (w : World) : (Instr.build 161 #[]).run Tryz.prog w = .ok (.agg (A64 (zeros 64 2))) w := by kernel_rfl
@[go_sem] theorem cellsOf252 : Tryz.prog.cellsOf 252 = 32 := by kernel_rfl
@[go_sem ↓ high] theorem build0252 (w : World) : (Instr.build 252 #[]).run Tryz.prog w = .ok (.agg (A64 (zeros 64 32))) w := by kernel_rfl
@[go_sem] theorem cellsOf254 : Tryz.prog.cellsOf 254 = 32 := by kernel_rfl
@[go_sem ↓ high] theorem build0254 (w : World) : (Instr.build 254 #[]).run Tryz.prog w = .ok (.agg (A64 (zeros 64 32))) w := by kernel_rfl
abbrev W2 := BitVec 64 × BitVec 64
def wl (x : W2) : List (BitVec 64) := [x.1, x.2]
@[simp] theorem wl_length (x : W2) : (wl x).length = 2 := rfl
def buildB2 (e : TypeId) (a b : Value) : Sem Value := Instr.build e #[(0, a), (1, b)]
@[go_sem ↓ high] theorem execOp_buildB2 {P : Program} {ρ : Operand → Value} {w : World} {dst : Option Tmp} {ty : TypeId} {pos : String} {after : Array Edge} {guard : Option (Nat × Bool)} (e : TypeId) (a b : Operand) : (execOp ρ ⟨dst, .build e #[(0, a), (1, b)], ty, pos, after, guard⟩).run P w = ((buildB2 e (ρ a) (ρ b)).run P w).andThen fun v w' => .ok (.value v) w' := by simp [execOp, buildB2]
@[go_sem high] theorem buildB2_wide (a b : BitVec 64) (w : World) : (buildB2 161 (v64 a) (v64 b)).run Tryz.prog w = .ok (.agg (A64 [a, b])) w := by kernel_rfl
open Go.RowKit
theorem load_any (l : List (BitVec 8)) (a : Option Addr) (n c : Nat) (w : World) (hr : Rd8 w a n c l) :
  Calls Tryz.prog 122 #[.slice a n c] w fun e w' => e = .returned (.agg (A64 (wl (long l 0, long l 8)))) ∧ Below w.heap.size w w' := by
 obtain ⟨W, hW⟩ : ∃ W, (w.alloc (.cells (A64 (zeros 64 2)) 161)) = W := ⟨_, rfl⟩
 obtain ⟨b0, hb, hz⟩ := new1 _ _ _ _ hW
 have K0 := hid b0
 have B0 := hid hb
 have R0 := hid (hr.below hb)
 clear b0 hb hz hr
 go_enter Tryz.func122, Tryz.ntmps122
 go_wp2_with fail
 clear hW
 refine (long_any l a n c 0 W R0.out (by omega) (by omega)).mono ?_
 rintro e w1 ⟨rfl, d1⟩
 go_wp2_with fail
 refine (long_any l a n c 8 w1 (R0.out.below d1) (by omega) (by omega)).mono ?_
 rintro e w2 ⟨rfl, d2⟩
 have D2 := d1.trans (d2.mono d1.size)
 have k2 := K0.out.belowAll D2
 have r1 := k2.row
 have r2 := k2.whole
 have BB := below_setRow (B0.out.trans (D2.mono B0.out.size)) (Nat.le_refl _) (A64 (wl (long l 0, long l 8)))
 have KK := (k2.put (A64 (wl (long l 0, long l 8)))).row
 have K3 := hid KK
 have B3 := hid BB
 clear d1 d2 D2 k2 BB KK K0 B0 R0
 go_wp2
 refine bodyPost_row (A64 (wl (long l 0, long l 8))) rfl rfl rfl (Tryz.isAgg161 _) (Tryz.sizeOf161 _) rfl K3.out ⟨rfl, B3.out⟩
end Go.Proofs.YtpifdkkhdgbcdaaGreatDoor
