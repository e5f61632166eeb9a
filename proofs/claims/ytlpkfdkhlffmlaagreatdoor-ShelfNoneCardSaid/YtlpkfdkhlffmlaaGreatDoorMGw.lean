/-numbers of 128 bits:their cells-/
import Derived.Test.YtlpkfdkhlffmlaaGreatDoorMGa
import Derived.Test.YtlpkfdkhlffmlaaGreatDoorMGb
namespace Go.Proofs.YtlpkfdkhlffmlaaGreatDoor
open Go.Proofs.Tryz
open Lib (hid)
set_option linter.unusedSimpArgs false
set_option linter.unusedVariables false
set_option maxRecDepth 100000
set_option maxHeartbeats 1600000
open Go.RowKit
@[go_sem] theorem zF:prog.cellsOf 242=2:=by kernel_rfl
theorem xF(w:World):(zeroValue 242).run prog w= .ok (.agg (A64 (aa 64 2))) w:=by kernel_rfl
@[go_sem ↓ high] theorem Bx(w:World):(Instr.alloc 242 true (.tuple #[])).run prog w= .ok (.pointer (some ⟨w.heap.size,0,none⟩)) (w.alloc (.cells (A64 (aa 64 2)) 242)):=aA xF w
@[go_sem ↓ high] theorem AG(w:World):(Instr.build 242 #[]).run prog w= .ok (.agg (A64 (aa 64 2))) w:=by kernel_rfl
@[go_sem] theorem zG:prog.cellsOf 368=32:=by kernel_rfl
@[go_sem ↓ high] theorem AH(w:World):(Instr.build 368 #[]).run prog w= .ok (.agg (A64 (aa 64 32))) w:=by kernel_rfl
@[go_sem] theorem zH:prog.cellsOf 370=32:=by kernel_rfl
@[go_sem ↓ high] theorem AI(w:World):(Instr.build 370 #[]).run prog w= .ok (.agg (A64 (aa 64 32))) w:=by kernel_rfl
abbrev W2:=BitVec 64×BitVec 64
def wl(x:W2):List (BitVec 64):=[x.1,x.2]
@[simp] theorem AJ(x:W2):(wl x).length=2:=rfl
def iM(e:TypeId)(a b:Value):Sem Value:=Instr.build e #[(0,a),(1,b)]
@[go_sem ↓ high] theorem wh {P:Program} {ρ:Operand→Value} {w:World} {dst:Option Tmp} {ty:TypeId} {pos:String} {after:Array Edge} {guard:Option (Nat×Bool)}(e:TypeId)(a b:Operand):(execOp ρ ⟨dst,.build e #[(0,a),(1,b)],ty,pos,after,guard⟩).run P w=((iM e (ρ a) (ρ b)).run P w).andThen fun v w' => .ok (.value v) w':=by simp[execOp,iM]
@[go_sem high] theorem xG(a b:BitVec 64)(w:World):(iM 242 (v64 a) (v64 b)).run prog w= .ok (.agg (A64 [a,b])) w:=by kernel_rfl
open Go.RowKit
theorem fS(l:Y8)(a:Option Addr)(n c:Nat)(w:World)(hr:Rd8 w a n c l):
  Calls prog 230 #[.slice a n c] w fun e w' =>e= .returned (.agg (A64 (wl (long l 0,long l 8))))∧Below w.heap.size w w':=by
 obtain⟨W,hW⟩: ∃W,(w.alloc (.cells (A64 (aa 64 2)) 242))=W:=⟨_,rfl⟩;obtain⟨b0,hb,hz⟩:=new1 _ _ _ _ hW;have K0:=hid b0;have B0:=hid hb;have R0:=hid (hr.below hb);clear b0 hb hz hr;go_enter func230,ntmps230;go_wp2_with fail;clear hW;refine(oU l a n c 0 W R0.out (by omega) (by omega)).mono ?_;rintro e w1 ⟨rfl,d1⟩;go_wp2_with fail;refine(oU l a n c 8 w1 (R0.out.below d1) (by omega) (by omega)).mono ?_;rintro e w2 ⟨rfl,d2⟩;have D2:=d1.trans (d2.mono d1.size);have k2:=K0.out.belowAll D2;have r1:=k2.row;have r2:=k2.whole;have BB:=below_setRow (B0.out.trans (D2.mono B0.out.size)) (Nat.le_refl _) (A64 (wl (long l 0,long l 8)));have KK:=(k2.put (A64 (wl (long l 0,long l 8)))).row;have K3:=hid KK;have B3:=hid BB;clear d1 d2 D2 k2 BB KK K0 B0 R0;go_wp2;refine ag (A64 (wl (long l 0,long l 8))) rfl rfl rfl (isAgg242 _) (sizeOf242 _) rfl K3.out ⟨rfl,B3.out⟩
end Go.Proofs.YtlpkfdkhlffmlaaGreatDoor
