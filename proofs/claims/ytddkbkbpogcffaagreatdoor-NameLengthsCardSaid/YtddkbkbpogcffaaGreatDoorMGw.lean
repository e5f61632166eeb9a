/-numbers of 128 bits:their cells-/
import Derived.Test.YtddkbkbpogcffaaGreatDoorMGa
import Derived.Test.YtddkbkbpogcffaaGreatDoorMGb
import Derived.Test.YtddkbkbpogcffaaGreatDoorMGu
namespace Go.Proofs.YtddkbkbpogcffaaGreatDoor
open Go.Proofs.Tryz
open Lib (hid)
set_option linter.unusedSimpArgs false
set_option linter.unusedVariables false
set_option maxRecDepth 100000
set_option maxHeartbeats 1600000
open Go.RowKit
@[go_sem] theorem Kl:prog.cellsOf 250=2:=by kernel_rfl
theorem Hn(w:World):(zeroValue 250).run prog w= .ok (.agg (A64 (ac 64 2))) w:=by kernel_rfl
@[go_sem ↓ high] theorem My(w:World):(Instr.alloc 250 true (.tuple #[])).run prog w= .ok (.pointer (some ⟨w.heap.size,0,none⟩)) (w.alloc (.cells (A64 (ac 64 2)) 250)):=aP Hn w
@[go_sem ↓ high] theorem LB(w:World):(Instr.build 250 #[]).run prog w= .ok (.agg (A64 (ac 64 2))) w:=by kernel_rfl
@[go_sem] theorem Km:prog.cellsOf 356=32:=by kernel_rfl
@[go_sem ↓ high] theorem LC(w:World):(Instr.build 356 #[]).run prog w= .ok (.agg (A64 (ac 64 32))) w:=by kernel_rfl
@[go_sem] theorem Kn:prog.cellsOf 358=32:=by kernel_rfl
@[go_sem ↓ high] theorem LD(w:World):(Instr.build 358 #[]).run prog w= .ok (.agg (A64 (ac 64 32))) w:=by kernel_rfl
abbrev W2:=BitVec 64×BitVec 64
def wl(x:W2):List (BitVec 64):=[x.1,x.2]
@[simp] theorem CB(x:W2):(wl x).length=2:=rfl
def dM(e:TypeId)(a b:Value):Sem Value:=Instr.build e #[(0,a),(1,b)]
@[go_sem ↓ high] theorem io {P:Program} {ρ:Operand→Value} {w:World} {dst:Option Tmp} {ty:TypeId} {pos:String} {after:Array Edge} {guard:Option (Nat×Bool)}(e:TypeId)(a b:Operand):(execOp ρ ⟨dst,.build e #[(0,a),(1,b)],ty,pos,after,guard⟩).run P w=((dM e (ρ a) (ρ b)).run P w).andThen fun v w' => .ok (.value v) w':=by simp[execOp,dM]
@[go_sem high] theorem Ho(a b:BitVec 64)(w:World):(dM 250 (v64 a) (v64 b)).run prog w= .ok (.agg (A64 [a,b])) w:=by kernel_rfl
open Go.RowKit
theorem ji(l:Y8)(a:Option Addr)(n c:Nat)(w:World)(hr:Rd8 w a n c l):
  Calls prog 240 #[.slice a n c] w fun e w' =>e= .returned (.agg (A64 (wl (long l 0,long l 8))))∧Below w.heap.size w w':=by
 obtain⟨W,hW⟩: ∃W,(w.alloc (.cells (A64 (ac 64 2)) 250))=W:=⟨_,rfl⟩;obtain⟨b0,hb,hz⟩:=new1 _ _ _ _ hW;have K0:=hid b0;have B0:=hid hb;have R0:=hid (hr.below hb);clear b0 hb hz hr;go_enter func240,ntmps240;go_wp2_with fail;clear hW;refine(qH l a n c 0 W R0.out (by omega) (by omega)).mono ?_;rintro e w1 ⟨rfl,d1⟩;go_wp2_with fail;refine(qH l a n c 8 w1 (R0.out.below d1) (by omega) (by omega)).mono ?_;rintro e w2 ⟨rfl,d2⟩;have D2:=d1.trans (d2.mono d1.size);have k2:=K0.out.belowAll D2;have r1:=k2.row;have r2:=k2.whole;have BB:=below_setRow (B0.out.trans (D2.mono B0.out.size)) (Nat.le_refl _) (A64 (wl (long l 0,long l 8)));have KK:=(k2.put (A64 (wl (long l 0,long l 8)))).row;have K3:=hid KK;have B3:=hid BB;clear d1 d2 D2 k2 BB KK K0 B0 R0;go_wp2;refine aj (A64 (wl (long l 0,long l 8))) rfl rfl rfl (isAgg250 _) (sizeOf250 _) rfl K3.out ⟨rfl,B3.out⟩
open Go.RowKit
variable {P:Program}
theorem nT {P:Program}(w:World)(e t:TypeId)(g off:Nat)(m l:List (BitVec 64))(hb:Blk w g t (A64 m))(h2:(sizeOf e).run P w= .ok l.length w)(h3:off+l.length≤m.length):
  (bR e (.pointer (some ⟨g,off,none⟩)) (.agg (A64 l))).run P w= .ok () (w.setRow g (A64 (splc m off l))):=by
 have hg:w.heap[g]? =some (.cells (A64 m) t (0,0)):=hb;have hst:=run_storeCells_at (P:=P) g off t (A64 l).toList 0 (A64 m) w hg (by rw[Array.length_toList,bS,bS];omega) (fun v hv=>by
  have:=Array.all_eq_true'.1 (dY l) v (by simpa using hv);exact this)
 have e1:((A64 m).toList.take (off+0)++(A64 l).toList++(A64 m).toList.drop (off+0+(A64 l).toList.length)).toArray=A64 (splc m off l):=by
  simp[A64,splc]
 rw[e1]at hst;have h2':(sizeOf e).run P w= .ok (A64 l).size w:=by rw[bS];exact h2
 simp only[bR,Instr.storeAt,Instr.sureAddr,storeVar,Sem.run_bind,Sem.run_pure,Result.andThen_ok,h2',Value.cells,ne_eq,not_true_eq_false,if_false,hst]
variable {ops:Array Oper} {ks:List Nat} {l:List Oper} {a:Act}
theorem xe {K:Act→World→Prop} {w:World} {e:TypeId} {p x:Operand} {ty:TypeId} {pos:String} {after:Array Edge} {g off:Nat} {t:TypeId} {m c:List (BitVec 64)}(hb:Blk w g t (A64 m))(hp:a.eval p= .pointer (some ⟨g,off,none⟩))(hv:a.eval x= .agg (A64 c))(hn:off+c.length≤m.length)
  (hsz:(sizeOf e).run P w= .ok c.length w) (h: ∀w1,Blk w1 g t (A64 (splc m off c))→w.grownBy w1 (some g)→w1.heap.size=w.heap.size→wpZ P ops K ks l a w1):wpZ P ops K (2::ks) (⟨none,.store e p x,ty,pos,after,none⟩::l) a w:=by
 have hr:(execOp a.eval ⟨none,.store e p x,ty,pos,after,none⟩).run P w= .ok .skip (w.setRow g (A64 (splc m off c))):=by
  rw[aV,hp,hv,nT w e t g off m c hb hsz hn];simp
 refine kB rfl (fun K' hK' => ?_);unfold Oper.wp;rw[hr];exact hK' _ _ (h _ (hb.put _) (aK w g _) (by simp))
theorem xf(m:List (BitVec 64))(i j:Nat):(A64 m).extract i j=A64 ((m.drop i).take (j-i)):=by
 simp[A64,List.extract_eq_take_drop,List.map_drop,List.map_take]
end Go.Proofs.YtddkbkbpogcffaaGreatDoor
