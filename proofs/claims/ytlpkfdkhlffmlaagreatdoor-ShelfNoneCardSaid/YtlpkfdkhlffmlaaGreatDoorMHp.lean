/-prime:carried-/
import Derived.Test.YtlpkfdkhlffmlaaGreatDoorMGa
import Derived.Test.YtlpkfdkhlffmlaaGreatDoorMPl
import Derived.Test.YtlpkfdkhlffmlaaGreatDoorMGc
import Derived.Test.YtlpkfdkhlffmlaaGreatDoorMGb
import Derived.Test.YtlpkfdkhlffmlaaGreatDoorMGs
import Derived.Laws.Cover3
import Derived.Test.YtlpkfdkhlffmlaaGreatDoorMGo
import Derived.Test.YtlpkfdkhlffmlaaGreatDoorMGu
import Derived.Test.YtlpkfdkhlffmlaaGreatDoorMHk
import Derived.Test.YtlpkfdkhlffmlaaGreatDoorMGw
import Derived.Test.YtlpkfdkhlffmlaaGreatDoorMWd3
namespace Go.Proofs.YtlpkfdkhlffmlaaGreatDoor
open Go.Proofs.Tryz
open Lib (hid)
set_option linter.unusedSimpArgs false
set_option linter.unusedVariables false
set_option maxRecDepth 100000
set_option maxHeartbeats 1600000
open Go.RowKit
def dU(w:List (BitVec 64)):Nat→List (BitVec 64)
 |0=>w
 |1=>w.set 0 (cq0 w&&&msk)
 |2=>(w.set 0 (cq0 w&&&msk)).set 1 (cq1 w&&&msk)
 |3=>((w.set 0 (cq0 w&&&msk)).set 1 (cq1 w&&&msk)).set 2 (cq2 w&&&msk)
 |4=>(((w.set 0 (cq0 w&&&msk)).set 1 (cq1 w&&&msk)).set 2 (cq2 w&&&msk)).set 3 (cq3 w&&&msk)
 |_=>((((w.set 0 (cq0 w&&&msk)).set 1 (cq1 w&&&msk)).set 2 (cq2 w&&&msk)).set 3 (cq3 w&&&msk)).set 4 (cq4 w&&&msk)
def lU(w:List (BitVec 64)):Nat→BitVec 64
 |0=>0#64
 |1=>cq0 w>>>26
 |2=>cq1 w>>>26
 |3=>cq2 w>>>26
 |4=>cq3 w>>>26
 |_=>cq4 w>>>26
theorem iW(w:List (BitVec 64))(h:w.length=5): ∀k,k≤5→(dU w k).length=5
 |0,_=>h
 |1,_=>by simp[dU,h]
 |2,_=>by simp[dU,h]
 |3,_=>by simp[dU,h]
 |4,_=>by simp[dU,h]
 |5,_=>by simp[dU,h]
theorem rZ(w:List (BitVec 64))(h:w.length=5)(k:Nat)(hk:k<5):
  (dU w k).set k ((nth (dU w k) k+lU w k)&&&msk)=dU w (k+1)∧(nth (dU w k) k+lU w k)>>>26=lU w (k+1):=by
 match w,h with
 | [a0,a1,a2,a3,a4],_=>
  have:k=0∨k=1∨k=2∨k=3∨k=4:=by omega
  rcases this with rfl|rfl|rfl|rfl|rfl<;>exact⟨rfl,rfl⟩
theorem sc(w:List (BitVec 64))(h:w.length=5):(dU w 5).set 0 (nth (dU w 5) 0+5#64*lU w 5)=carr w:=by
 match w,h with
 | [a0,a1,a2,a3,a4],_=>rfl
theorem pQ(x:List (BitVec 64))(w:World)(hx:x.length=5):
  Calls prog 254 #[.agg (A64 x)] w fun e w' =>e= .returned (.agg (A64 (carr x)))∧Below w.heap.size w w':=by
 obtain⟨W,hW⟩: ∃W,(w.alloc (.cells (A64 x) 351)).alloc (.cells (A64 (aa 64 5)) 351)=W:=⟨_,rfl⟩;obtain⟨b0,b1,hb,hz⟩:=new2 _ _ _ _ _ _ hW;have P0:=hid b0;have Z0:=hid b1;have B0:=hid hb;clear b0 b1 hb hz;go_enter func254,ntmps254;go_wp2_with fail;go_loopw [3,5] (fun cy i wr=> ∃k:Nat,k≤5∧i= .int .i64 k∧cy=v64 (lU x k)∧Blk wr w.heap.size 351 (A64 (dU x k))∧Blk wr (w.heap.size+1) 351 (A64 (aa 64 5))∧Below w.heap.size w wr) (fun _ i _=>5-(intOf i).toNat)
 case atStart=>exact⟨0,Nat.zero_le _,rfl,rfl,P0.out,Z0.out,B0.out⟩
 case round=>
  obtain⟨k,hk,rfl,rfl,hP,hZ,hB⟩:=hrel;have P1:=hid hP;have Z1:=hid hZ;have B1:=hid hB;clear hP hZ hB P0 Z0 B0 hW;by_cases hk5:k<5
  ·have k1:(k:Int)<5:=by omega
   have k0:(0:Int)≤(k:Int):=by omega
   have hl:=iW x hx k hk;have c1:=P1.out.cell64 hl k hk5;have fo:=P1.out.frozen k;obtain⟨e1,e2⟩:=rZ x hx k hk5;obtain⟨A,hA⟩: ∃A,A=nth (dU x k) k:=⟨_,rfl⟩;obtain⟨C,hC⟩: ∃C,C=lU x k:=⟨_,rfl⟩;rw[←hA]at c1;rw[←hA,←hC]at e1 e2;rw[←hC];obtain⟨S,hS⟩: ∃S,S=A+C:=⟨_,rfl⟩;rw[←hS]at e1 e2;have f0: ∀t,binOp .add t (v64 A) (v64 C)=pure (v64 S):=fun t=>by rw[hS];exact kF t A C
   obtain⟨M,hM⟩: ∃M,M=S&&&msk:=⟨_,rfl⟩;obtain⟨N,hN⟩: ∃N,N=S>>>26:=⟨_,rfl⟩;rw[←hM]at e1;rw[←hN]at e2;have f1: ∀t,binOp .and t (v64 S) (.int .u64 67108863)=pure (v64 M):=fun t=>by rw[hM];exact iA t S msk
   have f2: ∀t,binOp .shr t (v64 S) (.int .u64 26)=pure (v64 N):=fun t=>by rw[hN];exact gp t .u64 S 26 (by decide)
   have kk:=P1.out.set_ k (v64 S);rw[fe]at kk;have c2:(wr.setCell ⟨w.heap.size,k,none⟩ (v64 S)).cell? ⟨w.heap.size,k,none⟩=some (v64 S):=by
    rw[kk.cell64 (m:=5) (by rw[List.length_set,hl]) k hk5,dg _ _ _ _ (by omega),if_pos rfl]
   have fo2:=kk.frozen k;have kk2:=kk.set_ k (v64 M);rw[fe,List.set_set,e1]at kk2;have P2:=hid kk2;have Z2:=hid ((Z1.out.far (p:=⟨w.heap.size,k,none⟩) (by simp) (v64 S)).far (p:=⟨w.heap.size,k,none⟩) (by simp) (v64 M));have B2:=hid ((B1.out.setCell (p:=⟨w.heap.size,k,none⟩) (by simp) (v64 S)).setCell (p:=⟨w.heap.size,k,none⟩) (by simp) (v64 M));have E2:=hid e2;clear hA hC hS hM hN e1 e2 kk kk2 P1 Z1 B1 hl;go_wp2;exact⟨⟨k+1,by omega,by go_num,by rw[E2.out],P2.out,Z2.out,B2.out⟩,by simp[intOf];omega⟩
  ·obtain rfl:k=5:=by omega
   have hl:=iW x hx 5 (by omega);have c1:=P1.out.cell64 hl 0 (by omega);have fo:=P1.out.frozen 0;have e1:=sc x hx;obtain⟨A,hA⟩: ∃A,A=nth (dU x 5) 0:=⟨_,rfl⟩;obtain⟨C,hC⟩: ∃C,C=lU x 5:=⟨_,rfl⟩;rw[←hA]at c1;rw[←hA,←hC]at e1;rw[←hC];obtain⟨F,hF⟩: ∃F,F=5#64*C:=⟨_,rfl⟩;obtain⟨S,hS⟩: ∃S,S=A+F:=⟨_,rfl⟩;rw[←hF,←hS]at e1;have f0: ∀t,binOp .mul t (.int .u64 5) (v64 C)=pure (v64 F):=fun t=>by rw[hF];exact nI t 5#64 C
   have f1: ∀t,binOp .add t (v64 A) (v64 F)=pure (v64 S):=fun t=>by rw[hS];exact kF t A F
   have kk:=P1.out.set_ 0 (v64 S);rw[fe,e1]at kk;have r1:=kk.row;have z1:=Z1.out.far (p:=⟨w.heap.size,0,none⟩) (by simp) (v64 S);have r2:=z1.row;have r3:=z1.whole;have B2:=B1.out.setCell (p:=⟨w.heap.size,0,none⟩) (by simp) (v64 S);clear hA hC hF hS e1 kk z1 P1 Z1 B1 hl;go_wp2;refine ag (A64 (carr x)) rfl rfl rfl (isAgg351 _) (sizeOf351 _) (by rw[dp];rfl) (ah _ r3) ⟨rfl,below_setRow B2 (by omega) _⟩
open Go.RowKit
@[go_sem ↓ high] theorem Cj(xs ys:List (BitVec 64))(w:World)(hx:xs.length=5)(hy:ys.length=5):(binOp .neq 351 (.agg (A64 xs)) (.agg (A64 ys))).run prog w= .ok (.bool (!decide (xs=ys))) w:=(sS (by kernel_rfl) (e:=96) (by kernel_rfl) (by kernel_rfl) (by kernel_rfl) xs ys hx hy w).2
@[go_sem ↓ high] theorem BF(op:BinOp)(x y:Operand)(xs ys:Array Value)(w:World):(eqGuard op 351 x y (.agg xs) (.agg ys)).run prog w= .ok () w:=by cases op<;>kernel_rfl
@[go_sem ↓ high] theorem Ck(xs ys:List (BitVec 64))(w:World)(hx:xs.length=4)(hy:ys.length=4):(binOp .eql 347 (.agg (A64 xs)) (.agg (A64 ys))).run prog w= .ok (.bool (decide (xs=ys))) w:=(sS (by kernel_rfl) (e:=96) (by kernel_rfl) (by kernel_rfl) (by kernel_rfl) xs ys hx hy w).1
@[go_sem ↓ high] theorem BH(op:BinOp)(x y:Operand)(xs ys:Array Value)(w:World):(eqGuard op 347 x y (.agg xs) (.agg ys)).run prog w= .ok () w:=by cases op<;>kernel_rfl
@[go_sem ↓ high] theorem zK(w:World):(Instr.build 347 #[(0,.int .u64 67108863),(1,.int .u64 67108863),(2,.int .u64 67108863),(3,.int .u64 67108863)]).run prog w= .ok (.agg (A64 [msk,msk,msk,msk])) w:=by kernel_rfl
def dB(e:TypeId)(a:Value):Sem Value:=Instr.build e #[(0,a)]
@[go_sem ↓ high] theorem wD {P:Program} {ρ:Operand→Value} {w:World} {dst:Option Tmp} {ty:TypeId} {pos:String} {after:Array Edge} {guard:Option (Nat×Bool)}(e:TypeId)(a:Operand):(execOp ρ ⟨dst,.build e #[(0,a)],ty,pos,after,guard⟩).run P w=((dB e (ρ a)).run P w).andThen fun v w' => .ok (.value v) w':=by simp[execOp,dB]
def kK(e:TypeId)(a b c d f:Value):Sem Value:=Instr.build e #[(0,a),(1,b),(2,c),(3,d),(4,f)]
@[go_sem ↓ high] theorem wE {P:Program} {ρ:Operand→Value} {w:World} {dst:Option Tmp} {ty:TypeId} {pos:String} {after:Array Edge} {guard:Option (Nat×Bool)}(e:TypeId)(a b c d f:Operand):(execOp ρ ⟨dst,.build e #[(0,a),(1,b),(2,c),(3,d),(4,f)],ty,pos,after,guard⟩).run P w=((kK e (ρ a) (ρ b) (ρ c) (ρ d) (ρ f)).run P w).andThen fun v w' => .ok (.value v) w':=by simp[execOp,kK]
@[go_sem high] theorem xf(a b c d f:BitVec 64)(w:World):(kK 351 (v64 a) (v64 b) (v64 c) (v64 d) (v64 f)).run prog w= .ok (.agg (A64 [a,b,c,d,f])) w:=by kernel_rfl
@[go_sem high] theorem xM(x:BitVec 64)(w:World):(dB 351 (v64 x)).run prog w= .ok (.agg (A64 [x,0#64,0#64,0#64,0#64])) w:=by kernel_rfl
def cv(l:List (BitVec 64))(k:Nat):List (BitVec 32):=(List.range 5).map fun i=>if i<k then(nth l i).setWidth 32 else 0#32
theorem jB(l:List (BitVec 64))(k:Nat):(cv l k).length=5:=by simp[cv]
theorem sd(l:List (BitVec 64))(k:Nat)(hk:k<5):(cv l k).set k ((nth l k).setWidth 32)=cv l (k+1):=by
 have:k=0∨k=1∨k=2∨k=3∨k=4:=by omega
 rcases this with rfl|rfl|rfl|rfl|rfl<;>rfl
theorem oz(l:List (BitVec 64))(h:l.length=5):cv l 5=to32 l:=by
 match l,h with
 | [a0,a1,a2,a3,a4],_=>rfl
def wF(c:Array Value):List (BitVec 64):=c.toList.map fun v=>match v with| .int _ n=>BitVec.ofInt 64 n|_=>0#64
theorem nl(l:List (BitVec 64)):wF (A64 l)=l:=by
 unfold wF;rw[qD,List.map_map]
 conv=>rhs;rw[←List.map_id l]
 apply List.map_congr_left;intro x _;show BitVec.ofInt 64 (x.toNat:Int)=x;rw[BitVec.ofInt_natCast,BitVec.ofNat_toNat,BitVec.setWidth_eq]
def tc(l:List (BitVec 64)):Nat:=if carr l=l then 0 else if carr (carr l)=carr l then 1 else if carr (carr (carr l))=carr (carr l)then 2 else 3
theorem se(l:List (BitVec 64))(h:carr l≠l)(h3:carr (carr (carr (carr l)))=carr (carr (carr l))):tc (carr l)<tc l:=by
 unfold tc;rw[if_neg h];by_cases h1:carr (carr l)=carr l
 ·rw[if_pos h1,if_pos h1];omega
 ·rw[if_neg h1,if_neg h1];by_cases h2:carr (carr (carr l))=carr (carr l)
  ·rw[if_pos h2,if_pos h2];omega
  ·rw[if_neg h2,if_neg h2,if_pos h3];omega
theorem uw(x:List (BitVec 64))(hx: ∀i,i<5→pn x i<2^60)(k:Nat):carr (carr (carr (carr (carK x k))))=carr (carr (carr (carK x k))):=by
 have h:=gF x 3 (yB x hx);show carK x (k+4)=carK x (k+3);rw[show k+4=3+(k+1) by omega,show k+3=3+k by omega,h,h]
theorem pR(x:List (BitVec 64))(h:x.length=5): ∀k,(carK x k).length=5
 |0=>h
 |_+1=>rfl
theorem sh(l:List (BitVec 64))(h:l.length=5):topB l=(decide ((l.drop 1).take 4=[msk,msk,msk,msk])&&decide (67108858<(nth l 0).toNat)):=by
 match l,h with
 | [a0,a1,a2,a3,a4],_=>
  have e:decide ((([a0,a1,a2,a3,a4]:List (BitVec 64)).drop 1).take 4=[msk,msk,msk,msk])=(a1==msk&&a2==msk&&a3==msk&&a4==msk):=by
   rw[Bool.eq_iff_iff];simp[and_assoc]
  rw[e];rfl
def BI(w:World)(x:List (BitVec 64))(a':Act)(w':World):Prop:=
 ∃k:Nat,(∃u:Nat→Value,a' ={tmps:=(fun u:Nat→Value=> #[u 0,Value.pointer (some ⟨w.heap.size,0,none⟩),Value.pointer (some ⟨w.heap.size+1,0,none⟩),u 3,u 4,u 5,u 6,u 7,u 8,u 9,u 10,u 11,u 12,u 13,u 14,u 15,u 16,u 17,u 18,u 19,u 20,u 21,u 22,u 23,u 24,u 25,u 26,u 27,u 28,u 29,u 30,u 31,u 32,u 33,u 34,u 35,u 36]) u,defers:=[]})∧
  Blk w' w.heap.size 351 (A64 (carK x k))∧Blk w' (w.heap.size+1) 342 (A32 (aa 32 5))∧Below w.heap.size w w'
theorem iX(x:List (BitVec 64))(w:World)(hx:x.length=5)(hb60: ∀i,i<5→pn x i<2^60):
  Calls prog 249 #[.agg (A64 x)] w fun e w' =>e= .returned (.agg (A32 (cR x)))∧Below w.heap.size w w':=by
 obtain⟨W,hW⟩: ∃W,(w.alloc (.cells (A64 x) 351)).alloc (.cells (A32 (aa 32 5)) 342)=W:=⟨_,rfl⟩;obtain⟨b0,b1,hb,hz⟩:=new2 _ _ _ _ _ _ hW;have P0:=hid b0;have Z0:=hid b1;have B0:=hid hb;have H60:=hid hb60;have hRl:=cO x;obtain⟨R,hR⟩: ∃R,R=cR x:=⟨_,rfl⟩;rw[←hR]at hRl⊢;have HR:=hid hR;clear b0 b1 hb hz hb60 hR;go_enter func249,ntmps249;go_wp2_with fail;refine aQ 0 (BI w x) (fun _ w' =>tc (wF (ar w' w.heap.size))) rfl (fun hrest=> ?_) ?_
 ·go_wp2_with fail;go_step3;refine ‹∀(a:Act) (w_1:World),Code.wp _ _ _ a w_1→_› _ _ (hrest _ _ ?_);exact⟨0,aI _ rfl,P0.out,Z0.out,B0.out⟩
 ·rintro a' w' ⟨k,⟨u,rfl⟩,hP,hZ,hB⟩;have hl:=pR x hx k;have c3:=uw x H60.out k;have hfin:=wM x H60.out k;obtain⟨L,hL⟩: ∃L,L=carK x k:=⟨_,rfl⟩;rw[←hL]at hP hl c3 hfin;have HL:=hid hL;have HFIN:=hid hfin;have C3:=hid c3;have r1:=hP.row;have R1:=hid r1;have P1:=hid hP;have Z1:=hid hZ;have B1:=hid hB;clear hP hZ hB hL c3 hfin hW P0 Z0 B0;go_wp2_with fail;refine(pQ L w' hl).mono ?_;rintro e w1 ⟨rfl,d1⟩;have hcl:=qc L;obtain⟨M,hM⟩: ∃M,M=carr L:=⟨_,rfl⟩;rw[←hM]at hcl⊢;have HM:=hid hM;obtain⟨V,hV⟩: ∃V,V=w1.alloc (.cells (A64 M) 351):=⟨_,rfl⟩;have E1:Below w'.heap.size w' V:=by rw[hV];exact d1.alloc d1.size _
  have N0:=Blk.new w1 351 (A64 M);rw[←hV]at N0;have NV:=hid N0;have PV:=hid (P1.out.belowAll E1);have ZV:=hid (Z1.out.belowAll E1);have BV:=hid (B1.out.trans (E1.mono B1.out.size));have HV:=hid hV;have r2:=NV.out.row;have r3:=PV.out.row;have hql:w1.heap.size≠w.heap.size:=by have:=d1.size;have:=P1.out.lt;omega
  clear d1 E1 N0 hV hM r1 P1 Z1 B1;go_upto_region 2 with fail;rw[←HV.out];clear HV;generalize w1.heap.size=q at*;by_cases hfix:M=L
  ·have f1:decide (M=L)=true:=decide_eq_true hfix;have hL3:L=carK x 3:=HFIN.out (by rw[←HM.out,hfix]);have hres:cR x=to32 (fI L):=by rw[cR,tj,←hL3]
   have hnl:=jd L hl;have ts:=sh L hl;have hA:=PV.out.cell64 hl 0 (by omega);obtain⟨A,eA⟩: ∃A,A=nth L 0:=⟨_,rfl⟩;rw[←eA]at hA ts;have HeA:=hid eA;clear eA;have hdl:((L.drop 1).take 4).length=4:=by rw[List.length_take,List.length_drop,hl];rfl
   obtain⟨D,hD⟩: ∃D,D=(L.drop 1).take 4:=⟨_,rfl⟩;have eT:L.tail.take 4=D:=by rw[hD,List.drop_one]
   have eM:(#[.int .u64 67108863,.int .u64 67108863,.int .u64 67108863,.int .u64 67108863]:Array Value)=A64 [msk,msk,msk,msk]:=rfl;have hml:([msk,msk,msk,msk]:List (BitVec 64)).length=4:=rfl;rw[←hD]at ts hdl;clear hD;obtain⟨MK,hMK⟩: ∃MK,MK=[msk,msk,msk,msk]:=⟨_,rfl⟩;rw[←hMK]at eM hml ts;clear hMK;have wP:=PV.out.whole;have harr:=run_arrayAt (P:=prog) V 347 96 4 (some ⟨w.heap.size,1,none⟩) 4 4 underlying347 (Nat.le_refl _);rw[←HR.out]at hres;have HRES:=hid hres;clear hres hL3 R1 HFIN C3 HL HM;cases hD1:decide (D=MK)
   ·have hF:fI L=L:=by unfold fI;rw[ts,hD1];rfl
    have hFR:R=to32 L:=by rw[HRES.out,hF]
    have HFR:=hid hFR;clear hF ts hFR HRES;have N4:=hid (Blk.new V 342 (A32 (aa 32 5)));have P4:=hid ((PV.out).alloc (.cells (A32 (aa 32 5)) 342));have Z4:=hid ((ZV.out).alloc (.cells (A32 (aa 32 5)) 342));have B4:=hid ((BV.out).alloc (BV.out).size (.cells (A32 (aa 32 5)) 342));have hn1:V.heap.size≠w.heap.size:=by have:=(PV.out).lt;omega
    have hn2:V.heap.size≠w.heap.size+1:=by have:=(ZV.out).lt;omega
    have hn3:w.heap.size≤V.heap.size:=(BV.out).size;go_wp2_with fail;generalize V.alloc (.cells (A32 (aa 32 5)) 342)=W4 at*;generalize V.heap.size=nn at*;go_loopw [26] (fun i wr=> ∃j:Nat,j≤5∧i= .int .i64 j∧Blk wr w.heap.size 351 (A64 L)∧Blk wr nn 342 (A32 (cv L j))∧Blk wr (w.heap.size+1) 342 (A32 (aa 32 5))∧Below w.heap.size w wr) (fun i _=>5-(intOf i).toNat)
    case atStart=>exact⟨0,Nat.zero_le _,rfl,P4.out,N4.out,Z4.out,B4.out⟩
    case round=>
     obtain⟨j,hj,rfl,hP5,hN5,hZ5,hB5⟩:=hrel;have P5:=hid hP5;have N5:=hid hN5;have Z5:=hid hZ5;have B5:=hid hB5;clear hP5 hN5 hZ5 hB5 P4 N4 Z4 B4;by_cases hj5:j<5
     ·have j1:(j:Int)<5:=by omega
      have j0:(0:Int)≤(j:Int):=by omega
      have d1:=P5.out.cell64 hl j hj5;have d2:=N5.out.cell32 (jB L j) j hj5;have fo:=N5.out.frozen j;have kk:=N5.out.set_ j (v32 ((nth L j).setWidth 32));rw[gu,sd _ _ hj5]at kk;have N6:=hid kk;have P6:=hid (P5.out.far (p:=⟨nn,j,none⟩) (by simpa using fun e=>hn1 e.symm) (v32 ((nth L j).setWidth 32)));have Z6:=hid (Z5.out.far (p:=⟨nn,j,none⟩) (by simpa using fun e=>hn2 e.symm) (v32 ((nth L j).setWidth 32)));have B6:=hid (B5.out.setCell (p:=⟨nn,j,none⟩) hn3 (v32 ((nth L j).setWidth 32)));clear kk P5 N5 Z5 B5;go_wp2;exact⟨⟨j+1,by omega,by go_num,P6.out,N6.out,Z6.out,B6.out⟩,by simp[intOf];omega⟩
     ·obtain rfl:j=5:=by omega
      have n5:=N5.out;rw[oz _ hl,←HFR.out]at n5;have rr:=n5.row;have r5:=Z5.out.row;have r6:=Z5.out.whole;clear n5;go_wp2
      (try simp only[Exit.jump])
      refine ag (A32 R) rfl rfl rfl (isAgg342 _) (sizeOf342 _) (by rw[bI];exact hRl) (ah _ r6) ⟨rfl,below_setRow B5.out (by omega) _⟩
   ·have f2: ∀t,binOp .gtr t (v64 A) (.int .u64 67108858)=pure (.bool (decide (67108858<A.toNat))):=fun t=>by
     have e:decide ((67108858:Int)<(A.toNat:Int))=decide (67108858<A.toNat):=by rw[decide_eq_decide];omega
     rw[←e];simp[binOp,v64,Op.intCmp]
    cases hD2:decide (67108858<A.toNat)
    ·rw[hD2]at f2;have g2: ¬(67108858:Int)<(A.toNat:Int):=by have:=of_decide_eq_false hD2;omega
     have hF:fI L=L:=by unfold fI;rw[ts,hD1,hD2];rfl
     have hFR:R=to32 L:=by rw[HRES.out,hF]
     have HFR:=hid hFR;clear hF ts hFR HRES hD2;have N4:=hid (Blk.new V 342 (A32 (aa 32 5)));have P4:=hid ((PV.out).alloc (.cells (A32 (aa 32 5)) 342));have Z4:=hid ((ZV.out).alloc (.cells (A32 (aa 32 5)) 342));have B4:=hid ((BV.out).alloc (BV.out).size (.cells (A32 (aa 32 5)) 342));have hn1:V.heap.size≠w.heap.size:=by have:=(PV.out).lt;omega
     have hn2:V.heap.size≠w.heap.size+1:=by have:=(ZV.out).lt;omega
     have hn3:w.heap.size≤V.heap.size:=(BV.out).size;go_wp2_with fail;generalize V.alloc (.cells (A32 (aa 32 5)) 342)=W4 at*;generalize V.heap.size=nn at*;go_loopw [26] (fun i wr=> ∃j:Nat,j≤5∧i= .int .i64 j∧Blk wr w.heap.size 351 (A64 L)∧Blk wr nn 342 (A32 (cv L j))∧Blk wr (w.heap.size+1) 342 (A32 (aa 32 5))∧Below w.heap.size w wr) (fun i _=>5-(intOf i).toNat)
     case atStart=>exact⟨0,Nat.zero_le _,rfl,P4.out,N4.out,Z4.out,B4.out⟩
     case round=>
      obtain⟨j,hj,rfl,hP5,hN5,hZ5,hB5⟩:=hrel;have P5:=hid hP5;have N5:=hid hN5;have Z5:=hid hZ5;have B5:=hid hB5;clear hP5 hN5 hZ5 hB5 P4 N4 Z4 B4;by_cases hj5:j<5
      ·have j1:(j:Int)<5:=by omega
       have j0:(0:Int)≤(j:Int):=by omega
       have d1:=P5.out.cell64 hl j hj5;have d2:=N5.out.cell32 (jB L j) j hj5;have fo:=N5.out.frozen j;have kk:=N5.out.set_ j (v32 ((nth L j).setWidth 32));rw[gu,sd _ _ hj5]at kk;have N6:=hid kk;have P6:=hid (P5.out.far (p:=⟨nn,j,none⟩) (by simpa using fun e=>hn1 e.symm) (v32 ((nth L j).setWidth 32)));have Z6:=hid (Z5.out.far (p:=⟨nn,j,none⟩) (by simpa using fun e=>hn2 e.symm) (v32 ((nth L j).setWidth 32)));have B6:=hid (B5.out.setCell (p:=⟨nn,j,none⟩) hn3 (v32 ((nth L j).setWidth 32)));clear kk P5 N5 Z5 B5;go_wp2;exact⟨⟨j+1,by omega,by go_num,P6.out,N6.out,Z6.out,B6.out⟩,by simp[intOf];omega⟩
      ·obtain rfl:j=5:=by omega
       have n5:=N5.out;rw[oz _ hl,←HFR.out]at n5;have rr:=n5.row;have r5:=Z5.out.row;have r6:=Z5.out.whole;clear n5;go_wp2
       (try simp only[Exit.jump])
       refine ag (A32 R) rfl rfl rfl (isAgg342 _) (sizeOf342 _) (by rw[bI];exact hRl) (ah _ r6) ⟨rfl,below_setRow B5.out (by omega) _⟩
    ·rw[hD2]at f2;have g2:(67108858:Int)<(A.toNat:Int):=by have:=of_decide_eq_true hD2;omega
     have hF:fI L=[A-67108859#64,0#64,0#64,0#64,0#64]:=by unfold fI;rw[ts,hD1,hD2,←HeA.out];rfl
     obtain⟨S,hS⟩: ∃S,S=A-67108859#64:=⟨_,rfl⟩;have f3: ∀t,binOp .sub t (v64 A) (.int .u64 67108859)=pure (v64 S):=fun t=>by rw[hS];exact xk t A 67108859#64
     rw[←hS]at hF;have hGl:([S,0#64,0#64,0#64,0#64]:List (BitVec 64)).length=5:=rfl;obtain⟨G,hG⟩: ∃G,G=[S,0#64,0#64,0#64,0#64]:=⟨_,rfl⟩;rw[←hG]at hF hGl;have eG:A64 [S,0#64,0#64,0#64,0#64]=A64 G:=by rw[hG]
     have hFR:R=to32 G:=by rw[HRES.out,hF]
     have HFR:=hid hFR;have PG:=hid (PV.out.put (A64 G));have ZG:=hid (ZV.out.grown (aP V w.heap.size (A64 G)) (by simp));have BG:=hid (below_setRow BV.out (Nat.le_refl _) (A64 G));clear hF ts hFR HRES hD2 hS hG;go_upto_region 6 with fail;generalize V.setRow w.heap.size (A64 G)=V2 at*;have N4:=hid (Blk.new V2 342 (A32 (aa 32 5)));have P4:=hid ((PG.out).alloc (.cells (A32 (aa 32 5)) 342));have Z4:=hid ((ZG.out).alloc (.cells (A32 (aa 32 5)) 342));have B4:=hid ((BG.out).alloc (BG.out).size (.cells (A32 (aa 32 5)) 342));have hn1:V2.heap.size≠w.heap.size:=by have:=(PG.out).lt;omega
     have hn2:V2.heap.size≠w.heap.size+1:=by have:=(ZG.out).lt;omega
     have hn3:w.heap.size≤V2.heap.size:=(BG.out).size;go_wp2_with fail;generalize V2.alloc (.cells (A32 (aa 32 5)) 342)=W4 at*;generalize V2.heap.size=nn at*;go_loopw [26] (fun i wr=> ∃j:Nat,j≤5∧i= .int .i64 j∧Blk wr w.heap.size 351 (A64 G)∧Blk wr nn 342 (A32 (cv G j))∧Blk wr (w.heap.size+1) 342 (A32 (aa 32 5))∧Below w.heap.size w wr) (fun i _=>5-(intOf i).toNat)
     case atStart=>exact⟨0,Nat.zero_le _,rfl,P4.out,N4.out,Z4.out,B4.out⟩
     case round=>
      obtain⟨j,hj,rfl,hP5,hN5,hZ5,hB5⟩:=hrel;have P5:=hid hP5;have N5:=hid hN5;have Z5:=hid hZ5;have B5:=hid hB5;clear hP5 hN5 hZ5 hB5 P4 N4 Z4 B4;by_cases hj5:j<5
      ·have j1:(j:Int)<5:=by omega
       have j0:(0:Int)≤(j:Int):=by omega
       have d1:=P5.out.cell64 hGl j hj5;have d2:=N5.out.cell32 (jB G j) j hj5;have fo:=N5.out.frozen j;have kk:=N5.out.set_ j (v32 ((nth G j).setWidth 32));rw[gu,sd _ _ hj5]at kk;have N6:=hid kk;have P6:=hid (P5.out.far (p:=⟨nn,j,none⟩) (by simpa using fun e=>hn1 e.symm) (v32 ((nth G j).setWidth 32)));have Z6:=hid (Z5.out.far (p:=⟨nn,j,none⟩) (by simpa using fun e=>hn2 e.symm) (v32 ((nth G j).setWidth 32)));have B6:=hid (B5.out.setCell (p:=⟨nn,j,none⟩) hn3 (v32 ((nth G j).setWidth 32)));clear kk P5 N5 Z5 B5;go_wp2;exact⟨⟨j+1,by omega,by go_num,P6.out,N6.out,Z6.out,B6.out⟩,by simp[intOf];omega⟩
      ·obtain rfl:j=5:=by omega
       have n5:=N5.out;rw[oz _ hGl,←HFR.out]at n5;have rr:=n5.row;have r5:=Z5.out.row;have r6:=Z5.out.whole;clear n5;go_wp2
       (try simp only[Exit.jump])
       refine ag (A32 R) rfl rfl rfl (isAgg342 _) (sizeOf342 _) (by rw[bI];exact hRl) (ah _ r6) ⟨rfl,below_setRow B5.out (by omega) _⟩
  ·have f1:decide (M=L)=false:=decide_eq_false hfix;have hless:=se L (fun e=>hfix (by rw[HM.out,e])) C3.out;have K1:=hid (PV.out.put (A64 M));have K2:=hid (ZV.out.grown (aP V w.heap.size (A64 M)) (by simp));have K3:=hid (below_setRow BV.out (Nat.le_refl _) (A64 M));have HLE:=hid hless;have w1:=PV.out.whole;clear hless PV ZV BV hfix;go_wp2;go_step3;refine⟨rfl,⟨k+1,aI _ rfl,?_,K2.out,K3.out⟩,?_⟩
   ·have hMk:M=carK x (k+1):=by rw[HM.out,HL.out];rfl
    rw[←hMk];exact K1.out
   ·have e1:=K1.out.row;rw[e1,R1.out,nl,nl,HM.out];exact HLE.out
open Go.RowKit
def updG {n:Nat}(f:Nat→BitVec n)(l:List (BitVec n))(k:Nat):List (BitVec n):=(List.range l.length).map fun i=>if i<k then f i else nth l i
theorem aN {n:Nat}(f:Nat→BitVec n)(l:List (BitVec n))(k:Nat):(updG f l k).length=l.length:=by simp[updG]
theorem eW {n:Nat}(f:Nat→BitVec n)(l:List (BitVec n))(k i:Nat)(h:i<l.length):nth (updG f l k) i=if i<k then f i else nth l i:=by
 unfold updG;rw[nth];simp[List.getD_eq_getElem?_getD,h]
theorem jC {n:Nat}(f:Nat→BitVec n)(l:List (BitVec n)):updG f l 0=l:=by
 refine aD (aN f l 0) fun i hi=> ?_;rw[aN]at hi;rw[eW f l 0 i hi,if_neg (by omega)]
theorem lV {n:Nat}(f:Nat→BitVec n)(l:List (BitVec n))(k:Nat)(hk:k<l.length):(updG f l k).set k (f k)=updG f l (k+1):=by
 refine aD (by rw[List.length_set,aN,aN]) fun i hi=> ?_;rw[List.length_set,aN]at hi;rw[dg _ _ _ _ (by rw[aN];exact hk),eW f l _ i hi,eW f l _ i hi];by_cases h:k=i
 ·subst h;rw[if_pos rfl,if_pos (by omega)]
 ·rw[if_neg h];by_cases h2:i<k
  ·rw[if_pos h2,if_pos (by omega)]
  ·rw[if_neg h2,if_neg (by omega)]
theorem te {n:Nat}(f:Nat→BitVec n)(l:List (BitVec n))(k:Nat)(hk:k<l.length):nth (updG f l k) k=nth l k:=by
 rw[eW f l k k hk,if_neg (by omega)]
theorem pS(l:List (BitVec 32))(i:Nat)(h:i<l.length):nth (to64 l) i=(nth l i).setWidth 64:=by
 unfold to64 nth;simp[List.getD_eq_getElem?_getD,h]
theorem si(l:List (BitVec 32))(h:l.length=5):updG (fun i=>(nth l i).setWidth 64) (aa 64 5) 5=to64 l:=by
 refine aD (by rw[aN,bC,af,h]) fun i hi=> ?_;rw[aN,af]at hi;rw[eW _ _ _ _ (by rw[af];exact hi),if_pos hi,pS _ _ (by omega)]
theorem dW(x:List (BitVec 32))(w:World)(hx:x.length=5):
  Calls prog 255 #[.agg (A32 x)] w fun e w' =>e= .returned (.agg (A64 (to64 x)))∧Below w.heap.size w w':=by
 obtain⟨W,hW⟩: ∃W,((w.alloc (.cells (A32 x) 342)).alloc (.cells (A64 (aa 64 5)) 351)).alloc (.cells (A64 (aa 64 5)) 351)=W:=⟨_,rfl⟩;obtain⟨b0,b1,b2,hb,hz⟩:=new3 _ _ _ _ _ _ _ _ hW;have P0:=hid b0;have Z0:=hid b1;have N0:=hid b2;have B0:=hid hb;have hfull:=si x hx;obtain⟨f,hf⟩: ∃f:Nat→BitVec 64,f=fun i=>(nth x i).setWidth 64:=⟨_,rfl⟩;rw[←hf]at hfull;have HF:=hid hf;have HU:=hid hfull;clear b0 b1 b2 hb hz hf hfull;go_enter func255,ntmps255;go_wp2_with fail;go_loopw [5] (fun i wr=> ∃k:Nat,k≤5∧i= .int .i64 k∧Blk wr w.heap.size 342 (A32 x)∧Blk wr (w.heap.size+1) 351 (A64 (aa 64 5))∧Blk wr (w.heap.size+2) 351 (A64 (updG f (aa 64 5) k))∧Below w.heap.size w wr) (fun i _=>5-(intOf i).toNat)
 case atStart=>exact⟨0,Nat.zero_le _,rfl,P0.out,Z0.out,by rw[jC];exact N0.out,B0.out⟩
 case round=>
  obtain⟨k,hk,rfl,hP,hZ,hN,hB⟩:=hrel;have P1:=hid hP;have Z1:=hid hZ;have N1:=hid hN;have B1:=hid hB;clear hP hZ hN hB P0 Z0 N0 B0 hW;by_cases hk5:k<5
  ·have k1:(k:Int)<5:=by omega
   have k0:(0:Int)≤(k:Int):=by omega
   have c1:=P1.out.cell32 hx k hk5;have c2:=N1.out.cell64 (m:=5) (by rw[aN,af]) k hk5;have fo:=N1.out.frozen k;have kk:=N1.out.set_ k (v64 ((nth x k).setWidth 64));rw[fe,show(nth x k).setWidth 64=f k by rw[HF.out],lV f _ k (by rw[af];exact hk5)]at kk;have e1:(nth x k).setWidth 64=f k:=by rw[HF.out]
   have N2:=hid kk;have P2:=hid (P1.out.far (p:=⟨w.heap.size+2,k,none⟩) (by simp) (v64 (f k)));have Z2:=hid (Z1.out.far (p:=⟨w.heap.size+2,k,none⟩) (by simp) (v64 (f k)));have B2:=hid (B1.out.setCell (p:=⟨w.heap.size+2,k,none⟩) (by simp) (v64 (f k)));clear kk P1 Z1 N1 B1;go_wp2;exact⟨⟨k+1,by omega,by go_num,P2.out,Z2.out,N2.out,B2.out⟩,by simp[intOf];omega⟩
  ·obtain rfl:k=5:=by omega
   have n5:=N1.out;rw[HU.out]at n5;have r1:=n5.row;have r2:=Z1.out.row;have r3:=Z1.out.whole;have hl:(to64 x).length=5:=by rw[bC,hx]
   clear n5;go_wp2;refine ag (A64 (to64 x)) rfl rfl rfl (isAgg351 _) (sizeOf351 _) (by rw[dp];exact hl) (ah _ r3) ⟨rfl,below_setRow B1.out (by omega) _⟩
def ew(x:List (BitVec 32)):List (BitVec 32):=cR (to64 x)
@[simp] theorem dC(x:List (BitVec 32)):(ew x).length=5:=cO _
theorem tf(x:List (BitVec 32))(i:Nat):pn (to64 x) i<2^32:=by rw[tk];exact(nth x i).isLt
theorem lW(x:List (BitVec 32))(w:World)(hx:x.length=5):
  Calls prog 256 #[.agg (A32 x)] w fun e w' =>e= .returned (.agg (A32 (ew x)))∧Below w.heap.size w w':=by
 obtain⟨W,hW⟩: ∃W,(w.alloc (.cells (A32 x) 342)).alloc (.cells (A32 (aa 32 5)) 342)=W:=⟨_,rfl⟩;obtain⟨b0,b1,hb,hz⟩:=new2 _ _ _ _ _ _ hW;have r0:=b0.row;have Z0:=hid b1;have B0:=hid hb;have hRl:=dC x;obtain⟨R,hR⟩: ∃R,R=ew x:=⟨_,rfl⟩;rw[←hR]at hRl⊢;have HR:=hid hR;clear b0 b1 hb hz hR;go_enter func256,ntmps256;go_wp2_with fail;refine(dW x W hx).mono ?_;rintro e w1 ⟨rfl,d1⟩;have hl:(to64 x).length=5:=by rw[bC,hx]
 have hlt: ∀i,i<5→pn (to64 x) i<2^60:=fun i _=>Nat.lt_of_lt_of_le (tf x i) (by decide);have HLT:=hid hlt;clear hW r0 hlt;go_wp2_with fail;refine(iX (to64 x) w1 hl HLT.out).mono ?_;rintro e w2 ⟨rfl,d2⟩;rw[show cR (to64 x)=R from HR.out.symm];have d12:=d1.trans (d2.mono d1.size);have z2:=Z0.out.belowAll d12;have r3:=z2.row;have r4:=z2.whole;have B2:=B0.out.trans (d12.mono B0.out.size);clear d1 d2 d12 z2;go_wp2;refine ag (A32 R) rfl rfl rfl (isAgg342 _) (sizeOf342 _) (by rw[bI];exact hRl) (ah _ r4) ⟨rfl,below_setRow B2 (by omega) _⟩
open Go.RowKit
def addW(a b:List (BitVec 32)):List (BitVec 64):=updG (fun i=>nth (to64 a) i+(nth b i).setWidth 64) (to64 a) 5
def eY(a b:List (BitVec 32)):List (BitVec 32):=cR (addW a b)
@[simp] theorem iZ(a b:List (BitVec 32)):(eY a b).length=5:=cO _
theorem pT(a b:List (BitVec 32))(h:a.length=5):(addW a b).length=5:=by rw[addW,aN,bC,h]
theorem xN(a b:List (BitVec 32))(ha:a.length=5)(i:Nat)(hi:i<5):pn (addW a b) i=(nth a i).toNat+(nth b i).toNat:=by
 have h1:=(nth a i).isLt;have h2:=(nth b i).isLt;unfold pn addW;rw[eW _ _ _ _ (by rw[bC,ha];exact hi),if_pos hi,BitVec.toNat_add,pS _ _ (by omega)];simp only[BitVec.toNat_setWidth];omega
theorem ux(a b:List (BitVec 32))(w:World)(ha:a.length=5)(hb5:b.length=5):
  Calls prog 250 #[.agg (A32 a),.agg (A32 b)] w fun e w' =>e= .returned (.agg (A32 (eY a b)))∧Below w.heap.size w w':=by
 obtain⟨W,hW⟩: ∃W,((w.alloc (.cells (A32 a) 342)).alloc (.cells (A32 b) 342)).alloc (.cells (A32 (aa 32 5)) 342)=W:=⟨_,rfl⟩;obtain⟨b0,b1,b2,hb,hz⟩:=new3 _ _ _ _ _ _ _ _ hW;have r0:=b0.row;have Q0:=hid b1;have Z0:=hid b2;have B0:=hid hb;have hRl:=iZ a b;obtain⟨R,hR⟩: ∃R,R=eY a b:=⟨_,rfl⟩;rw[←hR]at hRl⊢;have HR:=hid hR;clear b0 b1 b2 hb hz hR;have hal:(to64 a).length=5:=by rw[bC,ha]
 have hsl:=pT a b ha;have hlt: ∀i,i<5→pn (addW a b) i<2^60:=fun i hi=>by
  have h1:=(nth a i).isLt;have h2:=(nth b i).isLt;rw[xN a b ha i hi];omega
 have HLT:=hid hlt;obtain⟨X,hX⟩: ∃X,X=to64 a:=⟨_,rfl⟩;obtain⟨f,hf⟩: ∃f:Nat→BitVec 64,f=fun i=>nth X i+(nth b i).setWidth 64:=⟨_,rfl⟩;have hfull:updG f X 5=addW a b:=by rw[hf,hX];rfl
 rw[←hX]at hal;have HX:=hid hX;have HF:=hid hf;have HU:=hid hfull;clear hlt hX hf hfull;go_enter func250,ntmps250;go_wp2_with fail;refine(dW a W ha).mono ?_;rintro e w1 ⟨rfl,d1⟩;rw[show to64 a=X from HX.out.symm];have N1:=hid (Blk.new w1 351 (A64 X));have Q1:=hid ((Q0.out.belowAll d1).alloc (.cells (A64 X) 351));have Z1:=hid ((Z0.out.belowAll d1).alloc (.cells (A64 X) 351));have D1:=B0.out.trans (d1.mono B0.out.size);have B1:=hid (D1.alloc D1.size (.cells (A64 X) 351));have hn1:w1.heap.size≠w.heap.size+1:=by have:=(Q0.out.belowAll d1).lt;omega
 have hn2:w1.heap.size≠w.heap.size+2:=by have:=(Z0.out.belowAll d1).lt;omega
 have hn3:w.heap.size≤w1.heap.size:=D1.size;clear d1 D1 hW r0 Q0 Z0 B0;go_wp2_with fail;generalize w1.alloc (.cells (A64 X) 351)=V at*;generalize w1.heap.size=q at*;go_loopw [9] (fun i wr=> ∃k:Nat,k≤5∧i= .int .i64 k∧Blk wr (w.heap.size+1) 342 (A32 b)∧Blk wr (w.heap.size+2) 342 (A32 (aa 32 5))∧Blk wr q 351 (A64 (updG f X k))∧Below w.heap.size w wr) (fun i _=>5-(intOf i).toNat)
 case atStart=>exact⟨0,Nat.zero_le _,rfl,Q1.out,Z1.out,by rw[jC];exact N1.out,B1.out⟩
 case round=>
  obtain⟨k,hk,rfl,hQ,hZ,hN,hB⟩:=hrel;have Q2:=hid hQ;have Z2:=hid hZ;have N2:=hid hN;have B2:=hid hB;clear hQ hZ hN hB Q1 Z1 N1 B1;by_cases hk5:k<5
  ·have k1:(k:Int)<5:=by omega
   have k0:(0:Int)≤(k:Int):=by omega
   have c1:=N2.out.drew.cell64 (m:=5) (by rw[aN,hal]) k hk5;have c2:=Q2.out.drew.cell32 hb5 k hk5;rw[te f X k (by rw[hal];exact hk5)]at c1;go_upto_region 5 with fail;refine ao [0,0,1,0,0,1,0,0,0,2] (by kernel_rfl) (by kernel_rfl) (fun ops' K2 hK2=> ?_)
   repeat (first|((with_reducible refine zq0 ?_);refine zq0a ?_)|((with_reducible refine zq1 ?_);refine zq1a ?_))
   refine mR N2.out.drew rfl rfl (by rw[aN,hal];exact hk5) (sizeOf96 _) (fun w2 k2 g2 s2=> ?_);refine ak (hK2 _ _ ?_);rw[show nth X k+(nth b k).setWidth 64=f k by rw[HF.out],lV f X k (by rw[hal];exact hk5)]at k2;have N3:=hid k2;have Q3:=hid (Q2.out.drew.grown g2 (by simpa using fun e=>hn1 e.symm));have Z3:=hid (Z2.out.drew.grown g2 (by simpa using fun e=>hn2 e.symm));have B3:=hid (B2.out.drew.trans (ac g2 hn3 B2.out.drew.size));clear k2 g2 s2 c1 c2 hK2 Q2 Z2 N2 B2;go_wp2;exact⟨⟨k+1,by omega,by go_num,Q3.out,Z3.out,N3.out,B3.out⟩,by simp[intOf];omega⟩
  ·obtain rfl:k=5:=by omega
   have n5:=N2.out;rw[HU.out]at n5;obtain⟨S,hS⟩: ∃S,S=addW a b:=⟨_,rfl⟩;have HS:=hid hS;rw[←hS]at n5 hsl;have lt2:=HLT.out;rw[←hS]at lt2;have LT2:=hid lt2;have r1:=n5.row;clear n5 hS lt2;go_wp2_with fail;refine(iX S wr hsl LT2.out).mono ?_;rintro e w3 ⟨rfl,d3⟩;rw[show cR S=R by rw[HR.out,HS.out];rfl];have z3:=Z2.out.belowAll d3;have r3:=z3.row;have r4:=z3.whole;have B3:=B2.out.trans (d3.mono B2.out.size);clear d3 z3;go_wp2;refine ag (A32 R) rfl rfl rfl (isAgg342 _) (sizeOf342 _) (by rw[bI];exact hRl) (ah _ r4) ⟨rfl,below_setRow B3 (by omega) _⟩
open Go.RowKit
theorem wG(l:List (BitVec 64))(i:Nat)(h:i<l.length):nth (to32 l) i=(nth l i).setWidth 32:=by
 unfold to32 nth;simp[List.getD_eq_getElem?_getD,h]
theorem pU(x:List (BitVec 64))(hw: ∀i,i<5→pn x i<2^60):eb (to64 (cR x)):=fun i hi=>by
 have h:=qf x hw i hi;unfold pn at h;rw[tk,cR,wG _ _ (by rw[je];exact hi),BitVec.toNat_setWidth];omega
theorem kg(x:List (BitVec 32)):eb (to64 (ew x)):=pU _ fun i _=>Nat.lt_of_lt_of_le (tf x i) (by decide)
def pX(a b:List (BitVec 64))(i j:Nat):BitVec 64:=if 5≤i+j then nth a i*nth b j*5#64 else nth a i*nth b j
def ch(a b:List (BitVec 64)):Nat→List (BitVec 64)
 |0=>aa 64 5
 |t+1=>(ch a b t).set ((t/5+t %5) %5) (nth (ch a b t) ((t/5+t %5) %5)+pX a b (t/5) (t %5))
theorem dh(a b:List (BitVec 64)): ∀t,(ch a b t).length=5
 |0=>rfl
 |t+1=>by rw[ch,List.length_set];exact dh a b t
theorem BJ(a b:List (BitVec 64))(ha:eb a)(hb:eb b)(i j:Nat)(hi:i<5)(hj:j<5):(pX a b i j).toNat<36028797018963968:=by
 have h1:=ha i hi;have h2:=hb j hj;unfold pn at h1 h2;have h3:(nth a i).toNat*(nth b j).toNat≤67108863*67108863:=Nat.mul_le_mul (by omega) (by omega);have h4:(nth a i*nth b j).toNat=(nth a i).toNat*(nth b j).toNat:=by rw[BitVec.toNat_mul];omega
 unfold pX
 split
 ·rw[BitVec.toNat_mul,h4,show(5#64).toNat=5 from rfl];generalize (nth a i).toNat*(nth b j).toNat=g at h3⊢;rw[Nat.mod_eq_of_lt (by omega)];omega
 ·rw[h4];generalize (nth a i).toNat*(nth b j).toNat=g at h3⊢;omega
theorem nr(a b:List (BitVec 64))(ha:eb a)(hb:eb b): ∀t,t≤25→ ∀i,i<5→pn (ch a b t) i≤t*36028797018963968
 |0,_,i,_=>by
  show(nth (aa 64 5) i).toNat≤_;rw[cT];exact Nat.zero_le _
 |t+1,ht,i,hi=>by
  have h1:=nr a b ha hb t (by omega) i hi;have h2:=BJ a b ha hb (t/5) (t %5) (by omega) (by omega);unfold pn at h1⊢;rw[ch,dg _ _ _ _ (by rw[dh];omega)];by_cases e:(t/5+t %5) %5=i
  ·rw[if_pos e,e,BitVec.toNat_add];have h3:t*36028797018963968≤24*36028797018963968:=Nat.mul_le_mul_right _ (by omega);have h4:=Nat.le_trans h1 h3;rw[Nat.succ_mul,Nat.mod_eq_of_lt (by omega)];exact Nat.add_le_add h1 (Nat.le_of_lt h2)
  ·rw[if_neg e,Nat.succ_mul];exact Nat.le_trans h1 (Nat.le_add_right _ _)
def db(a b:List (BitVec 32)):List (BitVec 32):=cR (ch (to64 (ew a)) (to64 (ew b)) 25)
@[simp] theorem bU(a b:List (BitVec 32)):(db a b).length=5:=cO _
theorem sj(a b:List (BitVec 32))(w:World)(ha:a.length=5)(hb5:b.length=5):
  Calls prog 251 #[.agg (A32 a),.agg (A32 b)] w fun e w' =>e= .returned (.agg (A32 (db a b)))∧Below w.heap.size w w':=by
 obtain⟨W,hW⟩: ∃W,((w.alloc (.cells (A32 a) 342)).alloc (.cells (A32 b) 342)).alloc (.cells (A32 (aa 32 5)) 342)=W:=⟨_,rfl⟩;obtain⟨b0,b1,b2,hb,hz⟩:=new3 _ _ _ _ _ _ _ _ hW;have P0:=hid b0;have Q0:=hid b1;have Z0:=hid b2;have B0:=hid hb;have hRl:=bU a b;obtain⟨R,hR⟩: ∃R,R=db a b:=⟨_,rfl⟩;rw[←hR]at hRl⊢;have HR:=hid hR;clear b0 b1 b2 hb hz hR;have sa:=kg a;have sb:=kg b;have fal:=dC a;have fbl:=dC b;obtain⟨fa,hfa⟩: ∃fa,fa=ew a:=⟨_,rfl⟩;obtain⟨fb,hfb⟩: ∃fb,fb=ew b:=⟨_,rfl⟩;rw[←hfa]at sa fal;rw[←hfb]at sb fbl;have lal:(to64 fa).length=5:=by rw[bC,fal]
 have lbl:(to64 fb).length=5:=by rw[bC,fbl]
 obtain⟨la,hla⟩: ∃la,la=to64 fa:=⟨_,rfl⟩;obtain⟨lb,hlb⟩: ∃lb,lb=to64 fb:=⟨_,rfl⟩;rw[←hla]at sa lal;rw[←hlb]at sb lbl;have HFA:=hid hfa;have HFB:=hid hfb;have HLA:=hid hla;have HLB:=hid hlb;have SA:=hid sa;have SB:=hid sb;clear hfa hfb hla hlb sa sb;go_enter func251,ntmps251;go_upto_region 1 with fail;clear hW;refine cq [5,2,2,5,2,2,2,2,3,3] [0,3] [(1,2,_),(2,2,_),(4,2,_),(5,2,_),(6,2,_),(7,2,_)] (fun i=>if i=2 then [1]else if i=4 then [2]else if i=5 then [4]else []) [8,9] [_,_] [_,_] [5,5] [3,3] 6 rfl rfl rfl (by kernel_rfl) (by kernel_rfl) (by kernel_rfl) rfl rfl rfl (fun C0 hC0 hCb hCe K' hK' => ?_);have R0: ∀w1,C0 w1→ar w1 w.heap.size=A32 a:=fun w1 hw=>(P0.out.drew.belowAll (hCb w1 hw)).row;have R1: ∀w1,C0 w1→ar w1 (w.heap.size+1)=A32 b:=fun w1 hw=>(Q0.out.drew.belowAll (hCb w1 hw)).row
 repeat (first|((with_reducible refine hq0 ?_);refine hq0a ?_)|((with_reducible refine hq5 ?_);refine hq5a ?_ (fun _ hcw=>by have f:=R0 _ hcw;have f2:=R1 _ hcw;go_simp;(try go_bits);exact rfl))|((with_reducible refine hq1 ?_);refine hq1a ?_))
 refine ax ?_;clear R0 R1;generalize hAct:Act.mk _ _=act;obtain⟨u,rfl⟩: ∃u:Nat→Value,act={tmps:=(fun u:Nat→Value=>(u 0::u 1::Value.pointer (some ⟨w.heap.size,0,none⟩)::Value.pointer (some ⟨(w.heap.size+1),0,none⟩)::Value.pointer (some ⟨(w.heap.size+2),0,none⟩)::u 5::u 6::u 7::u 8::u 9::u 10::Value.agg (A32 a)::u 12::u 13::Value.agg (A32 b)::u 15::u 16::u 17::u 18::u 19::u 20::u 21::u 22::u 23::u 24::u 25::u 26::u 27::u 28::u 29::u 30::u 31::u 32::u 33::u 34::u 35::u 36::u 37::u 38::u 39::u 40::u 41::u 42::u 43::u 44::u 45::u 46::u 47::u 48::[]).toArray) u,defers:=[]}:=by
  subst hAct;exact aI _ rfl
 clear hAct;obtain⟨St,hSt⟩: ∃St:Nat→Bool→Bool→Act→World→Prop,∀kk b1 b2 a' w',St kk b1 b2 a' w'↔(∃x12 x13 x15 x16 x5 x6:Value,a' ={tmps:=(u 0::u 1::Value.pointer (some ⟨w.heap.size,0,none⟩)::Value.pointer (some ⟨(w.heap.size+1),0,none⟩)::Value.pointer (some ⟨(w.heap.size+2),0,none⟩)::x5::x6::u 7::u 8::u 9::u 10::Value.agg (A32 a)::x12::x13::Value.agg (A32 b)::x15::x16::u 17::u 18::u 19::u 20::u 21::u 22::u 23::u 24::u 25::u 26::u 27::u 28::u 29::u 30::u 31::u 32::u 33::u 34::u 35::u 36::u 37::u 38::u 39::u 40::u 41::u 42::u 43::u 44::u 45::u 46::u 47::u 48::[]).toArray,defers:=[]}∧Below W.drew.heap.size W.drew w'∧(1≤kk→x12= .agg (A32 fa))∧(2≤kk→x13= .agg (A64 la))∧(3≤kk→x15= .agg (A32 fb))∧(4≤kk→x16= .agg (A64 lb))∧(b1=true→ ∃g,x5= .pointer (some ⟨g,0,none⟩)∧W.heap.size≤g∧Blk w' g 351 (A64 (aa 64 5)))∧(b2=true→ ∃g,x6= .pointer (some ⟨g,0,none⟩)∧W.heap.size≤g∧Blk w' g 351 (A64 (aa 64 5)))∧(b1=true→b2=true→x5≠x6)):=⟨_,fun _ _ _ _ _=>Iff.rfl⟩;refine mz (St:=St) [_,_,_,_] _ _ 0 ⟨?s1,?s2,?s3,?s4,trivial⟩ ?sf ?sg ?sch ?snd ?sR _ _ ?s0
 case s0=>exact(hSt _ _ _ _ _).2 ⟨_,_,_,_,_,_,rfl,Below.refl _ _,fun h=>absurd h (by omega),fun h=>absurd h (by omega),fun h=>absurd h (by omega),fun h=>absurd h (by omega),fun h=>absurd h (by decide),fun h=>absurd h (by decide),fun h=>absurd h (by decide)⟩
 case sch=>exact⟨by decide,by decide,by decide,trivial⟩
 case snd=>decide
 case s1=>
  intro bb1 bb2 a3 w3 hs;obtain⟨x12,x13,x15,x16,x5,x6,rfl,D3,h1,h2,h3,h4,hf,hg,hne⟩:=(hSt _ _ _ _ _).1 hs;clear hs;refine aj ?_;refine hqc ?_;go_simp;refine ae ?_;refine(lW a w3 ha).mono ?_;rintro e w4 ⟨rfl,d4⟩;refine⟨_,rfl,d4,?_⟩
  try simp only[Act.put,zz1,zz2,zz3]
  rw[show ew a=fa from HFA.out.symm];refine ax ((hSt _ _ _ _ _).2 ⟨_,_,_,_,_,_,rfl,D3.trans (d4.mono D3.size),fun _=>rfl,fun h=>by omega,fun h=>by omega,fun h=>by omega,fun e=> ?_,fun e=> ?_,hne⟩)
  ·obtain⟨g,e1,e2,e3⟩:=hf e;exact⟨g,e1,e2,e3.belowAll d4⟩
  ·obtain⟨g,e1,e2,e3⟩:=hg e;exact⟨g,e1,e2,e3.belowAll d4⟩
 case s2=>
  intro bb1 bb2 a3 w3 hs;obtain⟨x12,x13,x15,x16,x5,x6,rfl,D3,h1,h2,h3,h4,hf,hg,hne⟩:=(hSt _ _ _ _ _).1 hs;clear hs;obtain rfl:=h1 (by omega);refine aj ?_;refine hqc ?_;go_simp;refine ae ?_;refine(dW fa w3 fal).mono ?_;rintro e w4 ⟨rfl,d4⟩;refine⟨_,rfl,d4,?_⟩
  try simp only[Act.put,zz1,zz2,zz3]
  rw[show to64 fa=la from HLA.out.symm];refine ax ((hSt _ _ _ _ _).2 ⟨_,_,_,_,_,_,rfl,D3.trans (d4.mono D3.size),fun _=>rfl,fun _=>rfl,fun h=>by omega,fun h=>by omega,fun e=> ?_,fun e=> ?_,hne⟩)
  ·obtain⟨g,e1,e2,e3⟩:=hf e;exact⟨g,e1,e2,e3.belowAll d4⟩
  ·obtain⟨g,e1,e2,e3⟩:=hg e;exact⟨g,e1,e2,e3.belowAll d4⟩
 case s3=>
  intro bb1 bb2 a3 w3 hs;obtain⟨x12,x13,x15,x16,x5,x6,rfl,D3,h1,h2,h3,h4,hf,hg,hne⟩:=(hSt _ _ _ _ _).1 hs;clear hs;obtain rfl:=h1 (by omega);obtain rfl:=h2 (by omega);refine aj ?_;refine hqc ?_;go_simp;refine ae ?_;refine(lW b w3 hb5).mono ?_;rintro e w4 ⟨rfl,d4⟩;refine⟨_,rfl,d4,?_⟩
  try simp only[Act.put,zz1,zz2,zz3]
  rw[show ew b=fb from HFB.out.symm];refine ax ((hSt _ _ _ _ _).2 ⟨_,_,_,_,_,_,rfl,D3.trans (d4.mono D3.size),fun _=>rfl,fun _=>rfl,fun _=>rfl,fun h=>by omega,fun e=> ?_,fun e=> ?_,hne⟩)
  ·obtain⟨g,e1,e2,e3⟩:=hf e;exact⟨g,e1,e2,e3.belowAll d4⟩
  ·obtain⟨g,e1,e2,e3⟩:=hg e;exact⟨g,e1,e2,e3.belowAll d4⟩
 case s4=>
  intro bb1 bb2 a3 w3 hs;obtain⟨x12,x13,x15,x16,x5,x6,rfl,D3,h1,h2,h3,h4,hf,hg,hne⟩:=(hSt _ _ _ _ _).1 hs;clear hs;obtain rfl:=h1 (by omega);obtain rfl:=h2 (by omega);obtain rfl:=h3 (by omega);refine aj ?_;refine hqc ?_;go_simp;refine ae ?_;refine(dW fb w3 fbl).mono ?_;rintro e w4 ⟨rfl,d4⟩;refine⟨_,rfl,d4,?_⟩
  try simp only[Act.put,zz1,zz2,zz3]
  rw[show to64 fb=lb from HLB.out.symm];refine ax ((hSt _ _ _ _ _).2 ⟨_,_,_,_,_,_,rfl,D3.trans (d4.mono D3.size),fun _=>rfl,fun _=>rfl,fun _=>rfl,fun _=>rfl,fun e=> ?_,fun e=> ?_,hne⟩)
  ·obtain⟨g,e1,e2,e3⟩:=hf e;exact⟨g,e1,e2,e3.belowAll d4⟩
  ·obtain⟨g,e1,e2,e3⟩:=hg e;exact⟨g,e1,e2,e3.belowAll d4⟩
 case sf=>
  intro j hj cc a3 w3 hs;obtain⟨x12,x13,x15,x16,x5,x6,rfl,D3,h1,h2,h3,h4,hf,hg,hne⟩:=(hSt _ _ _ _ _).1 hs;clear hs;refine aj ?_;obtain⟨u3,eu3⟩: ∃u,w3.alloc (.cells (A64 (aa 64 5)) 351)=u:=⟨_,rfl⟩;obtain⟨bf,du,zu⟩:=new1 _ _ _ _ eu3;obtain⟨pf,hpf⟩: ∃g,g=w3.heap.size:=⟨_,rfl⟩;refine aX (v:= .pointer (some ⟨pf,0,none⟩)) (w':=u3) rfl (by rw[hpf];go_simp;exact eu3) du ?_;simp only[Act.put,zz1,zz2,zz3];rw[←hpf]at bf;exact ax ((hSt _ _ _ _ _).2 ⟨_,_,_,_,_,_,rfl,D3.trans (du.mono D3.size),h1,h2,h3,h4,fun _=>⟨pf,rfl,by rw[hpf];exact D3.size,bf⟩,fun e=>by obtain⟨g,e1,e2,e3⟩:=hg e;exact⟨g,e1,e2,e3.belowAll du⟩,fun _ e he=>by obtain⟨g,e1,e2,e3⟩:=hg e;rw[e1]at he;have:=e3.lt;injection he with he;injection he with he;injection he with he;omega⟩)
 case sg=>
  intro j hj cc a3 w3 hs;obtain⟨x12,x13,x15,x16,x5,x6,rfl,D3,h1,h2,h3,h4,hf,hg,hne⟩:=(hSt _ _ _ _ _).1 hs;clear hs;refine aj ?_;obtain⟨u3,eu3⟩: ∃u,w3.alloc (.cells (A64 (aa 64 5)) 351)=u:=⟨_,rfl⟩;obtain⟨bf,du,zu⟩:=new1 _ _ _ _ eu3;obtain⟨pf,hpf⟩: ∃g,g=w3.heap.size:=⟨_,rfl⟩;refine aX (v:= .pointer (some ⟨pf,0,none⟩)) (w':=u3) rfl (by rw[hpf];go_simp;exact eu3) du ?_;simp only[Act.put,zz1,zz2,zz3];rw[←hpf]at bf;exact ax ((hSt _ _ _ _ _).2 ⟨_,_,_,_,_,_,rfl,D3.trans (du.mono D3.size),h1,h2,h3,h4,fun e=>by obtain⟨g,e1,e2,e3⟩:=hf e;exact⟨g,e1,e2,e3.belowAll du⟩,fun _=>⟨pf,rfl,by rw[hpf];exact D3.size,bf⟩,fun e _ he=>by obtain⟨g,e1,e2,e3⟩:=hf e;rw[e1]at he;have:=e3.lt;injection he with he;injection he with he;injection he with he;omega⟩)
 case sR=>
  intro a3 w3 hs;obtain⟨x12,x13,x15,x16,x5,x6,rfl,D3,h1,h2,h3,h4,hf,hg,hne⟩:=(hSt _ _ _ _ _).1 hs;clear hs hSt;obtain rfl:=h2 (by decide);obtain rfl:=h4 (by decide);obtain⟨g5,rfl,hg5,bg5⟩:=hf rfl;obtain⟨g6,rfl,hg6,bg6⟩:=hg rfl;have hgg:g5≠g6:=fun e=>hne rfl rfl (by rw[e]);refine bE ?_;refine am bg5 rfl rfl (by rw[dp,dp,lal,af]) (iD _) (by rw[dp,lal];exact sizeOf351 _) (fun w4 k4 q4 s4=> ?_);have BD4:=D3.trans (ac q4 hg5 D3.size);refine ak ⟨hCe _ BD4,?_⟩;refine bE ?_;refine am (bg6.grown q4 (by intro e;cases e;exact hgg rfl)) rfl rfl (by rw[dp,dp,lbl,af]) (iD _) (by rw[dp,lbl];exact sizeOf351 _) (fun w5 k5 q5 s5=> ?_);have BD5:=BD4.trans (ac q5 hg6 BD4.size);refine ak ⟨hCe _ BD5,?_⟩;refine cQ (hK' _ _ ?_);have E5:Below W.heap.size W w5:=((Below.refl W.heap.size W).drew).trans BD5;have X5:=k4.grown q5 (by intro e;cases e;exact hgg rfl);have X1:=hid (X5.alloc (.cells (A64 (aa 64 5)) 351));have Y1:=hid (k5.alloc (.cells (A64 (aa 64 5)) 351));have Z1:=hid ((Z0.out.belowAll E5).alloc (.cells (A64 (aa 64 5)) 351));have D5:=B0.out.trans (E5.mono B0.out.size);have B1:=hid (D5.alloc D5.size (.cells (A64 (aa 64 5)) 351));have A1:=hid (Blk.new w5 351 (A64 (aa 64 5)));have n1:g5≠w5.heap.size:=by have:=X5.lt;omega
  have n2:g6≠w5.heap.size:=by have:=k5.lt;omega
  have n3:w.heap.size+2≠w5.heap.size:=by have:=(Z0.out.belowAll E5).lt;omega
  have n4:w.heap.size≤w5.heap.size:=D5.size;clear hK' hC0 hCb hCe BD4 BD5 D3 h1 h2 h3 h4 hf hg hne bg5 bg6 q4 s4 k4 q5 s5 k5 E5 X5 D5 P0 Q0 Z0 B0 hgg;go_wp2_with fail;generalize w5.alloc (.cells (A64 (aa 64 5)) 351)=V at*;generalize w5.heap.size=g7 at*;go_loopw [17] (fun i wr=> ∃k:Nat,k≤5∧i= .int .i64 k∧Blk wr g5 351 (A64 la)∧Blk wr g6 351 (A64 lb)∧Blk wr (w.heap.size+2) 342 (A32 (aa 32 5))∧Blk wr g7 351 (A64 (ch la lb (5*k)))∧Below w.heap.size w wr) (fun i _=>5-(intOf i).toNat)
  case atStart=>exact⟨0,Nat.zero_le _,rfl,X1.out,Y1.out,Z1.out,A1.out,B1.out⟩
  case round=>
   obtain⟨k,hk,rfl,hX,hY,hZ,hA,hB⟩:=hrel;have X2:=hid hX;have Y2:=hid hY;have Z2:=hid hZ;have A2:=hid hA;have B2:=hid hB;clear hX hY hZ hA hB X1 Y1 Z1 A1 B1;by_cases hk5:k<5
   ·have k1:(k:Int)<5:=by omega
    have k0:(0:Int)≤(k:Int):=by omega
    go_wp2_with fail;go_loopw [20] (fun i2 wi=> ∃j:Nat,j≤5∧i2= .int .i64 j∧Blk wi g5 351 (A64 la)∧Blk wi g6 351 (A64 lb)∧Blk wi (w.heap.size+2) 342 (A32 (aa 32 5))∧Blk wi g7 351 (A64 (ch la lb (5*k+j)))∧Below w.heap.size w wi) (fun i2 _=>5-(intOf i2).toNat)
    case atStart=>exact⟨0,Nat.zero_le _,rfl,X2.out,Y2.out,Z2.out,A2.out,B2.out⟩
    case round=>
     obtain⟨j,hj,rfl,hX,hY,hZ,hA,hB⟩:=hrel;have X3:=hid hX;have Y3:=hid hY;have Z3:=hid hZ;have A3:=hid hA;have B3:=hid hB;clear hX hY hZ hA hB X2 Y2 Z2 A2 B2;by_cases hj5:j<5
     ·have j1:(j:Int)<5:=by omega
      have j0:(0:Int)≤(j:Int):=by omega
      have c1:=X3.out.drew.cell64 lal k hk5;have c2:=Y3.out.drew.cell64 lbl j hj5;obtain⟨U,hU⟩: ∃U,U=nth la k:=⟨_,rfl⟩;obtain⟨T,hT⟩: ∃T,T=nth lb j:=⟨_,rfl⟩;rw[←hU]at c1;rw[←hT]at c2;obtain⟨S,hS⟩: ∃S,S=k+j:=⟨_,rfl⟩;have f1:(k:Int)+(j:Int)=(S:Int):=by omega
      have f2:IntKind.i64.wrap (S:Int)=(S:Int):=by rw[IntKind.wrap_i64];omega
      obtain⟨Q,hQ⟩: ∃Q,Q=S %5:=⟨_,rfl⟩;have hq5:Q<5:=by rw[hQ];exact Nat.mod_lt _ (by decide)
      have f3:(S:Int).tmod 5=(Q:Int):=by rw[hQ];rfl
      have f4:IntKind.i64.wrap (Q:Int)=(Q:Int):=by rw[IntKind.wrap_i64];omega
      have q1:(Q:Int)<5:=by omega
      have q0:(0:Int)≤(Q:Int):=by omega
      have hpl:=dh la lb (5*k+j);have c3:=A3.out.drew.cell64 hpl Q hq5;have fo:=A3.out.drew.frozen Q;obtain⟨E,hE⟩: ∃E,E=nth (ch la lb (5*k+j)) Q:=⟨_,rfl⟩;rw[←hE]at c3;obtain⟨M,hM⟩: ∃M,M=U*T:=⟨_,rfl⟩;have g1: ∀t,binOp .mul t (v64 U) (v64 T)=pure (v64 M):=fun t=>by rw[hM];exact nI t U T
      obtain⟨M5,hM5⟩: ∃M5,M5=M*5#64:=⟨_,rfl⟩;have g2: ∀t,binOp .mul t (v64 M) (.int .u64 5)=pure (v64 M5):=fun t=>by rw[hM5];exact nI t M 5#64
      have hstep: ∀Y,Y=(if 5≤S then M5 else M)→(ch la lb (5*k+j)).set Q (E+Y)=ch la lb (5*k+(j+1)):=by
       intro Y hY;have e1:(5*k+j)/5=k:=by omega
       have e2:(5*k+j) %5=j:=by omega
       show _=ch la lb ((5*k+j)+1);rw[ch,e1,e2,hE,hQ,hS,hY,pX,hM5,hM,hU,hT,hS]
      have HST:=hid hstep;clear hU hT hS hQ hE hM hM5 hstep;go_upto_region 9 with fail;refine ao [0,0,1,0,0,1,0,0] (by kernel_rfl) (by kernel_rfl) (fun ops' K2 hK2=> ?_)
      repeat (first|((with_reducible refine zq0 ?_);refine zq0a ?_)|((with_reducible refine zq1 ?_);refine zq1a ?_))
      refine ak (hK2 _ _ ?_);clear hK2 c1 c2;by_cases hs5:5≤S
      ·have s1:(5:Int)≤(S:Int):=by omega
       obtain⟨G,hG⟩: ∃G,G=E+M5:=⟨_,rfl⟩;have g3: ∀t,binOp .add t (v64 E) (v64 M5)=pure (v64 G):=fun t=>by rw[hG];exact kF t E M5
       have kk:=A3.out.drew.set_ Q (v64 G);have hst:=HST.out M5 (by first|rw[if_pos hs5]|rw[if_neg hs5]);rw[fe,hG,hst]at kk;rw[←hG]at kk;have A4:=hid kk;have X4:=hid (X3.out.drew.far (p:=⟨g7,Q,none⟩) (by simpa using n1) (v64 G));have Y4:=hid (Y3.out.drew.far (p:=⟨g7,Q,none⟩) (by simpa using n2) (v64 G));have Z4:=hid (Z3.out.drew.far (p:=⟨g7,Q,none⟩) (by simpa using n3) (v64 G));have B4:=hid (B3.out.drew.setCell (p:=⟨g7,Q,none⟩) n4 (v64 G));clear hG kk hst X3 Y3 Z3 A3 B3;go_wp2;exact⟨⟨j+1,by omega,by go_num,X4.out,Y4.out,Z4.out,A4.out,B4.out⟩,by simp[intOf];omega⟩
      ·have s1: ¬(5:Int)≤(S:Int):=by omega
       obtain⟨G,hG⟩: ∃G,G=E+M:=⟨_,rfl⟩;have g3: ∀t,binOp .add t (v64 E) (v64 M)=pure (v64 G):=fun t=>by rw[hG];exact kF t E M
       have kk:=A3.out.drew.set_ Q (v64 G);have hst:=HST.out M (by first|rw[if_pos hs5]|rw[if_neg hs5]);rw[fe,hG,hst]at kk;rw[←hG]at kk;have A4:=hid kk;have X4:=hid (X3.out.drew.far (p:=⟨g7,Q,none⟩) (by simpa using n1) (v64 G));have Y4:=hid (Y3.out.drew.far (p:=⟨g7,Q,none⟩) (by simpa using n2) (v64 G));have Z4:=hid (Z3.out.drew.far (p:=⟨g7,Q,none⟩) (by simpa using n3) (v64 G));have B4:=hid (B3.out.drew.setCell (p:=⟨g7,Q,none⟩) n4 (v64 G));clear hG kk hst X3 Y3 Z3 A3 B3;go_wp2;exact⟨⟨j+1,by omega,by go_num,X4.out,Y4.out,Z4.out,A4.out,B4.out⟩,by simp[intOf];omega⟩
     ·obtain rfl:j=5:=by omega
      have a3:=A3.out;rw[show 5*k+5=5*(k+1) by omega]at a3;have A4:=hid a3;clear a3;go_wp2;exact⟨⟨k+1,by omega,by go_num,X3.out,Y3.out,Z3.out,A4.out,B3.out⟩,by simp[intOf];omega⟩
   ·obtain rfl:k=5:=by omega
    have a5:=A2.out;have hsl:=dh la lb (5*5);have hlt: ∀i,i<5→pn (ch la lb (5*5)) i<2^60:=fun i hi=>by
     have h1:=nr la lb SA.out SB.out 25 (Nat.le_refl _) i hi;exact Nat.lt_of_le_of_lt h1 (by decide)
    obtain⟨S,hS⟩: ∃S,S=ch la lb (5*5):=⟨_,rfl⟩;rw[←hS]at a5 hsl hlt;have HS:=hid hS;have LT:=hid hlt;have r1:=a5.row;clear a5 hS hlt;go_wp2_with fail;refine(iX S wr hsl LT.out).mono ?_;rintro e w9 ⟨rfl,d9⟩;rw[show cR S=R by rw[HR.out,HS.out,HLA.out,HLB.out,HFA.out,HFB.out];rfl];have z9:=Z2.out.belowAll d9;have r3:=z9.row;have r4:=z9.whole;have B9:=B2.out.trans (d9.mono B2.out.size);clear d9 z9;go_wp2;refine ag (A32 R) rfl rfl rfl (isAgg342 _) (sizeOf342 _) (by rw[bI];exact hRl) (ah _ r4) ⟨rfl,below_setRow B9 (by omega) _⟩
open Go.RowKit
def ofW(X:W2)(h:BitVec 32):List (BitVec 64):=[X.1&&&msk,(X.1>>>26)&&&msk,(X.1>>>52|||X.2<<<12)&&&msk,(X.2>>>14)&&&msk,X.2>>>40|||(h.setWidth 64)<<<24]
theorem zL(X:W2)(h:BitVec 32): ∀i,i<5→pn (ofW X h) i<2^60:=by
 have hm: ∀x:BitVec 64,(x&&&msk).toNat<2^60:=fun x=>by rw[gD];omega
 intro i hi;obtain rfl|rfl|rfl|rfl|rfl:i=0∨i=1∨i=2∨i=3∨i=4:=by omega
 ·exact hm _
 ·exact hm _
 ·exact hm _
 ·exact hm _
 ·show(X.2>>>40|||(h.setWidth 64)<<<24).toNat<2^60;rw[BitVec.toNat_or];refine Nat.or_lt_two_pow ?_ ?_
  ·rw[BitVec.toNat_ushiftRight,Nat.shiftRight_eq_div_pow];have:=X.2.isLt;omega
  ·have hh:=h.isLt;rw[BitVec.toNat_shiftLeft,BitVec.toNat_setWidth,Nat.shiftLeft_eq];omega
def ofN(l:Y8)(h:BitVec 32):List (BitVec 32):=cR (ofW (long l 0,long l 8) h)
@[simp] theorem fw(l:Y8)(h:BitVec 32):(ofN l h).length=5:=cO _
def lowW(w:List (BitVec 64)):W2:=(nth w 0|||nth w 1<<<26|||nth w 2<<<52,nth w 2>>>12|||nth w 3<<<14|||nth w 4<<<40)
def lowN(x:List (BitVec 32)):Y8:=le64 (lowW (to64 (ew x))).1++le64 (lowW (to64 (ew x))).2
@[simp] theorem yA(x:List (BitVec 32)):(lowN x).length=16:=rfl
def dc(a:BitVec 64)(k:Nat):BitVec 64:=a<<<k
def dX(a:BitVec 64)(k:Nat):BitVec 64:=a>>>k
theorem xO(x:List (BitVec 32))(w:World)(hx:x.length=5):
  Calls prog 253 #[.agg (A32 x)] w fun e w' =>e= .returned (.agg (A8 (lowN x)))∧Below w.heap.size w w':=by
 obtain⟨W,hW⟩: ∃W,(w.alloc (.cells (A32 x) 342)).alloc (.cells (A8 (aa 8 16)) 154)=W:=⟨_,rfl⟩;obtain⟨b0,b1,hb,hz⟩:=new2 _ _ _ _ _ _ hW;have r0:=b0.row;have Z0:=hid b1;have B0:=hid hb;have fl:=dC x;obtain⟨F,hF⟩: ∃F,F=ew x:=⟨_,rfl⟩;have hLl:(to64 F).length=5:=by rw[bC,hF,fl]
 rw[←hF]at fl;obtain⟨L,hL⟩: ∃L,L=to64 F:=⟨_,rfl⟩;rw[←hL]at hLl;obtain⟨X,hX⟩: ∃X,X=lowW L:=⟨_,rfl⟩;have hR:lowN x=le64 X.1++le64 X.2:=by rw[lowN,hX,hL,hF]
 rw[hR];have HF:=hid hF;have HL:=hid hL;have HX:=hid hX;clear b0 b1 hb hz hF hL hX hR;go_enter func253,ntmps253;go_wp2_with fail;refine(lW x W hx).mono ?_;rintro e w1 ⟨rfl,d1⟩;rw[show ew x=F from HF.out.symm];clear hW r0;go_wp2_with fail;refine(dW F w1 fl).mono ?_;rintro e w2 ⟨rfl,d2⟩;rw[show to64 F=L from HL.out.symm];have d12:=d1.trans (d2.mono d1.size);have N2:=hid (Blk.new w2 351 (A64 L));have Z2:=hid ((Z0.out.belowAll d12).alloc (.cells (A64 L) 351));have D2:=B0.out.trans (d12.mono B0.out.size);have B2:=hid (D2.alloc D2.size (.cells (A64 L) 351));clear d1 d2 d12 D2 Z0 B0;go_upto_region 2 with fail;generalize w2.alloc (.cells (A64 L) 351)=V at*;generalize w2.heap.size=q at*;have c0:=N2.out.cell64 hLl 0 (by omega);have c1:=N2.out.cell64 hLl 1 (by omega);have c2:=N2.out.cell64 hLl 2 (by omega);have c3:=N2.out.cell64 hLl 3 (by omega);have c4:=N2.out.cell64 hLl 4 (by omega);obtain⟨a0,h0⟩: ∃z,z=nth L 0:=⟨_,rfl⟩;obtain⟨a1,h1⟩: ∃z,z=nth L 1:=⟨_,rfl⟩;obtain⟨a2,h2⟩: ∃z,z=nth L 2:=⟨_,rfl⟩;obtain⟨a3,h3⟩: ∃z,z=nth L 3:=⟨_,rfl⟩;obtain⟨a4,h4⟩: ∃z,z=nth L 4:=⟨_,rfl⟩;rw[←h0]at c0;rw[←h1]at c1;rw[←h2]at c2;rw[←h3]at c3;rw[←h4]at c4;obtain⟨s1,hs1⟩: ∃z,z=dc a1 26:=⟨_,rfl⟩;have fs1: ∀t,binOp .shl t (v64 a1) (.int .u64 26)=pure (v64 s1):=fun t=>by rw[hs1];exact gn t .u64 a1 26 (by decide)
 obtain⟨s2,hs2⟩: ∃z,z=dc a2 52:=⟨_,rfl⟩;have fs2: ∀t,binOp .shl t (v64 a2) (.int .u64 52)=pure (v64 s2):=fun t=>by rw[hs2];exact gn t .u64 a2 52 (by decide)
 obtain⟨s3,hs3⟩: ∃z,z=dX a2 12:=⟨_,rfl⟩;have fs3: ∀t,binOp .shr t (v64 a2) (.int .u64 12)=pure (v64 s3):=fun t=>by rw[hs3];exact gp t .u64 a2 12 (by decide)
 obtain⟨s4,hs4⟩: ∃z,z=dc a3 14:=⟨_,rfl⟩;have fs4: ∀t,binOp .shl t (v64 a3) (.int .u64 14)=pure (v64 s4):=fun t=>by rw[hs4];exact gn t .u64 a3 14 (by decide)
 obtain⟨s5,hs5⟩: ∃z,z=dc a4 40:=⟨_,rfl⟩;have fs5: ∀t,binOp .shl t (v64 a4) (.int .u64 40)=pure (v64 s5):=fun t=>by rw[hs5];exact gn t .u64 a4 40 (by decide)
 obtain⟨o1,ho1⟩: ∃z,z=a0|||s1:=⟨_,rfl⟩;have fo1: ∀t,binOp .or t (v64 a0) (v64 s1)=pure (v64 o1):=fun t=>by rw[ho1];exact jl t a0 s1
 obtain⟨o2,ho2⟩: ∃z,z=o1|||s2:=⟨_,rfl⟩;have fo2: ∀t,binOp .or t (v64 o1) (v64 s2)=pure (v64 o2):=fun t=>by rw[ho2];exact jl t o1 s2
 obtain⟨o3,ho3⟩: ∃z,z=s3|||s4:=⟨_,rfl⟩;have fo3: ∀t,binOp .or t (v64 s3) (v64 s4)=pure (v64 o3):=fun t=>by rw[ho3];exact jl t s3 s4
 obtain⟨o4,ho4⟩: ∃z,z=o3|||s5:=⟨_,rfl⟩;have fo4: ∀t,binOp .or t (v64 o3) (v64 s5)=pure (v64 o4):=fun t=>by rw[ho4];exact jl t o3 s5
 have hXX:X=(o2,o4):=by rw[HX.out,lowW,ho2,ho1,ho4,ho3,hs1,hs2,hs3,hs4,hs5,h0,h1,h2,h3,h4];rfl
 have HXX:=hid hXX;clear h0 h1 h2 h3 h4 hs1 hs2 hs3 hs4 hs5 ho1 ho2 ho3 ho4 hXX;go_wp2_with fail;refine(df (o2,o4) V).mono ?_;rintro e w3 ⟨rfl,d3⟩;have z3:=Z2.out.belowAll d3;have r3:=z3.row;have r4:=z3.whole;have B3:=B2.out.trans (d3.mono B2.out.size);clear d3 z3 c0 c1 c2 c3 c4;go_wp2;rw[HXX.out];refine ag (A8 (le64 o2++le64 o4)) rfl rfl rfl (isAgg154 _) (sizeOf154 _) (by rw[au];rfl) (ah _ r4) ⟨rfl,below_setRow B3 (by omega) _⟩
open Go.RowKit
theorem oA(l:Y8)(h:BitVec 32)(w:World)(hl:l.length=16):
  Calls prog 244 #[.agg (A8 l),v32 h] w fun e w' =>e= .returned (.agg (A32 (ofN l h)))∧Below w.heap.size w w':=by
 obtain⟨W,hW⟩: ∃W,(w.alloc (.cells (A8 l) 154)).alloc (.cells (A32 (aa 32 5)) 342)=W:=⟨_,rfl⟩;obtain⟨b0,b1,hb,hz⟩:=new2 _ _ _ _ _ _ hW;have rl:Rd8 W (some ⟨w.heap.size,0,none⟩) 16 16 l:=by
  have:=b0.rd8 16 (by omega) (by rw[hl];unfold maxLen;omega)
  rwa [hl,List.take_of_length_le (by omega)]at this
 have L0:=hid rl;have Z0:=hid b1;have B0:=hid hb;have hRl:=fw l h;obtain⟨R,hR⟩: ∃R,R=ofN l h:=⟨_,rfl⟩;rw[←hR]at hRl⊢;have HR:=hid hR;clear b0 b1 hb hz rl hR;go_enter func244,ntmps244;go_wp2_with fail;refine(fS l _ 16 16 W L0.out).mono ?_;rintro e w1 ⟨rfl,d1⟩;obtain⟨lo,hlo⟩: ∃z,z=long l 0:=⟨_,rfl⟩;obtain⟨hi,hhi⟩: ∃z,z=long l 8:=⟨_,rfl⟩;rw[←hlo,←hhi,show wl (lo,hi)=[lo,hi] from rfl];have hres:R=cR (ofW (lo,hi) h):=by rw[HR.out,ofN,←hlo,←hhi]
 have HRES:=hid hres;have N1:=hid (Blk.new w1 242 (A64 [lo,hi]));have Z1:=hid ((Z0.out.belowAll d1).alloc (.cells (A64 [lo,hi]) 242));have D1:=B0.out.trans (d1.mono B0.out.size);have B1:=hid (D1.alloc D1.size (.cells (A64 [lo,hi]) 242));clear hlo hhi hres d1 D1 Z0 B0 hW;go_upto_region 2 with fail;generalize w1.alloc (.cells (A64 [lo,hi]) 242)=V at*;generalize w1.heap.size=q at*;have c0:V.cell? ⟨q,0,none⟩=some (v64 lo):=N1.out.cell64 (m:=2) rfl 0 (by omega);have c1:V.cell? ⟨q,1,none⟩=some (v64 hi):=N1.out.cell64 (m:=2) rfl 1 (by omega);obtain⟨hh,eh⟩: ∃z,z=h.setWidth 64:=⟨_,rfl⟩;have fh: ∀w,(convert 69 96 (v32 h)).run prog w= .ok (v64 hh) w:=fun w=>by rw[eh];exact qy h w _ _ underlying69 underlying96
 obtain⟨s1,hs1⟩: ∃z,z=dX lo 26:=⟨_,rfl⟩;have fs1: ∀t,binOp .shr t (v64 lo) (.int .u64 26)=pure (v64 s1):=fun t=>by rw[hs1];exact gp t .u64 lo 26 (by decide)
 obtain⟨s2,hs2⟩: ∃z,z=dX lo 52:=⟨_,rfl⟩;have fs2: ∀t,binOp .shr t (v64 lo) (.int .u64 52)=pure (v64 s2):=fun t=>by rw[hs2];exact gp t .u64 lo 52 (by decide)
 obtain⟨s3,hs3⟩: ∃z,z=dc hi 12:=⟨_,rfl⟩;have fs3: ∀t,binOp .shl t (v64 hi) (.int .u64 12)=pure (v64 s3):=fun t=>by rw[hs3];exact gn t .u64 hi 12 (by decide)
 obtain⟨s4,hs4⟩: ∃z,z=dX hi 14:=⟨_,rfl⟩;have fs4: ∀t,binOp .shr t (v64 hi) (.int .u64 14)=pure (v64 s4):=fun t=>by rw[hs4];exact gp t .u64 hi 14 (by decide)
 obtain⟨s5,hs5⟩: ∃z,z=dX hi 40:=⟨_,rfl⟩;have fs5: ∀t,binOp .shr t (v64 hi) (.int .u64 40)=pure (v64 s5):=fun t=>by rw[hs5];exact gp t .u64 hi 40 (by decide)
 obtain⟨s6,hs6⟩: ∃z,z=dc hh 24:=⟨_,rfl⟩;have fs6: ∀t,binOp .shl t (v64 hh) (.int .u64 24)=pure (v64 s6):=fun t=>by rw[hs6];exact gn t .u64 hh 24 (by decide)
 obtain⟨o1,ho1⟩: ∃z,z=s2|||s3:=⟨_,rfl⟩;have fo1: ∀t,binOp .or t (v64 s2) (v64 s3)=pure (v64 o1):=fun t=>by rw[ho1];exact jl t s2 s3
 obtain⟨o2,ho2⟩: ∃z,z=s5|||s6:=⟨_,rfl⟩;have fo2: ∀t,binOp .or t (v64 s5) (v64 s6)=pure (v64 o2):=fun t=>by rw[ho2];exact jl t s5 s6
 obtain⟨m0,hm0⟩: ∃z,z=lo&&&msk:=⟨_,rfl⟩;have fm0: ∀t,binOp .and t (v64 lo) (.int .u64 67108863)=pure (v64 m0):=fun t=>by rw[hm0];exact iA t lo msk
 obtain⟨m1,hm1⟩: ∃z,z=s1&&&msk:=⟨_,rfl⟩;have fm1: ∀t,binOp .and t (v64 s1) (.int .u64 67108863)=pure (v64 m1):=fun t=>by rw[hm1];exact iA t s1 msk
 obtain⟨m2,hm2⟩: ∃z,z=o1&&&msk:=⟨_,rfl⟩;have fm2: ∀t,binOp .and t (v64 o1) (.int .u64 67108863)=pure (v64 m2):=fun t=>by rw[hm2];exact iA t o1 msk
 obtain⟨m3,hm3⟩: ∃z,z=s4&&&msk:=⟨_,rfl⟩;have fm3: ∀t,binOp .and t (v64 s4) (.int .u64 67108863)=pure (v64 m3):=fun t=>by rw[hm3];exact iA t s4 msk
 have hXX:ofW (lo,hi) h=[m0,m1,m2,m3,o2]:=by rw[ofW,hm0,hm1,hm2,hm3,ho2,ho1,hs1,hs2,hs3,hs4,hs5,hs6,eh];rfl
 have hlt:=zL (lo,hi) h;rw[hXX]at hlt;have hres:R=cR [m0,m1,m2,m3,o2]:=by rw[HRES.out,hXX]
 have LT:=hid hlt;have HR2:=hid hres;clear hs1 hs2 hs3 hs4 hs5 hs6 ho1 ho2 hm0 hm1 hm2 hm3 hXX hlt hres eh HRES;go_wp2_with fail;refine(iX [m0,m1,m2,m3,o2] V rfl LT.out).mono ?_;rintro e w3 ⟨rfl,d3⟩;rw[show cR [m0,m1,m2,m3,o2]=R from HR2.out.symm];have z3:=Z1.out.belowAll d3;have r3:=z3.row;have r4:=z3.whole;have B3:=B1.out.trans (d3.mono B1.out.size);clear d3 z3 c0 c1;go_wp2;refine ag (A32 R) rfl rfl rfl (isAgg342 _) (sizeOf342 _) (by rw[bI];exact hRl) (ah _ r4) ⟨rfl,below_setRow B3 (by omega) _⟩
end Go.Proofs.YtlpkfdkhlffmlaaGreatDoor
