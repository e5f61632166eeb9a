/-octet:Load;ring:up,down,bit,plus,dot-/
import Derived.Test.YtddkbkbpogcffaaGreatDoorMGw
import Derived.Test.YtddkbkbpogcffaaGreatDoorMPl
import Derived.Test.YtddkbkbpogcffaaGreatDoorMGb
import Derived.Test.YtddkbkbpogcffaaGreatDoorMGn
import Derived.Test.YtddkbkbpogcffaaGreatDoorMGu
import Derived.Deep.Cut
import Derived.Test.YtddkbkbpogcffaaGreatDoorMGo
namespace Go.Proofs.YtddkbkbpogcffaaGreatDoor
open Go.Proofs.Tryz
open Lib (hid)
set_option linter.unusedSimpArgs false
set_option linter.unusedVariables false
set_option maxRecDepth 100000
set_option maxHeartbeats 1600000
open Go.RowKit
theorem Bt(x:W2)(w:World):
  Calls prog 293 #[.agg (A64 (wl x))] w fun e w' =>e= .returned (.agg (A64 (wl (upW x))))∧Below w.heap.size w w':=by
 obtain⟨W,hW⟩: ∃W,(w.alloc (.cells (A64 (wl x)) 250)).alloc (.cells (A64 (ac 64 2)) 250)=W:=⟨_,rfl⟩;obtain⟨b0,b1,hb,hz⟩:=new2 _ _ _ _ _ _ hW;have c0:=b0.cell64 (m:=2) rfl 0 (by omega);have c1:=b0.cell64 (m:=2) rfl 1 (by omega);rw[show nth (wl x) 0=x.1 from rfl]at c0;rw[show nth (wl x) 1=x.2 from rfl]at c1;have r1:=b1.row;have r2:=b1.whole;have K:=(b1.put (A64 (wl (upW x)))).row;have B:=below_setRow hb (show w.heap.size≤w.heap.size+1 by omega) (A64 (wl (upW x)));have KK:=hid K;have BB:=hid B;clear b0 b1 hb hz K B;go_enter func293,ntmps293;go_wp2;refine aj (A64 (wl (upW x))) rfl rfl rfl (isAgg250 _) (sizeOf250 _) rfl KK.out ⟨rfl,BB.out⟩
theorem Dg(x:W2)(w:World):
  Calls prog 294 #[.agg (A64 (wl x))] w fun e w' =>e= .returned (.agg (A64 (wl (yA x))))∧Below w.heap.size w w':=by
 obtain⟨W,hW⟩: ∃W,(w.alloc (.cells (A64 (wl x)) 250)).alloc (.cells (A64 (ac 64 2)) 250)=W:=⟨_,rfl⟩;obtain⟨b0,b1,hb,hz⟩:=new2 _ _ _ _ _ _ hW;have c0:=b0.cell64 (m:=2) rfl 0 (by omega);have c1:=b0.cell64 (m:=2) rfl 1 (by omega);rw[show nth (wl x) 0=x.1 from rfl]at c0;rw[show nth (wl x) 1=x.2 from rfl]at c1;have r1:=b1.row;have r2:=b1.whole;have K:=(b1.put (A64 (wl (yA x)))).row;have B:=below_setRow hb (show w.heap.size≤w.heap.size+1 by omega) (A64 (wl (yA x)));have KK:=hid K;have BB:=hid B;clear b0 b1 hb hz K B;go_enter func294,ntmps294;go_wp2;refine aj (A64 (wl (yA x))) rfl rfl rfl (isAgg250 _) (sizeOf250 _) rfl KK.out ⟨rfl,BB.out⟩
theorem FD(x:W2)(i:Nat)(w:World)(hi:i<128):
  Calls prog 295 #[.agg (A64 (wl x)),.int .i64 i] w fun e w' =>e= .returned (v64 (bitW x i))∧Below w.heap.size w w':=by
 obtain⟨W,hW⟩: ∃W,(w.alloc (.cells (A64 (wl x)) 250))=W:=⟨_,rfl⟩;obtain⟨b0,hb,hz⟩:=new1 _ _ _ _ hW;have c0:=b0.cell64 (m:=2) rfl 0 (by omega);have c1:=b0.cell64 (m:=2) rfl 1 (by omega);rw[show nth (wl x) 0=x.1 from rfl]at c0;rw[show nth (wl x) 1=x.2 from rfl]at c1;have BB:=hid hb;have i0:(0:Int)≤(i:Int):=by omega
 clear b0 hb hz;by_cases h:i<64
 ·have h1:(i:Int)<64:=by omega
  have hv:bitW x i=x.1>>>i&&&1#64:=by rw[bitW,if_pos h]
  have HV:=hid hv;clear hv;go_enter func295,ntmps295;go_wp2;go_ret;rw[HV.out];exact⟨rfl,BB.out⟩
 ·have h1: ¬(i:Int)<64:=by omega
  obtain⟨j,hj⟩: ∃j,j=i-64:=⟨_,rfl⟩;have j1:(i:Int)-64=(j:Int):=by omega
  have j2:IntKind.i64.wrap (j:Int)=(j:Int):=by rw[IntKind.wrap_i64];omega
  have j0:(0:Int)≤(j:Int):=by omega
  have hv:bitW x i=x.2>>>j&&&1#64:=by rw[bitW,if_neg h,hj]
  have HV:=hid hv;clear hv hj;go_enter func295,ntmps295;go_wp2;go_ret;rw[HV.out];exact⟨rfl,BB.out⟩
theorem ot(x y:W2)(f:BitVec 64)(w:World):
  Calls prog 292 #[.agg (A64 (wl x)),.agg (A64 (wl y)),v64 f] w fun e w' =>e= .returned (.agg (A64 (wl (lY x y f))))∧Below w.heap.size w w':=by
 obtain⟨W,hW⟩: ∃W,((w.alloc (.cells (A64 (wl x)) 250)).alloc (.cells (A64 (wl y)) 250)).alloc (.cells (A64 (ac 64 2)) 250)=W:=⟨_,rfl⟩;obtain⟨b0,b1,b2,hb,hz⟩:=new3 _ _ _ _ _ _ _ _ hW;have c0:=b0.cell64 (m:=2) rfl 0 (by omega);have c1:=b0.cell64 (m:=2) rfl 1 (by omega);have e0:=b1.cell64 (m:=2) rfl 0 (by omega);have e1:=b1.cell64 (m:=2) rfl 1 (by omega);rw[show nth (wl x) 0=x.1 from rfl]at c0;rw[show nth (wl x) 1=x.2 from rfl]at c1;rw[show nth (wl y) 0=y.1 from rfl]at e0;rw[show nth (wl y) 1=y.2 from rfl]at e1;have r1:=b2.row;have r2:=b2.whole;have KK:=hid (b2.put (A64 (wl (lY x y f)))).row;have BB:=hid (below_setRow hb (show w.heap.size≤w.heap.size+2 by omega) (A64 (wl (lY x y f))));clear b0 b1 b2 hb hz;go_enter func292,ntmps292;go_wp2;refine aj (A64 (wl (lY x y f))) rfl rfl rfl (isAgg250 _) (sizeOf250 _) rfl KK.out ⟨rfl,BB.out⟩
open Go.RowKit
theorem FE(x y:W2)(w:World):
  Calls prog 291 #[.agg (A64 (wl x)),.agg (A64 (wl y))] w fun e w' =>e= .returned (.agg (A64 (wl (dotW x y))))∧Below w.heap.size w w':=by
 obtain⟨W,hW⟩: ∃W,(((w.alloc (.cells (A64 (wl x)) 250)).alloc (.cells (A64 (wl y)) 250)).alloc (.cells (A64 (ac 64 2)) 250)).alloc (.cells (A64 (ac 64 2)) 250)=W:=⟨_,rfl⟩;obtain⟨b0,b1,b2,b3,hb,hz⟩:=new4 _ _ _ _ _ _ _ _ _ _ hW;have P0:=hid b0;have Q0:=hid b1;have K0:=hid b2;have Z0:=hid b3;have B0:=hid hb;clear b0 b1 b2 b3 hb hz;go_enter func291,ntmps291;go_wp2_with fail;clear hW;go_loopw [7] (fun s7 wr=> ∃j:Nat,j≤128∧s7= .int .i64 j∧Blk wr w.heap.size 250 (A64 (wl x))∧Blk wr (w.heap.size+1) 250 (A64 (wl y))∧Blk wr (w.heap.size+2) 250 (A64 (ac 64 2))∧Blk wr (w.heap.size+3) 250 (A64 (wl (vi x y j)))∧Below w.heap.size w wr) (fun s7 _=>128-(intOf s7).toNat)
 case atStart=>exact⟨0,by omega,rfl,P0.out,Q0.out,K0.out,Z0.out,B0.out⟩
 case round=>
  obtain⟨j,hj,rfl,hP,hQ,hK,hZ,hB⟩:=hrel;have P1:=hid hP;have Q1:=hid hQ;have K1:=hid hK;have Z1:=hid hZ;have B1:=hid hB;clear hP hQ hK hZ hB P0 Q0 K0 Z0 B0;obtain⟨S,hS⟩: ∃S,S=vi x y j:=⟨_,rfl⟩;have HS:=hid hS;by_cases hj128:j<128
  ·have j1:(j:Int)<128:=by omega
   have j0:(0:Int)≤(j:Int):=by omega
   clear hS;go_upto_region 5 with fail;refine aw [5,5,5,0,2,2,2,3] (by kernel_rfl) (by kernel_rfl) (fun C hC0 hCb K' hK' => ?_);have q0: ∀w1,C w1→aF w1 w.heap.size=A64 (wl x):=fun w1 h=>(P1.out.drew.belowAll (hCb w1 h)).row;have q1: ∀w1,C w1→aF w1 (w.heap.size+1)=A64 (wl y):=fun w1 h=>(Q1.out.drew.belowAll (hCb w1 h)).row;have q2: ∀w1,C w1→aF w1 (w.heap.size+3)=A64 (wl S):=fun w1 h=>by rw[HS.out];exact(Z1.out.drew.belowAll (hCb w1 h)).row
   repeat (first|((with_reducible refine hq0 ?_);refine hq0a ?_)|((with_reducible refine hq5 ?_);refine hq5a ?_ (fun _ hcw=>by have f:=q0 _ hcw;have f1:=q1 _ hcw;have f2:=q2 _ hcw;go_simp;(try go_bits);exact rfl))|((with_reducible refine hq1 ?_);refine hq1a ?_))
   refine hqc ?_;go_simp;refine af ?_;refine(FD y j wr.drew hj128).mono ?_;rintro e w1 ⟨rfl,d1⟩;refine⟨_,rfl,d1,?_⟩
   try simp only[Act.put,zz1,zz2,zz3]
   refine hqc ?_;go_simp;refine af ?_;refine(ot S x (bitW y j) w1).mono ?_;rintro e w2 ⟨rfl,d2⟩;refine⟨_,rfl,d2,?_⟩
   try simp only[Act.put,zz1,zz2,zz3]
   refine hqc ?_;go_simp;refine af ?_;refine(Dg (lY S x (bitW y j)) w2).mono ?_;rintro e w3 ⟨rfl,d3⟩;refine⟨_,rfl,d3,?_⟩
   try simp only[Act.put,zz1,zz2,zz3]
   have D3:=d1.trans ((d2.trans (d3.mono d2.size)).mono d1.size);refine aU [2] rfl (by simp) ?_;refine aq (cs:=A64 (wl (vi x y (j+1)))) (Z1.out.drew.belowAll D3) rfl (by rw[vi,←HS.out];rfl) (by rw[bS,bS];rfl) (dY _) (by rw[bS];exact sizeOf250 _) (fun w5 k5 g5 s5=> ?_);refine az (hK' _ _ ?_);have d4:=B1.out.drew.trans (D3.mono B1.out.drew.size);have B5:=hid (d4.trans (ae g5 (by omega) d4.size));have P5:=hid ((P1.out.drew.belowAll D3).grown g5 (by simp));have Q5:=hid ((Q1.out.drew.belowAll D3).grown g5 (by simp));have K5:=hid ((K1.out.drew.belowAll D3).grown g5 (by simp));have Z5:=hid k5;clear q0 q1 q2 hC0 hCb hK' d1 d2 d3 D3 k5 g5 s5 d4;go_wp2;exact⟨⟨j+1,by omega,by go_num,P5.out,Q5.out,K5.out,Z5.out,B5.out⟩,by simp[intOf];omega⟩
  ·obtain rfl:j=128:=by omega
   have zz:=Z1.out;have hD:wl S=wl (dotW x y):=by rw[hS];rfl
   rw[←hS]at zz;have HD:=hid hD;have r1:=zz.row;have r2:=K1.out.row;have r3:=K1.out.whole;clear zz hS hD;go_wp2;refine aj (A64 (wl S)) rfl rfl rfl (isAgg250 _) (sizeOf250 _) rfl (an _ r3) ⟨by rw[HD.out],below_setRow B1.out (by omega) _⟩
open Go.RowKit
def flat(f:Nat→W2)(c:Nat):List (BitVec 64):=(List.range 32).map fun i=>if i/2<c then(if i %2=0 then(f (i/2)).1 else(f (i/2)).2)else 0#64
theorem cL(f:Nat→W2)(c:Nat):(flat f c).length=32:=by simp[flat]
theorem nd(f:Nat→W2)(c i:Nat)(h:i<32):nth (flat f c) i=if i/2<c then(if i %2=0 then(f (i/2)).1 else(f (i/2)).2)else 0#64:=by
 simp[nth,flat,List.getD_eq_getElem?_getD,h]
theorem FF(one:W2):flat (tabW one) 1=ac 64 32:=by
 apply aO
 ·rw[cL,ah]
 ·intro i hi;rw[cL]at hi;rw[nd _ _ _ hi,dg];by_cases h:i/2<1
  ·rw[if_pos h,show i/2=0 by omega];have:tabW one 0=(0#64,0#64):=by simp[tabW,xorW]
   rw[this];split<;>rfl
  ·rw[if_neg h]
theorem uH(f:Nat→W2)(c n:Nat)(hn:n<16)(hc:n<c):((flat f c).drop (2*n)).take 2=wl (f n):=by
 apply aO
 ·simp[cL];omega
 ·intro i hi;have hi2:i<2:=by simp[cL]at hi;omega
  rw[br _ _ _ hi2,bQ,nd _ _ _ (by omega),if_pos (by omega),show(2*n+i)/2=n by omega];have:i=0∨i=1:=by omega
  rcases this with rfl|rfl
  ·rw[if_pos (by omega)];rfl
  ·rw[if_neg (by omega)];rfl
theorem Dh(f:Nat→W2)(c:Nat)(hc:c<16):splc (flat f c) (2*c) (wl (f c))=flat f (c+1):=by
 have hl:2*c+(wl (f c)).length≤(flat f c).length:=by rw[cL];simp;omega
 apply aO
 ·rw[bq _ _ _ hl,cL,cL]
 ·intro i hi;rw[bq _ _ _ hl,cL]at hi;rw[gU _ _ _ hl,nd _ _ _ hi,nd _ _ _ hi];by_cases h:2*c≤i∧i<2*c+(wl (f c)).length
  ·have h2:i<2*c+2:=h.2;rw[if_pos h,if_pos (by omega),show i/2=c by omega];have:i-2*c=0∨i-2*c=1:=by omega
   rcases this with e|e
   ·rw[e,if_pos (by omega)];rfl
   ·rw[e,if_neg (by omega)];rfl
  ·have h2: ¬(2*c≤i∧i<2*c+2):=h;rw[if_neg h];clear h hl;by_cases h3:i/2<c
   ·have h4:i/2<c+1:=by omega
    simp only[h3,h4,if_true]
   ·have h4: ¬i/2<c+1:=by omega
    simp only[h3,h4,if_false]
theorem Di(one:W2)(k i:Nat)(hk:k<4)(hi:i<2^k):lY (tabW one i) (upN one k) 1#64=tabW one (2^k+i):=by
 have hx: ∀a:W2,xorW a (0#64,0#64)=a:=fun a=>by simp[xorW]
 have hz: ∀a:W2,xorW (0#64,0#64) a=a:=fun a=>by simp[xorW]
 rw[DX];have:k=0∨k=1∨k=2∨k=3:=by omega
 rcases this with rfl|rfl|rfl|rfl
 ·have:i=0:=by omega
  subst this;simp[tabW,hx,hz,Nat.testBit]
 ·have:i=0∨i=1:=by omega
  rcases this with rfl|rfl<;>simp[tabW,hx,hz,Nat.testBit]
 ·have:i=0∨i=1∨i=2∨i=3:=by omega
  rcases this with rfl|rfl|rfl|rfl<;>simp[tabW,hx,hz,Nat.testBit]
 ·have:i=0∨i=1∨i=2∨i=3∨i=4∨i=5∨i=6∨i=7:=by omega
  rcases this with rfl|rfl|rfl|rfl|rfl|rfl|rfl|rfl<;>simp[tabW,hx,hz,Nat.testBit]
def orOk(P i:Nat):Prop:=P|||i=P+i∧P+i<1000
theorem zqB(t:TypeId)(P i:Nat)(h:orOk P i):binOp .or t (.int .i64 (P:Int)) (.int .i64 (i:Int))=pure (.int .i64 ((P+i:Nat):Int)):=by
 obtain⟨h1,h2⟩:=h;simp only[binOp_or,Op.intBits];have e:(BitVec.ofInt IntKind.i64.bits (P:Int)|||BitVec.ofInt IntKind.i64.bits (i:Int)).toNat=P+i:=by
  show(BitVec.ofInt 64 (P:Int)|||BitVec.ofInt 64 (i:Int)).toNat=_;rw[BitVec.ofInt_natCast,BitVec.ofInt_natCast,BitVec.toNat_or,BitVec.toNat_ofNat,BitVec.toNat_ofNat,Nat.mod_eq_of_lt (by omega),Nat.mod_eq_of_lt (by omega),h1]
 rw[e,IntWalk.i64_in _ (by omega)]
theorem Ie(t:TypeId)(k:Nat)(hk:k≤8):binOp .shl t (.int .i64 1) (.int .i64 (k:Int))=pure (.int .i64 ((2^k:Nat):Int)):=by
 have:k=0∨k=1∨k=2∨k=3∨k=4∨k=5∨k=6∨k=7∨k=8:=by omega
 rcases this with rfl|rfl|rfl|rfl|rfl|rfl|rfl|rfl|rfl<;>rfl
theorem Kv(k i:Nat)(hk:k<4)(hi:i<2^k):orOk (2^k) i:=by
 have:k=0∨k=1∨k=2∨k=3:=by omega
 rcases this with rfl|rfl|rfl|rfl
 ·have:i=0:=by omega
  subst this;exact⟨rfl,by decide⟩
 ·have:i=0∨i=1:=by omega
  rcases this with rfl|rfl<;>exact⟨rfl,by decide⟩
 ·have:i=0∨i=1∨i=2∨i=3:=by omega
  rcases this with rfl|rfl|rfl|rfl<;>exact⟨rfl,by decide⟩
 ·have:i=0∨i=1∨i=2∨i=3∨i=4∨i=5∨i=6∨i=7:=by omega
  rcases this with rfl|rfl|rfl|rfl|rfl|rfl|rfl|rfl<;>exact⟨rfl,by decide⟩
end Go.Proofs.YtddkbkbpogcffaaGreatDoor
