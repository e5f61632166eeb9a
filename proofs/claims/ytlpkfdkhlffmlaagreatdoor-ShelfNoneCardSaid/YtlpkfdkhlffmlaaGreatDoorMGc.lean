/-gf:Double,Times,box,To,Back;math/bits.RotateLeft8-/
import Derived.Test.YtlpkfdkhlffmlaaGreatDoorMAesS
import Derived.Test.YtlpkfdkhlffmlaaGreatDoorMGb
import Derived.Handy
import Derived.Test.YtlpkfdkhlffmlaaGreatDoorMGa
import Derived.Test.YtlpkfdkhlffmlaaGreatDoorMGo
namespace Go.Proofs.YtlpkfdkhlffmlaaGreatDoor
open Go.Proofs.Tryz
open Lib (hid)
set_option linter.unusedSimpArgs false
set_option linter.unusedVariables false
set_option maxRecDepth 100000
set_option maxHeartbeats 1600000
open Go.RowKit
theorem vC(k:Int)(h0:0≤k)(h1:k<8):amt (BitVec.ofInt 64 k&&&7#64)=k.toNat:=by
 obtain⟨m,rfl⟩:=Int.eq_ofNat_of_zero_le h0;have hm:m<8:=by omega
 unfold amt;rw[BitVec.ofInt_natCast,Int.toNat_natCast];have: ∀i:Fin 8,(BitVec.ofNat 64 i.1&&&7#64).toNat=i.1:=by decide
 exact this ⟨m,hm⟩
theorem vD(k:Int)(h0:0≤k)(h1:k<8):amt (8#64-(BitVec.ofInt 64 k&&&7#64))=8-k.toNat:=by
 obtain⟨m,rfl⟩:=Int.eq_ofNat_of_zero_le h0;have hm:m<8:=by omega
 unfold amt;rw[BitVec.ofInt_natCast,Int.toNat_natCast];have: ∀i:Fin 8,(8#64-(BitVec.ofNat 64 i.1&&&7#64)).toNat=8-i.1:=by decide
 exact this ⟨m,hm⟩
def yu(x:BitVec 8)(k:Nat):BitVec 8:=x<<<k|||x>>>(8-k)
theorem vE(x:BitVec 8)(k:Int)(w:World)(h0:0≤k)(h1:k<8):
  Calls prog 49 #[v8 x,.int .i64 k] w fun e w' =>e= .returned (v8 (yu x k.toNat))∧w=w':=by
 go_enter func49,ntmps49;go_wp2;go_ret;refine⟨?_,rfl⟩;show Ending.returned (v8 (x<<<amt (BitVec.ofInt 64 k&&&7#64)|||x>>>amt (8#64-(BitVec.ofInt 64 k&&&7#64))))=_;rw[vC k h0 h1,vD k h0 h1];rfl
theorem gX(a:BitVec 8)(w:World):
  Calls prog 22 #[v8 a] w fun e w' =>e= .returned (v8 (dbl a))∧w=w':=by
 go_enter func22,ntmps22;go_wp2;go_ret;exact⟨rfl,rfl⟩
theorem xz(k:Nat)(a b:BitVec 8):gm (k+1) a b=a*(b&&&1#8)^^^gm k (dbl a) (b>>>1):=rfl
theorem tL(b:BitVec 8)(k:Nat)(h:b.toNat<2^(k+1)):(b>>>1).toNat<2^k:=by
 rw[BitVec.toNat_ushiftRight,Nat.shiftRight_eq_div_pow,Nat.pow_one];rw[Nat.pow_succ]at h;omega
theorem tM(a b:BitVec 8)(w:World):
  Calls prog 48 #[v8 a,v8 b] w fun e w' =>e= .returned (v8 (gmul a b))∧w=w':=by
 go_enter func48,ntmps48;go_wp2;refine aQ 0 (fun a' w' => ∃(k:Nat) (x y s:BitVec 8),(∃u:Nat→Value,a' ={tmps:=(fun u:Nat→Value=> #[v8 x,v8 y,u 2,u 3,.int .u8 0,v8 s,u 6,u 7,u 8,u 9,u 10,u 11,u 12,u 13,u 14,u 15,u 16,u 17,u 18]) u,defers:=[]})∧y.toNat<2^k∧s^^^gm k x y=gmul a b∧w=w') (fun a' _=>(intOf (a'.tmps.getD 1 undef)).toNat) rfl (fun hrest=> ?_) ?_
 ·go_wp2;go_step3;refine ‹∀(a:Act) (w_1:World),Code.wp _ _ _ a w_1→_› _ _ (hrest _ _ ?_);exact⟨8,a,b,0#8,aI _ rfl,b.isLt,by rw[BitVec.zero_xor];rfl,rfl⟩
 ·rintro a' w' ⟨k,x,y,s,⟨u,rfl⟩,hy,hs,rfl⟩;by_cases h0:y=0
  ·subst h0;rw[show gm k x 0=0#8 from sE k x,BitVec.xor_zero]at hs;subst hs;go_wp2;simp only[Exit.jump];go_ret;exact⟨rfl,rfl⟩
  ·have hb:(y==0#8)=false:=by simpa using h0
   go_wp2_with fail;refine(gX x w).mono ?_;rintro e w1 ⟨rfl,rfl⟩;cases k with
   |zero=>
    exfalso;have:y.toNat=0:=by simpa using hy
    exact h0 (BitVec.eq_of_toNat_eq this)
   |succ k=>
    rw[xz]at hs;go_wp2;go_step3;refine⟨rfl,⟨k,dbl x,y>>>1,s^^^x*(y&&&1#8),aI _ rfl,tL y k hy,?_,rfl⟩,?_⟩
    ·rw[←hs,BitVec.xor_assoc]
    ·have h1:0<y.toNat:=by
      rcases Nat.eq_zero_or_pos y.toNat with h|h
      ·exact absurd (BitVec.eq_of_toNat_eq h) h0
      ·exact h
     show((y>>>1).toNat:Int).toNat<(y.toNat:Int).toNat;rw[Int.toNat_natCast,Int.toNat_natCast,BitVec.toNat_ushiftRight,Nat.shiftRight_eq_div_pow];omega
def kS(i:BitVec 8):Nat→BitVec 8
 |0=>99#8
 |k+1=>kS i k^^^yu i k
theorem mH(i:BitVec 8)(w:World):
  Calls prog 24 #[v8 i] w fun e w' =>e= .returned (v8 (kS i 5))∧w=w':=by
 go_enter func24,ntmps24;go_wp2_with fail;go_loopw [3,5] (fun s k wr=> ∃j:Nat,j≤5∧k= .int .i64 j∧s=v8 (kS i j)∧wr=w) (fun _ k _=>5-(intOf k).toNat)
 case atStart=>exact⟨0,by omega,rfl,rfl,rfl⟩
 case round=>
  obtain⟨j,hj,rfl,rfl,rfl⟩:=hrel;by_cases hj5:j<5
  ·have j1:(j:Int)<5:=by omega
   go_wp2_with fail;refine(vE i (j:Int) _ (by omega) (by omega)).mono ?_;rintro e w1 ⟨rfl,rfl⟩;go_wp2;exact⟨⟨j+1,by omega,by go_num,rfl,trivial⟩,by simp[intOf];omega⟩
  ·obtain rfl:j=5:=by omega
   go_wp2;go_ret;exact⟨rfl,rfl⟩
def boxesL:Y8:=boxT++backT
@[go_sem high] theorem zl(t:TypeId)(p:Value)(x:BitVec 8):Instr.indexAt t p (v8 x)=Instr.indexAt t p (.int .i64 (x.toNat:Int)):=rfl
@[go_sem high] theorem Bg(x:BitVec 8):((x.toNat:Int)<256)=True:=eq_true (by have:=x.isLt;omega)
theorem vF(x:BitVec 8):nth boxesL x.toNat=box x:=by
 rw[boxesL,bO,if_pos (by rw[ec];exact x.isLt)];rfl
theorem qI(x:BitVec 8):nth boxesL (256+x.toNat)=ed x:=by
 rw[boxesL,bO,if_neg (by rw[ec];omega),ec,Nat.add_sub_cancel_left];rfl
theorem gL:boxesL.length=512:=by rw[boxesL,List.length_append,ec,nD]
theorem qJ(q:Nat)(x:BitVec 8)(w:World)(hb:Blk w q 80 (A8 boxesL)):
  Calls prog 21 #[.pointer (some ⟨q,0,none⟩),v8 x] w fun e w' =>e= .returned (v8 (box x))∧w=w':=by
 have hx:=x.isLt;have c:=hb.cell8 gL x.toNat (by omega);rw[vF]at c;obtain⟨y,hy⟩: ∃y,y=box x:=⟨_,rfl⟩;rw[←hy]at c⊢;clear hb hy;go_enter func21,ntmps21;go_wp2;go_ret;exact⟨rfl,rfl⟩
theorem vG(q:Nat)(x:BitVec 8)(w:World)(hb:Blk w q 80 (A8 boxesL)):
  Calls prog 218 #[.pointer (some ⟨q,0,none⟩),v8 x] w fun e w' =>e= .returned (v8 (ed x))∧w=w':=by
 have hx:=x.isLt;have c:=hb.cell8 gL (256+x.toNat) (by omega);rw[qI]at c;obtain⟨y,hy⟩: ∃y,y=ed x:=⟨_,rfl⟩;rw[←hy]at c⊢;clear hb hy;go_enter func218,ntmps218;go_wp2;go_ret;exact⟨rfl,rfl⟩
open Go.RowKit
def cg {n:Nat}(m:Nat)(l:List (BitVec n))(j:Nat):List (BitVec n):=(List.range m).map fun i=>if i<j then nth l i else 0
theorem ay {n:Nat}(m:Nat)(l:List (BitVec n))(j:Nat):(cg m l j).length=m:=by simp[cg]
theorem dF {n:Nat}(m:Nat)(l:List (BitVec n))(j i:Nat)(hi:i<m):nth (cg m l j) i=if i<j then nth l i else 0:=by
 simp[nth,cg,List.getD_eq_getElem?_getD,hi]
theorem dL {n:Nat}(m:Nat)(l:List (BitVec n)):cg m l 0=aa n m:=by
 apply aD
 ·simp[ay,aa]
 ·intro i hi;rw[ay]at hi;rw[dF _ _ _ _ hi,cT];simp
theorem mI {n:Nat}(m:Nat)(l:List (BitVec n))(j:Nat)(hj:j<m):(cg m l j).set j (nth l j)=cg m l (j+1):=by
 apply aD
 ·simp[ay]
 ·intro i hi;rw[List.length_set,ay]at hi;rw[dg _ _ _ _ (by rw[ay];exact hj),dF _ _ _ _ hi,dF _ _ _ _ hi];by_cases h:j=i
  ·subst h;simp
  ·by_cases h2:i<j
   ·rw[if_neg h,if_pos h2,if_pos (by omega)]
   ·rw[if_neg h,if_neg h2,if_neg (by omega)]
theorem dN {n:Nat}(m:Nat)(l:List (BitVec n))(h:l.length=m):cg m l m=l:=by
 apply aD
 ·rw[ay,h]
 ·intro i hi;rw[ay]at hi;rw[dF _ _ _ _ hi,if_pos hi]
theorem gM {n m:Nat}(f:Nat→BitVec n)(i:Nat)(h:i<m):nth ((List.range m).map f) i=f i:=by
 simp[nth,List.getD_eq_getElem?_getD,h]
theorem nM {w w1:World} {r:Option Nat}(h:w.drew.grownBy w1 r):w.grownBy w1 r:=⟨h.os,h.tape,h.output,h.size,h.block⟩
open Go.RowKit
@[go_sem] theorem AD:prog.cellsOf 80=512:=by kernel_rfl
@[go_sem ↓ high] theorem Bh(w:World):(Instr.build 80 #[]).run prog w= .ok (.agg (A8 (aa 8 512))) w:=by kernel_rfl
def putB(l:Y8)(a b:BitVec 8):Y8:=(l.set a.toNat b).set (256+b.toNat) a
theorem jO(l:Y8)(a b:BitVec 8):(putB l a b).length=l.length:=by simp[putB]
theorem sK(q:Nat)(a b:BitVec 8)(l:Y8)(w:World)(hl:l.length=512)(hb:Blk w q 80 (A8 l)):
  Calls prog 23 #[.pointer (some ⟨q,0,none⟩),v8 a,v8 b] w fun e w' =>e= .returned (.tuple #[])∧Blk w' q 80 (A8 (putB l a b))∧w.grownBy w' (some q)∧w'.heap.size=w.heap.size:=by
 have ha:=a.isLt;have hbl:=b.isLt;go_enter func23,ntmps23;refine ao [0,0,0,0,0,0,0,0,0,2,0,0,0,2] (by kernel_rfl) (by kernel_rfl) (fun ops' K2 hK2=> ?_)
 repeat (first|((with_reducible refine zq0 ?_);refine zq0a ?_)|((with_reducible refine zq1 ?_);refine zq1a ?_))
 refine eP hb.drew rfl rfl (by omega) (sizeOf5 _) (fun w1 k1 g1 s1=> ?_)
 repeat (first|((with_reducible refine zq0 ?_);refine zq0a ?_)|((with_reducible refine zq1 ?_);refine zq1a ?_))
 refine eP k1 rfl rfl (by rw[List.length_set];omega) (sizeOf5 _) (fun w2 k2 g2 s2=> ?_);refine ak (hK2 _ _ ?_);go_end0;exact⟨rfl,k2,nM (av g1 g2),s2.trans s1⟩
def pw:Nat→BitVec 8
 |0=>1#8
 |k+1=>pw k^^^dbl (pw k)
def pws:Y8:=(List.range 255).map pw
def bxs:Nat→Y8
 |0=>putB (aa 8 512) 0 (kS 0 5)
 |k+1=>putB (bxs k) (pw k) (kS (pw ((255-k) %255)) 5)
theorem kT: ∀k,(bxs k).length=512
 |0=>by rw[bxs,jO,af]
 |k+1=>by rw[bxs,jO,kT k]
theorem vH:bxs 255=boxesL:=by kernel_rfl
theorem kU(w:World):
  Calls prog 7 #[] w fun e w' => ∃q,e= .returned (.pointer (some ⟨q,0,none⟩))∧Blk w' q 80 (A8 boxesL)∧w.heap.size≤q∧Below w.heap.size w w':=by
 obtain⟨W,hW⟩: ∃W,(w.alloc (.cells (A8 (aa 8 255)) 77))=W:=⟨_,rfl⟩;obtain⟨b0,hb,hz⟩:=new1 _ _ _ _ hW;have P0:=hid b0;have B0:=hid hb;clear b0 hb hz;have hpl:pws.length=255:=by simp[pws]
 have hpn: ∀j,j<255→nth pws j=pw j:=fun j hj=>gM pw j hj;have HPL:=hid hpl;have HPN:=hid hpn;clear hpl hpn;go_enter func7,ntmps7;go_wp2_with fail;go_loopw [2,6] (fun e i wr=> ∃j:Nat,j≤255∧i= .int .i64 j∧e=v8 (pw j)∧Blk wr w.heap.size 77 (A8 (cg 255 pws j))∧Below w.heap.size w wr) (fun _ i _=>255-(intOf i).toNat)
 case atStart=>exact⟨0,by omega,rfl,rfl,by rw[dL];exact P0.out,B0.out⟩
 case round=>
  obtain⟨j,hj,rfl,rfl,hP,hB⟩:=hrel;have P1:=hid hP;have B1:=hid hB;clear hP hB P0 B0 hW;by_cases hj5:j<255
  ·have j1:(j:Int)<255:=by omega
   have j0:(0:Int)≤(j:Int):=by omega
   have c1:=P1.out.cell8 (ay 255 pws j) j hj5;have fo:=P1.out.frozen j;obtain⟨x,hx⟩: ∃x,x=pw j:=⟨_,rfl⟩;rw[←hx];have kk:=P1.out.set_ j (v8 x);rw[fd,show x=nth pws j from hx.trans (HPN.out j hj5).symm,mI 255 pws j hj5,←show x=nth pws j from hx.trans (HPN.out j hj5).symm]at kk;have P2:=hid kk;have B2:=hid (B1.out.setCell (p:=⟨w.heap.size,j,none⟩) (by simp) (v8 x));have HX:=hid hx;clear kk P1 B1 hx;go_wp2_with fail;refine(gX x _).mono ?_;rintro e w1 ⟨rfl,rfl⟩;go_wp2;exact⟨⟨j+1,by omega,by go_num,by rw[HX.out];rfl,P2.out,B2.out⟩,by simp[intOf];omega⟩
  ·obtain rfl:j=255:=by omega
   have hP:=P1.out;rw[dN 255 pws HPL.out]at hP;have P2:=hid hP;clear hP P1;go_upto_region 10 with fail;have P3:=hid (P2.out.alloc (.cells (A8 (aa 8 512)) 80));have B3:=hid (B1.out.alloc B1.out.size (.cells (A8 (aa 8 512)) 80));have Q3:=hid (Blk.new wr 80 (A8 (aa 8 512)));have hq:=P2.out.lt;clear P2 B1;generalize wr.alloc (.cells (A8 (aa 8 512)) 80)=W1 at*;generalize wr.heap.size=q at*;go_wp2_with fail;refine(mH 0#8 _).mono ?_;rintro e w1 ⟨rfl,rfl⟩;go_wp2_with fail;refine(sK q 0#8 _ _ W1 (af 8 512) Q3.out).mono ?_;rintro e w2 ⟨rfl,q2,g2,s2⟩;have P4:=hid (P3.out.grown g2 (by simp;omega));have B4:=hid (B3.out.trans (ac g2 (by omega) B3.out.size));have Q4:=hid q2;clear P3 B3 Q3 q2 g2;go_wp2_with fail;go_loopw [22] (fun i wx=> ∃j:Nat,j≤255∧i= .int .i64 j∧Blk wx w.heap.size 77 (A8 pws)∧Blk wx q 80 (A8 (bxs j))∧Below w.heap.size w wx) (fun i _=>255-(intOf i).toNat)
   case atStart=>exact⟨0,by omega,rfl,P4.out,Q4.out,B4.out⟩
   case round=>
    obtain⟨j,hj,rfl,hP,hQ,hB⟩:=hrel;have P5:=hid hP;have Q5:=hid hQ;have B5:=hid hB;clear hP hQ hB P4 Q4 B4;by_cases hj5:j<255
    ·have j1:(j:Int)<255:=by omega
     have j0:(0:Int)≤(j:Int):=by omega
     obtain⟨S,hS⟩: ∃S,S=255-j:=⟨_,rfl⟩;have s1:(255:Int)-(j:Int)=(S:Int):=by omega
     have s2':IntKind.i64.wrap (S:Int)=(S:Int):=by rw[IntKind.wrap_i64];omega
     obtain⟨R,hR⟩: ∃R,R=S %255:=⟨_,rfl⟩;have s3:(S:Int) %255=(R:Int):=by omega
     have s4:(R:Int)<255:=by omega
     have s5:(0:Int)≤(R:Int):=by omega
     have c1:=P5.out.drew.cell8 HPL.out j hj5;have c2:=P5.out.drew.cell8 HPL.out R (by omega);have HR:=hid hR;have HS:=hid hS;clear hR hS;go_upto_region 14 with fail;refine ao [0,0,0,1,0,0,0,0,1,3,2] (by kernel_rfl) (by kernel_rfl) (fun ops' K2 hK2=> ?_)
     repeat (first|((with_reducible refine zq0 ?_);refine zq0a ?_)|((with_reducible refine zq1 ?_);refine zq1a ?_))
     ((with_reducible refine lA (v:= ?_) (a':= ?_) rfl (fun _=> ?_) ?_ ?_);rotate_left;rotate_left)
     ·go_simp;refine cu ?_;exact mH (nth pws R) _
     ·(simp only[Act.put,zz1,zz2,zz3,Act.eval,zz4,zz5,zz6,zz7,zz8];exact rfl)
     (with_reducible refine aM rfl ?_)
     go_simp;refine ae ?_;refine(sK q (nth pws j) (kS (nth pws R) 5) (bxs j) wr.drew (kT j) Q5.out.drew).mono ?_;rintro e w6 ⟨rfl,q6,g6,s6⟩;refine⟨_,rfl,?_⟩
     try simp only[Act.put,zz1,zz2,zz3]
     refine ak (hK2 _ _ ?_);have ej:putB (bxs j) (nth pws j) (kS (nth pws R) 5)=bxs (j+1):=by
      have h1:=HR.out;have h2:=HS.out;rw[HPN.out j hj5,HPN.out R (by omega),bxs,h1,h2]
     rw[ej]at q6;have P6:=hid (P5.out.drew.grown g6 (by simp;omega));have B6:=hid (B5.out.drew.trans (ac g6 (by omega) B5.out.size));have Q6:=hid q6;clear q6 g6 ej c1 c2 hK2 s1 s2' s3;go_wp2;exact⟨⟨j+1,by omega,by go_num,P6.out,Q6.out,B6.out⟩,by simp[intOf];omega⟩
    ·obtain rfl:j=255:=by omega
     have hQ:=Q5.out;rw[vH]at hQ;go_wp2;go_ret;exact⟨q,rfl,hQ,by omega,B5.out⟩
open Go.RowKit
def kV(m:Y8)(row:Nat)(a:BitVec 8):Nat→BitVec 32
 |0=>0#32
 |r+1=>kV m row a r|||(gmul (nth m ((row+4-r) %4)) a).setWidth 32<<<(8*r)
theorem kW(m:Y8)(row:Nat)(a:BitVec 8)(w:World)(hm:m.length=4)(hrow:row<4):
  Calls prog 20 #[.agg (A8 m),.int .i64 row,v8 a] w fun e w' =>e= .returned (v32 (kV m row a 4))∧Below w.heap.size w w':=by
 obtain⟨W,hW⟩: ∃W,(w.alloc (.cells (A8 m) 75))=W:=⟨_,rfl⟩;obtain⟨b0,hb,hz⟩:=new1 _ _ _ _ hW;have P0:=hid b0;have B0:=hid hb;clear b0 hb hz;go_enter func20,ntmps20;go_wp2_with fail;go_loopw [7,9] (fun n i wr=> ∃r:Nat,r≤4∧i= .int .i64 r∧n=v32 (kV m row a r)∧wr=W) (fun _ i _=>4-(intOf i).toNat)
 case atStart=>exact⟨0,by omega,rfl,rfl,rfl⟩
 case round=>
  obtain⟨r,hr,rfl,rfl,rfl⟩:=hrel;by_cases hr4:r<4
  ·have j1:(r:Int)<4:=by omega
   have j0:(0:Int)≤(r:Int):=by omega
   have f1:IntKind.i64.wrap ((row:Int)-(r:Int))=(row:Int)-(r:Int):=by rw[IntKind.wrap_i64];omega
   obtain⟨D,hD⟩: ∃D,D=row+4-r:=⟨_,rfl⟩;have f2:(row:Int)-(r:Int)+4=(D:Int):=by omega
   have f3:IntKind.i64.wrap (D:Int)=(D:Int):=by rw[IntKind.wrap_i64];omega
   obtain⟨R,hR⟩: ∃R,R=D %4:=⟨_,rfl⟩;have f4:(D:Int) %4=(R:Int):=by omega
   have f5:(R:Int)<4:=by omega
   have f6:(0:Int)≤(R:Int):=by omega
   obtain⟨E,hE⟩: ∃E,E=8*r:=⟨_,rfl⟩;have f7:(8:Int)*(r:Int)=(E:Int):=by omega
   have f8:IntKind.i64.wrap (E:Int)=(E:Int):=by rw[IntKind.wrap_i64];omega
   have f9:(0:Int)≤(E:Int):=by omega
   have c1:=P0.out.cell8 hm R (by omega);have HR:=hid hR;have HD:=hid hD;have HE:=hid hE;clear hR hD hE;go_wp2_with fail;refine(tM (nth m R) a _).mono ?_;rintro e w1 ⟨rfl,rfl⟩;go_wp2;refine⟨⟨r+1,by omega,by go_num,?_,trivial⟩,by simp[intOf];omega⟩;rw[kV,←HD.out,←HR.out,←HE.out]
  ·obtain rfl:r=4:=by omega
   go_wp2;go_ret;exact⟨rfl,B0.out⟩
open Go.RowKit
def col(m:Y8)(row:Nat)(a:BitVec 8):BitVec 32:=kV m row a 4
def tabF(i:Nat):BitVec 32:=if i<1024 then col mixM (i/256) (box (BitVec.ofNat 8 (i %256)))else col unmixM ((i-1024)/256) (BitVec.ofNat 8 (i %256))
def fH(m:Nat):List (BitVec 32):=(List.range 2048).map fun i=>if i %1024<m then tabF i else 0
def tabL:List (BitVec 32):=(List.range 2048).map tabF
theorem bh(m:Nat):(fH m).length=2048:=by simp[fH]
theorem fK:tabL.length=2048:=by simp[tabL]
theorem gw(m i:Nat)(h:i<2048):nth (fH m) i=if i %1024<m then tabF i else 0:=by
 simp[nth,fH,List.getD_eq_getElem?_getD,h]
theorem kX(i:Nat)(h:i<2048):nth tabL i=tabF i:=by
 simp[nth,tabL,List.getD_eq_getElem?_getD,h]
theorem qK:fH 0=aa 32 2048:=by
 apply aD
 ·rw[bh,af]
 ·intro i hi;rw[bh]at hi;rw[gw _ _ hi,cT];simp
theorem qL:fH 1024=tabL:=by
 apply aD
 ·rw[bh,fK]
 ·intro i hi;rw[bh]at hi;rw[gw _ _ hi,kX _ hi,if_pos (Nat.mod_lt _ (by omega))]
theorem tN(m:Nat)(h:m<1024):((fH m).set m (tabF m)).set (1024+m) (tabF (1024+m))=fH (m+1):=by
 apply aD
 ·simp[bh]
 ·intro i hi;rw[List.length_set,List.length_set,bh]at hi;rw[dg _ _ _ _ (by rw[List.length_set,bh];omega),dg _ _ _ _ (by rw[bh];omega),gw _ _ hi,gw _ _ hi];by_cases h1:1024+m=i
  ·subst h1;rw[if_pos rfl,if_pos (by omega)]
  ·by_cases h2:m=i
   ·subst h2;rw[if_neg h1,if_pos rfl,if_pos (by omega)]
   ·rw[if_neg h1,if_neg h2];by_cases h3:i %1024<m
    ·rw[if_pos h3,if_pos (by omega)]
    ·rw[if_neg h3,if_neg (by omega)]
theorem oV(row a:Nat)(hr:row<4)(ha:a<256):tabF (256*row+a)=col mixM row (box (BitVec.ofNat 8 a)):=by
 unfold tabF;rw[if_pos (by omega),show(256*row+a)/256=row by omega,show(256*row+a) %256=a by omega]
theorem kY(row a:Nat)(hr:row<4)(ha:a<256):tabF (1024+(256*row+a))=col unmixM row (BitVec.ofNat 8 a):=by
 unfold tabF;rw[if_neg (by omega),show(1024+(256*row+a)-1024)/256=row by omega,show(1024+(256*row+a)) %256=a by omega]
def PA(v:Value)(l:List (BitVec 32)):Array Value:= #[v]++A32 l
theorem qN(v:Value)(l:List (BitVec 32))(i:Nat)(h:i<l.length):(PA v l)[1+i]? =some (v32 (nth l i)):=by
 unfold PA;rw[Array.getElem?_append_right (by simp),show 1+i- #[v].size=i by simp,nK l i h]
theorem zm(v:Value)(l:List (BitVec 32))(i:Nat)(x:BitVec 32):(PA v l).setIfInBounds (1+i) (v32 x)=PA v (l.set i x):=by
 apply Array.ext';simp[PA,Nat.add_comm 1 i,A32]
theorem nN(v:Value)(l:List (BitVec 32)):(PA v l)[0]? =some v:=by
 unfold PA;rw[Array.getElem?_append_left (by simp)];rfl
def sL:Value→Bool
 | .int .u32 n=>decide (n=0)
 |_=>false
theorem vI {v:Value}(h:sL v=true):v=v32 0#32:=by
 unfold sL at h
 split at h
 ·rename_i n;have:n=0:=of_decide_eq_true h;subst this;rfl
 ·cases h
theorem iE: ∀(l:List Value),l.all sL=true→l=(aa 32 l.length).map v32
 | [],_=>rfl
 |v::l,h=>by
  rw[List.all_cons,Bool.and_eq_true]at h;rw[vI h.1]
  conv=>lhs;rw[iE l h.2]
  rfl
theorem vJ:Tryz.zeroCells73.toList.tail.all sL=true:=by kernel_rfl
theorem zn(v:Value):Tryz.zeroCells73.setIfInBounds 0 v=PA v (aa 32 2048):=by
 have h1:=iE _ vJ;have h2:Tryz.zeroCells73.toList.tail.length=2048:=by rw[List.length_tail,Array.length_toList,Tryz.zeroCells73_size]
 rw[h2]at h1;have h3:Tryz.zeroCells73.toList≠ []:=by
  intro h;have:=congrArg List.length h;rw[Array.length_toList,Tryz.zeroCells73_size]at this;cases this
 apply Array.ext';rw[Array.toList_setIfInBounds];generalize Tryz.zeroCells73.toList=l at*;cases l with
 |nil=>exact absurd rfl h3
 |cons x l=>
  rw[List.tail_cons]at h1;rw[List.set_cons_zero,h1];simp[PA,A32]
def Turning(w:World):Prop:=ar w 0=A8 mixM∧ar w 1=A8 unmixM∧0<w.heap.size∧1<w.heap.size
theorem ep {w w':World} {B:Nat}(h:Below B w w')(g:Nat)(hg:g<B):ar w' g=ar w g:=by
 unfold ar;rw[h.block g hg]
theorem Turning.below {w w':World}(h:Turning w)(hb:Below w.heap.size w w'):Turning w':=
 ⟨(ep hb _ h.2.2.1).trans h.1,(ep hb _ h.2.2.2).trans h.2.1,Nat.lt_of_lt_of_le h.2.2.1 hb.size,Nat.lt_of_lt_of_le h.2.2.2 hb.size⟩
theorem Turning.from_ {w w':World} {B:Nat}(h:Turning w)(hb:Below B w w')(h0:0<B)(h1:1<B):Turning w':=
 ⟨(ep hb _ h0).trans h.1,(ep hb _ h1).trans h.2.1,Nat.lt_of_lt_of_le h.2.2.1 hb.size,Nat.lt_of_lt_of_le h.2.2.2 hb.size⟩
section
variable {P:Program} {ops:Array Oper} {K:Act→World→Prop} {ks:List Nat} {l:List Oper} {a:Act} {w:World}
theorem mJ {e:TypeId} {p x:Operand} {ty:TypeId} {pos:String} {after:Array Edge} {g i:Nat} {t:TypeId} {u:Value} {s:List (BitVec 32)} {v:BitVec 32}(hb:Blk w g t (PA u s))(hp:a.eval p= .pointer (some ⟨g,1+i,none⟩))(hv:a.eval x=v32 v)(hi:i<s.length)
  (hsz:(sizeOf e).run P w= .ok 1 w) (h: ∀w1,Blk w1 g t (PA u (s.set i v))→w.grownBy w1 (some g)→w1.heap.size=w.heap.size→wpZ P ops K ks l a w1):wpZ P ops K (2::ks) (⟨none,.store e p x,ty,pos,after,none⟩::l) a w:=by
 unfold wpZ opT;simp only[Region.wanted,if_true];have hr:(execOp a.eval ⟨none,.store e p x,ty,pos,after,none⟩).run P w= .ok .skip (w.setCell ⟨g,1+i,none⟩ (v32 v)):=by
  rw[bD,hp,hv,jM w e _ v hsz];simp[stored,hb.cell (1+i),qN u s i hi,hb.frozen (1+i)]
 unfold Oper.wp;rw[hr];have hb':=hb.set_ (1+i) (v32 v);rw[zm]at hb';exact h _ hb' (aC w g (1+i) _) (by simp)
end
theorem sM(q:Nat)(w:World)(hT:Turning w)(hq:Blk w q 80 (A8 boxesL)):
  Calls prog 6 #[.pointer (some ⟨q,0,none⟩)] w fun e w' => ∃p,e= .returned (.pointer (some ⟨p,0,none⟩))∧Blk w' p 73 (PA (.pointer (some ⟨q,0,none⟩)) tabL)∧w.heap.size≤p∧Below w.heap.size w w':=by
 have T0:=hid hT;have Q0:=hid hq;clear hT hq;go_enter func6,ntmps6;go_upto_region 4 with fail;rw[zn];have p0:0<w.heap.size:=T0.out.2.2.1;have p1:1<w.heap.size:=T0.out.2.2.2;have q0:=Q0.out.lt;have P1:=hid (Blk.new w 73 (PA (.pointer (some ⟨q,0,none⟩)) (aa 32 2048)));have B1:=hid ((Below.refl w.heap.size w).alloc (Nat.le_refl _) (.cells (PA (.pointer (some ⟨q,0,none⟩)) (aa 32 2048)) 73));generalize w.alloc (.cells (PA (.pointer (some ⟨q,0,none⟩)) (aa 32 2048)) 73)=W at*;go_wp2_with fail;go_loopw [11] (fun i wr=> ∃j:Nat,j≤4∧i= .int .i64 j∧Blk wr w.heap.size 73 (PA (.pointer (some ⟨q,0,none⟩)) (fH (256*j)))∧Below w.heap.size w wr) (fun i _=>4-(intOf i).toNat)
 case atStart=>exact⟨0,by omega,rfl,by rw[Nat.mul_zero,qK];exact P1.out,B1.out⟩
 case round=>
  obtain⟨row,hrow,rfl,hP,hB⟩:=hrel;have P2:=hid hP;have B2:=hid hB;clear hP hB P1 B1;by_cases hr4:row<4
  ·have j1:(row:Int)<4:=by omega
   have j0:(0:Int)≤(row:Int):=by omega
   go_wp2_with fail;go_loopw [14] (fun i wx=> ∃j:Nat,j≤256∧i= .int .i64 j∧Blk wx w.heap.size 73 (PA (.pointer (some ⟨q,0,none⟩)) (fH (256*row+j)))∧Below w.heap.size w wx) (fun i _=>256-(intOf i).toNat)
   case atStart=>exact⟨0,by omega,rfl,P2.out,B2.out⟩
   case round=>
    obtain⟨j,hj,rfl,hP,hB⟩:=hrel;have P3:=hid hP;have B3:=hid hB;clear hP hB P2 B2;by_cases hj4:j<256
    ·have k1:(j:Int)<256:=by omega
     have k0:(0:Int)≤(j:Int):=by omega
     have T3:=T0.out.from_ B3.out p0 p1;have c1:ar wr.drew 0=A8 mixM:=T3.1;have l1:mixM.length=4:=rfl;go_upto_region 10 with fail;refine ao [0,0,0,1,0,0,0,0,1,2,0,0,0,0,2] (by kernel_rfl) (by kernel_rfl) (fun ops' K2 hK2=> ?_)
     repeat (first|((with_reducible refine zq0 ?_);refine zq0a ?_)|((with_reducible refine zq1 ?_);refine zq1a ?_))
     ((with_reducible refine nY (v:= ?_) (a':= ?_) rfl ?_ ?_ ?_);rotate_left;rotate_left)
     ·go_simp;refine cu ?_;exact qJ q (BitVec.ofNat 8 j) _ (Q0.out.below B3.out.drew q0)
     ·(simp only[Act.put,zz1,zz2,zz3,Act.eval,zz4,zz5,zz6,zz7,zz8];exact rfl)
     (with_reducible refine aM rfl ?_)
     go_simp;refine ae ?_;refine(kW mixM row (box (BitVec.ofNat 8 j)) wr.drew rfl hr4).mono ?_;rintro e w4 ⟨rfl,hb4⟩;refine⟨_,rfl,?_⟩
     try simp only[Act.put,zz1,zz2,zz3]
     repeat (first|((with_reducible refine zq0 ?_);refine zq0a ?_)|((with_reducible refine zq1 ?_);refine zq1a ?_))
     refine mJ (P3.out.drew.belowAll hb4) (i:=256*row+j) (show Value.pointer (some ⟨w.heap.size,1+row*256+j,none⟩)=Value.pointer (some ⟨w.heap.size,1+(256*row+j),none⟩) by rw[show 1+row*256+j=1+(256*row+j) by omega]) rfl (by rw[bh];omega) (sizeOf69 _) (fun w5 k5 g5 s5=> ?_);refine ak (hK2 _ _ ?_);have P5:=hid k5;have d4:=B3.out.drew.trans (hb4.mono B3.out.size);have B5:=hid (d4.trans (ac g5 (Nat.le_refl _) d4.size));have T5:=T0.out.from_ B5.out p0 p1;have c2:ar w5.drew 1=A8 unmixM:=T5.2.1;have l2:unmixM.length=4:=rfl;clear c1 k5 g5 s5 hb4 d4 hK2 P3 B3 T3;go_upto_region 11 with fail;refine ao [0,0,0,1,0,0,0,2,0,0,0,0,2] (by kernel_rfl) (by kernel_rfl) (fun ops' K2 hK2=> ?_)
     repeat (first|((with_reducible refine zq0 ?_);refine zq0a ?_)|((with_reducible refine zq1 ?_);refine zq1a ?_))
     (with_reducible refine aM rfl ?_)
     go_simp;refine ae ?_;refine(kW unmixM row (BitVec.ofNat 8 j) w5.drew rfl hr4).mono ?_;rintro e w6 ⟨rfl,hb6⟩;refine⟨_,rfl,?_⟩
     try simp only[Act.put,zz1,zz2,zz3]
     repeat (first|((with_reducible refine zq0 ?_);refine zq0a ?_)|((with_reducible refine zq1 ?_);refine zq1a ?_))
     refine mJ (P5.out.drew.belowAll hb6) (i:=1024+(256*row+j)) (show Value.pointer (some ⟨w.heap.size,1025+row*256+j,none⟩)=Value.pointer (some ⟨w.heap.size,1+(1024+(256*row+j)),none⟩) by rw[show 1025+row*256+j=1+(1024+(256*row+j)) by omega]) rfl (by rw[List.length_set,bh];omega) (sizeOf69 _) (fun w7 k7 g7 s7=> ?_);refine ak (hK2 _ _ ?_);have e7:((fH (256*row+j)).set (256*row+j) (kV mixM row (box (BitVec.ofNat 8 j)) 4)).set (1024+(256*row+j)) (kV unmixM row (BitVec.ofNat 8 j) 4)=fH (256*row+(j+1)):=by
      rw[show 256*row+(j+1)=256*row+j+1 by omega,←tN (256*row+j) (by omega),oV row j hr4 hj4,kY row j hr4 hj4];rfl
     rw[e7]at k7;have P7:=hid k7;have d6:=B5.out.drew.trans (hb6.mono B5.out.size);have B7:=hid (d6.trans (ac g7 (Nat.le_refl _) d6.size));clear c2 k7 g7 s7 hb6 d6 hK2 P5 B5 T5 e7;go_wp2;exact⟨⟨j+1,by omega,by go_num,P7.out,B7.out⟩,by simp[intOf];omega⟩
    ·obtain rfl:j=256:=by omega
     have hP:=P3.out;rw[show 256*row+256=256*(row+1) by omega]at hP;have P4:=hid hP;clear hP P3;go_wp2;exact⟨⟨row+1,by omega,by go_num,P4.out,B3.out⟩,by simp[intOf];omega⟩
  ·obtain rfl:row=4:=by omega
   have hP:=P2.out;rw[qL]at hP;go_wp2;go_ret;exact⟨_,rfl,hP,Nat.le_refl _,B2.out⟩
open Go.RowKit
def TabAt(w:World)(p:Nat):Prop:= ∃q,Blk w p 73 (PA (.pointer (some ⟨q,0,none⟩)) tabL)∧Blk w q 80 (A8 boxesL)
theorem TabAt.below {w w':World} {p:Nat}(h:TabAt w p)(hb:Below w.heap.size w w'):TabAt w' p:=by
 obtain⟨q,h1,h2⟩:=h;exact⟨q,h1.belowAll hb,h2.belowAll hb⟩
theorem TabAt.drew {w:World} {p:Nat}(h:TabAt w p):TabAt w.drew p:=h
theorem vK(p:Nat)(x:BitVec 8)(w:World)(h:TabAt w p):
  Calls prog 135 #[.pointer (some ⟨p,0,none⟩),v8 x] w fun e w' =>e= .returned (v8 (box x))∧w=w':=by
 obtain⟨q,h1,h2⟩:=h;have c:=h1.cell 0;rw[nN]at c;have Q:=hid h2;clear h1 h2;go_enter func135,ntmps135;go_wp2_with fail;refine(qJ q x w Q.out).mono ?_;rintro e w1 ⟨rfl,rfl⟩;go_wp2;go_ret;exact⟨rfl,rfl⟩
theorem oW(r c:Nat)(w:World)(hr:r<4)(hc:c<4):
  Calls prog 137 #[.int .i64 r,.int .i64 c] w fun e w' =>e= .returned (.int .i64 ((r+4*((c+r) %4):Nat):Int))∧w=w':=by
 obtain⟨S,hS⟩: ∃S,S=c+r:=⟨_,rfl⟩;have f1:(c:Int)+(r:Int)=(S:Int):=by omega
 have f2:IntKind.i64.wrap (S:Int)=(S:Int):=by rw[IntKind.wrap_i64];omega
 obtain⟨R,hR⟩: ∃R,R=S %4:=⟨_,rfl⟩;have f3:(S:Int) %4=(R:Int):=by omega
 obtain⟨E,hE⟩: ∃E,E=4*R:=⟨_,rfl⟩;have f4:(4:Int)*(R:Int)=(E:Int):=by omega
 have f5:IntKind.i64.wrap (E:Int)=(E:Int):=by rw[IntKind.wrap_i64];omega
 obtain⟨F,hF⟩: ∃F,F=r+E:=⟨_,rfl⟩;have f6:(r:Int)+(E:Int)=(F:Int):=by omega
 have f7:IntKind.i64.wrap (F:Int)=(F:Int):=by rw[IntKind.wrap_i64];omega
 have hfin:r+4*((c+r) %4)=F:=by omega
 rw[hfin];clear hS hR hE hF hfin;go_enter func137,ntmps137;go_wp2;go_ret;exact⟨rfl,rfl⟩
def xrTo(a b:Y8)(j:Nat):Y8:=r16 fun i=>if i<j then nth a i^^^nth b i else nth a i
theorem tP(a b:Y8)(h:a.length=16):xrTo a b 0=a:=by
 conv=>rhs;rw[←iu a h]
 exact fc fun i _=>by simp
theorem tQ(a b:Y8):xrTo a b 16=bG a b:=fc fun i hi=>by rw[if_pos hi]
theorem vL(a b:Y8)(j:Nat)(hj:j<16):nth (xrTo a b j) j=nth a j:=by
 rw[xrTo,br _ _ hj,if_neg (by omega)]
@[simp] theorem er(a b:Y8)(j:Nat):(xrTo a b j).length=16:=by simp[xrTo]
theorem vM(a b:Y8)(j:Nat)(hj:j<16):(xrTo a b j).set j (nth a j^^^nth b j)=xrTo a b (j+1):=by
 apply aD
 ·simp
 ·intro i hi;rw[List.length_set,er]at hi;rw[dg _ _ _ _ (by rw[er];exact hj),xrTo,br _ _ hi,xrTo,br _ _ hi];by_cases h:j=i
  ·subst h;simp
  ·by_cases h2:i<j
   ·rw[if_neg h,if_pos h2,if_pos (by omega)]
   ·rw[if_neg h,if_neg h2,if_neg (by omega)]
theorem jp(a b:Y8)(w:World)(ha:a.length=16)(hb16:b.length=16):
  Calls prog 138 #[.agg (A8 a),.agg (A8 b)] w fun e w' =>e= .returned (.agg (A8 (bG a b)))∧Below w.heap.size w w':=by
 obtain⟨W,hW⟩: ∃W,((w.alloc (.cells (A8 a) 154)).alloc (.cells (A8 b) 154)).alloc (.cells (A8 (aa 8 16)) 154)=W:=⟨_,rfl⟩;obtain⟨b0,b1,b2,hb,hz⟩:=new3 _ _ _ _ _ _ _ _ hW;have P0:=hid b0;have Q0:=hid b1;have Z0:=hid b2;have B0:=hid hb;clear b0 b1 b2 hb hz;go_enter func138,ntmps138;go_wp2_with fail;go_loopw [6] (fun i wr=> ∃j:Nat,j≤16∧i= .int .i64 j∧Blk wr w.heap.size 154 (A8 (xrTo a b j))∧Blk wr (w.heap.size+1) 154 (A8 b)∧Blk wr (w.heap.size+2) 154 (A8 (aa 8 16))∧Below w.heap.size w wr) (fun i _=>16-(intOf i).toNat)
 case atStart=>exact⟨0,by omega,rfl,by rw[tP a b ha];exact P0.out,Q0.out,Z0.out,B0.out⟩
 case round=>
  obtain⟨j,hj,rfl,hP,hQ,hZ,hB⟩:=hrel;have P1:=hid hP;have Q1:=hid hQ;have Z1:=hid hZ;have B1:=hid hB;clear hP hQ hZ hB P0 Q0 Z0 B0 hW;by_cases hj16:j<16
  ·have j1:(j:Int)<16:=by omega
   have j0:(0:Int)≤(j:Int):=by omega
   have c1:=P1.out.drew.cell8 (er a b j) j hj16;have c2:=Q1.out.drew.cell8 hb16 j hj16;rw[vL a b j hj16]at c1;go_upto_region 4 with fail;refine ao [0,0,1,0,0,1,0,0,2] (by kernel_rfl) (by kernel_rfl) (fun ops' K2 hK2=> ?_)
   repeat (first|((with_reducible refine zq0 ?_);refine zq0a ?_)|((with_reducible refine zq1 ?_);refine zq1a ?_))
   refine eP P1.out.drew rfl rfl (by rw[er];exact hj16) (sizeOf5 _) (fun w1 k1 g1 s1=> ?_);refine ak (hK2 _ _ ?_);rw[vM a b j hj16]at k1;have P2:=hid k1;have Q2:=hid (Q1.out.drew.grown g1 (by simp));have Z2:=hid (Z1.out.drew.grown g1 (by simp));have B2:=hid (B1.out.drew.trans (ac g1 (by omega) B1.out.size));clear k1 g1 s1 c1 c2 hK2 P1 Q1 Z1 B1;go_wp2;exact⟨⟨j+1,by omega,by go_num,P2.out,Q2.out,Z2.out,B2.out⟩,by simp[intOf];omega⟩
  ·obtain rfl:j=16:=by omega
   have zz:=P1.out;rw[tQ]at zz;have r1:=zz.row;have r2:=Z1.out.row;have r3:=Z1.out.whole;have hl:=aZ a b;clear zz;go_wp2;refine ag (A8 (bG a b)) rfl rfl rfl (isAgg154 _) (sizeOf154 _) (by rw[au];exact hl) (ah _ r3) ⟨rfl,below_setRow B1.out (by omega) _⟩
open Go.RowKit
theorem jq(l:Y8)(p:Nat):le32 (word l p)=[nth l p,nth l (p+1),nth l (p+2),nth l (p+3)]:=by
 unfold le32 word;simp only[gath];generalize nth l (p+0)=a;generalize nth l (p+1)=b;generalize nth l (p+2)=c;generalize nth l (p+3)=d;have ge: ∀(x:BitVec 8) (i:Nat),8≤i→x.getLsbD i=false:=fun x i h=>BitVec.getLsbD_of_ge _ _ h;have e0:BitVec.setWidth 8 (BitVec.setWidth 32 (0#64|||BitVec.setWidth 64 a<<<(8*0)|||BitVec.setWidth 64 b<<<(8*1)|||BitVec.setWidth 64 c<<<(8*2)|||BitVec.setWidth 64 d<<<(8*3)))=a:=by
  apply BitVec.eq_of_getLsbD_eq;intro i hi;simp only[BitVec.getLsbD_setWidth,BitVec.getLsbD_or,BitVec.getLsbD_shiftLeft,BitVec.getLsbD_ushiftRight,BitVec.getLsbD_zero,hi];simp[show i<32 by omega,show i<64 by omega,show i<8 by omega,show i<16 by omega,show i<24 by omega]
 have e1:BitVec.setWidth 8 (BitVec.setWidth 32 (0#64|||BitVec.setWidth 64 a<<<(8*0)|||BitVec.setWidth 64 b<<<(8*1)|||BitVec.setWidth 64 c<<<(8*2)|||BitVec.setWidth 64 d<<<(8*3))>>>8)=b:=by
  apply BitVec.eq_of_getLsbD_eq;intro i hi;simp only[BitVec.getLsbD_setWidth,BitVec.getLsbD_or,BitVec.getLsbD_shiftLeft,BitVec.getLsbD_ushiftRight,BitVec.getLsbD_zero,hi];simp[show 8+i<32 by omega,show 8+i<64 by omega,show¬(8+i<8) by omega,show 8+i<16 by omega,show 8+i<24 by omega,show 8+i-8<64 by omega,show 8+i-8=i by omega,ge a (8+i) (by omega)];intro _;omega
 have e2:BitVec.setWidth 8 (BitVec.setWidth 32 (0#64|||BitVec.setWidth 64 a<<<(8*0)|||BitVec.setWidth 64 b<<<(8*1)|||BitVec.setWidth 64 c<<<(8*2)|||BitVec.setWidth 64 d<<<(8*3))>>>16)=c:=by
  apply BitVec.eq_of_getLsbD_eq;intro i hi;simp only[BitVec.getLsbD_setWidth,BitVec.getLsbD_or,BitVec.getLsbD_shiftLeft,BitVec.getLsbD_ushiftRight,BitVec.getLsbD_zero,hi];simp[show 16+i<32 by omega,show 16+i<64 by omega,show¬(16+i<8) by omega,show¬(16+i<16) by omega,show 16+i<24 by omega,show 16+i-8<64 by omega,show 16+i-16<64 by omega,show 16+i-16=i by omega,ge a (16+i) (by omega),ge b (16+i-8) (by omega)];intro _;omega
 have e3:BitVec.setWidth 8 (BitVec.setWidth 32 (0#64|||BitVec.setWidth 64 a<<<(8*0)|||BitVec.setWidth 64 b<<<(8*1)|||BitVec.setWidth 64 c<<<(8*2)|||BitVec.setWidth 64 d<<<(8*3))>>>24)=d:=by
  apply BitVec.eq_of_getLsbD_eq;intro i hi;simp only[BitVec.getLsbD_setWidth,BitVec.getLsbD_or,BitVec.getLsbD_shiftLeft,BitVec.getLsbD_ushiftRight,BitVec.getLsbD_zero,hi];simp[show 24+i<32 by omega,show 24+i<64 by omega,show¬(24+i<8) by omega,show¬(24+i<16) by omega,show¬(24+i<24) by omega,show 24+i-8<64 by omega,show 24+i-16<64 by omega,show 24+i-24<64 by omega,show 24+i-24=i by omega,ge a (24+i) (by omega),ge b (24+i-8) (by omega),ge c (24+i-16) (by omega)];intro _;omega
 rw[e0,e1,e2,e3]
theorem Bi(l:Y8)(p:Nat)(h:p+4≤l.length):(l.drop p).take 4=[nth l p,nth l (p+1),nth l (p+2),nth l (p+3)]:=by
 apply aD
 ·simp;omega
 ·intro i hi;have hi4:i<4:=by simp at hi;omega
  rw[aJ _ _ _ hi4,bv];have:i=0∨i=1∨i=2∨i=3:=by omega
  rcases this with rfl|rfl|rfl|rfl<;>rfl
open Go.RowKit
def dP(x:BitVec 32)(k:Nat):BitVec 8:=(x>>>(8*k)).setWidth 8
theorem kZ(x:BitVec 32):le32 x=[dP x 0,dP x 1,dP x 2,dP x 3]:=rfl
theorem tS(x y:BitVec 32)(k:Nat):dP (x^^^y) k=dP x k^^^dP y k:=by
 unfold dP;rw[BitVec.ushiftRight_xor_distrib,BitVec.setWidth_xor]
theorem qO(k:Nat):dP 0#32 k=0#8:=by
 unfold dP;simp
theorem tT(a b c d:BitVec 8):le32 (((((0#32|||a.setWidth 32<<<(8*0))|||b.setWidth 32<<<(8*1))|||c.setWidth 32<<<(8*2))|||d.setWidth 32<<<(8*3)))=[a,b,c,d]:=by
 have h:=jq [a,b,c,d] 0;have e:word [a,b,c,d] 0=((((0#32|||a.setWidth 32<<<(8*0))|||b.setWidth 32<<<(8*1))|||c.setWidth 32<<<(8*2))|||d.setWidth 32<<<(8*3)):=by
  unfold word;simp only[gath];rw[show nth [a,b,c,d] (0+0)=a from rfl,show nth [a,b,c,d] (0+1)=b from rfl,show nth [a,b,c,d] (0+2)=c from rfl,show nth [a,b,c,d] (0+3)=d from rfl];apply BitVec.eq_of_getLsbD_eq;intro i hi;simp only[BitVec.getLsbD_setWidth,BitVec.getLsbD_or,BitVec.getLsbD_shiftLeft,BitVec.getLsbD_zero,hi,decide_true,Bool.true_and,show i<64 by omega,Bool.false_or];simp only[show i-8*0<64 by omega,show i-8*1<64 by omega,show i-8*2<64 by omega,show i-8*3<64 by omega,show i-8*0<32 by omega,show i-8*1<32 by omega,show i-8*2<32 by omega,show i-8*3<32 by omega]
 rw[←e,h];rfl
theorem vN(m:Y8)(row:Nat)(a:BitVec 8)(k:Nat)(hk:k<4):dP (col m row a) k=gmul (nth m ((row+4-k) %4)) a:=by
 have h:=tT (gmul (nth m ((row+4-0) %4)) a) (gmul (nth m ((row+4-1) %4)) a) (gmul (nth m ((row+4-2) %4)) a) (gmul (nth m ((row+4-3) %4)) a);rw[kZ]at h;have hc:col m row a=((((0#32|||(gmul (nth m ((row+4-0) %4)) a).setWidth 32<<<(8*0))|||(gmul (nth m ((row+4-1) %4)) a).setWidth 32<<<(8*1))|||(gmul (nth m ((row+4-2) %4)) a).setWidth 32<<<(8*2))|||(gmul (nth m ((row+4-3) %4)) a).setWidth 32<<<(8*3)):=rfl;rw[←hc]at h;simp only[List.cons.injEq,and_true]at h;obtain⟨h0,h1,h2,h3⟩:=h;have:k=0∨k=1∨k=2∨k=3:=by omega
 rcases this with rfl|rfl|rfl|rfl
 ·exact h0
 ·exact h1
 ·exact h2
 ·exact h3
def dQ(m:Y8)(n:BitVec 32)(f:Nat→BitVec 8):Nat→BitVec 32
 |0=>n
 |r+1=>dQ m n f r^^^col m r (f r)
theorem lc(m:Y8)(n:BitVec 32)(f:Nat→BitVec 8)(k:Nat)(hk:k<4):dP (dQ m n f 4) k=dP n k^^^(gmul (nth m ((0+4-k) %4)) (f 0)^^^gmul (nth m ((1+4-k) %4)) (f 1)^^^gmul (nth m ((2+4-k) %4)) (f 2)^^^gmul (nth m ((3+4-k) %4)) (f 3)):=by
 simp only[dQ,tS,vN _ _ _ _ hk]
 ac_rfl
theorem ld(x:BitVec 32)(k:Nat)(hk:k<4):nth (le32 x) k=dP x k:=by
 rw[kZ];have:k=0∨k=1∨k=2∨k=3:=by omega
 rcases this with rfl|rfl|rfl|rfl<;>rfl
theorem tU(l:Y8)(p k:Nat)(hk:k<4):dP (word l p) k=nth l (p+k):=by
 rw[←ld _ _ hk,jq];have:k=0∨k=1∨k=2∨k=3:=by omega
 rcases this with rfl|rfl|rfl|rfl<;>rfl
theorem oX(b key:Y8)(c:Nat)(hc:c<4):le32 (dQ mixM (word key (4*c)) (fun r=>box (nth b (r+4*((c+r) %4)))) 4)=((dJ b key).drop (4*c)).take 4:=by
 apply aD
 ·simp;omega
 ·intro k hk;rw[eg]at hk;rw[ld _ _ hk,lc _ _ _ _ hk,tU _ _ _ hk,aJ _ _ _ hk,bv,dJ,bG,br _ _ (by omega),ee,br _ _ (by omega),BitVec.xor_comm];have hm: ∀s,s<4→mixB mixM (cz (cP box b)) (4*c+k) s=gmul (nth mixM ((s+4-k) %4)) (box (nth b (s+4*((c+s) %4)))):=by
   intro s hs;unfold mixB;rw[cz,br _ _ (by omega),cP,br _ _ (by unfold shp;omega)];rw[show(4*c+k) %4=k by omega,show shp ((4*c+k)/4*4+s)=s+4*((c+s) %4) by unfold shp;omega]
  rw[hm 0 (by omega),hm 1 (by omega),hm 2 (by omega),hm 3 (by omega)]
theorem oY(b:Y8)(c:Nat)(hc:c<4):le32 (dQ unmixM 0#32 (fun r=>nth b (r+4*c)) 4)=((ee unmixM b).drop (4*c)).take 4:=by
 apply aD
 ·simp;omega
 ·intro k hk;rw[eg]at hk;rw[ld _ _ hk,lc _ _ _ _ hk,qO,BitVec.zero_xor,aJ _ _ _ hk,bv,ee,br _ _ (by omega)];have hm: ∀s,s<4→mixB unmixM b (4*c+k) s=gmul (nth unmixM ((s+4-k) %4)) (nth b (s+4*c)):=by
   intro s hs;unfold mixB;rw[show(4*c+k) %4=k by omega,show(4*c+k)/4*4+s=s+4*c by omega]
  rw[hm 0 (by omega),hm 1 (by omega),hm 2 (by omega),hm 3 (by omega)]
theorem jr(L:Y8)(hL:L.length=16)(c:Nat)(hc:c<4):splc (cg 16 L (4*c)) (4*c) ((L.drop (4*c)).take 4)=cg 16 L (4*(c+1)):=by
 have hl:((L.drop (4*c)).take 4).length=4:=by simp[hL];omega
 apply aD
 ·rw[aL _ _ _ (by rw[hl,ay];omega),ay,ay]
 ·intro i hi;rw[aL _ _ _ (by rw[hl,ay];omega),ay]at hi;rw[eJ _ _ _ (by rw[hl,ay];omega),dF _ _ _ _ hi,dF _ _ _ _ hi,hl];by_cases h1:i<4*c
  ·rw[if_neg (by omega),if_pos h1,if_pos (by omega)]
  ·by_cases h2:i<4*c+4
   ·rw[if_pos (by omega),if_pos (by omega),aJ _ _ _ (by omega),bv];congr 1;omega
   ·rw[if_neg (by omega),if_neg h1,if_neg (by omega)]
end Go.Proofs.YtlpkfdkhlffmlaaGreatDoor
