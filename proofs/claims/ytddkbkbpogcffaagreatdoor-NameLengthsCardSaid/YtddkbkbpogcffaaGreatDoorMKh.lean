/-sixty:what is encoded is decoded;plain-/
import Derived.Test.YtddkbkbpogcffaaGreatDoorMSix3
import Derived.Test.YtddkbkbpogcffaaGreatDoorMNa
import Derived.Test.YtddkbkbpogcffaaGreatDoorMGb
import Derived.Test.YtddkbkbpogcffaaGreatDoorMKp
import Derived.Test.YtddkbkbpogcffaaGreatDoorMKg
import Derived.Test.YtddkbkbpogcffaaGreatDoorMKe
import Derived.Test.YtddkbkbpogcffaaGreatDoorMKf
namespace Go.Proofs.YtddkbkbpogcffaaGreatDoor
open Go.Proofs.Tryz
open Lib (hid)
set_option linter.unusedSimpArgs false
set_option linter.unusedVariables false
set_option maxRecDepth 100000
set_option maxHeartbeats 1600000
open Go.RowKit
theorem Dv: ∀i:Fin 64,num (nth BI i.val)=some (BitVec.ofNat 8 i.val):=by decide+kernel
theorem Ip(x:BitVec 32)(h:x.toNat<64):num (sgn x)=some (x.setWidth 8):=by
 have:=Dv ⟨x.toNat,h⟩;unfold sgn;rw[this];congr 1
theorem NX: ∀x:Fin 256,(match num (BitVec.ofNat 8 x.val)with|none=>true|some p=>decide (p.toNat<64)&&(nth BI p.toNat==BitVec.ofNat 8 x.val))=true:=by decide+kernel
theorem Nw {x p:BitVec 8}(h:num x=some p):p.toNat<64∧sgn (p.setWidth 32)=x:=by
 have:=NX ⟨x.toNat,x.isLt⟩;have hx:BitVec.ofNat 8 x.toNat=x:=by simp
 simp only[hx,h,Bool.and_eq_true,decide_eq_true_eq,beq_iff_eq]at this;refine⟨this.1,?_⟩;unfold sgn;rw[BitVec.toNat_setWidth,Nat.mod_eq_of_lt (by omega)];exact this.2
def six(n:BitVec 32)(k:Nat):BitVec 8:=((n>>>(18-6*k))&&&63#32).setWidth 8
theorem wt(n:BitVec 32)(k:Nat):num (sig n k)=some (six n k):=Ip _ (yz _)
section
variable (a b c:BitVec 8)
theorem iO(n:BitVec 32)(k i:Nat):(six n k).getLsbD i=(decide (i<6)&&n.getLsbD (18-6*k+i)):=by
 unfold six;rw[BitVec.getLsbD_setWidth,BitVec.getLsbD_and,BitVec.getLsbD_ushiftRight];have h63: ∀i,i<8→(63#32).getLsbD i=decide (i<6):=by decide
 by_cases h:i<8
 ·rw[h63 i h];simp[h,Bool.and_comm]
 ·have: ¬i<6:=by omega
  simp[h,this]
theorem Ap(i:Nat)(hi:i<24):(wd a b c).getLsbD i=if i<8 then c.getLsbD i else if i<16 then b.getLsbD (i-8)else a.getLsbD (i-16):=by
 unfold wd;simp only[BitVec.getLsbD_or,BitVec.getLsbD_shiftLeft,BitVec.getLsbD_setWidth];have e1:decide (i<32)=true:=by simp;omega
 have e2:decide (i-16<32)=true:=by simp;omega
 have e3:decide (i-8<32)=true:=by simp;omega
 rw[e1,e2,e3];by_cases h1:i<8
 ·have:i<16:=by omega
  simp[h1,this]
 ·by_cases h2:i<16
  ·have hc:c.getLsbD i=false:=BitVec.getLsbD_of_ge _ _ (by omega);simp[h1,h2,hc]
  ·have hc:c.getLsbD i=false:=BitVec.getLsbD_of_ge _ _ (by omega);have hb:b.getLsbD (i-8)=false:=BitVec.getLsbD_of_ge _ _ (by omega);simp[h1,h2,hc,hb]
theorem wd_a(i:Nat)(hi:i<8):(wd a b c).getLsbD (16+i)=a.getLsbD i:=by
 rw[Ap _ _ _ _ (by omega),if_neg (by omega),if_neg (by omega),Nat.add_sub_cancel_left]
theorem wd_b(i:Nat)(hi:i<8):(wd a b c).getLsbD (8+i)=b.getLsbD i:=by
 rw[Ap _ _ _ _ (by omega),if_neg (by omega),if_pos (by omega),Nat.add_sub_cancel_left]
theorem wd_c(i:Nat)(hi:i<8):(wd a b c).getLsbD i=c.getLsbD i:=by
 rw[Ap _ _ _ _ (by omega),if_pos (by omega)]
theorem FP:six (wd a b c) 0<<<2|||six (wd a b c) 1>>>4=a:=by
 apply BitVec.eq_of_getLsbD_eq;intro i hi;rw[BitVec.getLsbD_or,BitVec.getLsbD_shiftLeft,BitVec.getLsbD_ushiftRight,iO,iO];by_cases h:i<2
 ·have h1:4+i<6:=by omega
  rw[show 18-6*1+(4+i)=16+i by omega,wd_a _ _ _ _ hi];simp[h,h1]
 ·have h1: ¬4+i<6:=by omega
  have h2:i-2<6:=by omega
  rw[show 18-6*0+(i-2)=16+i by omega,wd_a _ _ _ _ hi];simp[h,h1,h2,hi]
theorem Jk:six (wd a b c) 1<<<4|||six (wd a b c) 2>>>2=b:=by
 apply BitVec.eq_of_getLsbD_eq;intro i hi;rw[BitVec.getLsbD_or,BitVec.getLsbD_shiftLeft,BitVec.getLsbD_ushiftRight,iO,iO];by_cases h:i<4
 ·have h1:2+i<6:=by omega
  rw[show 18-6*2+(2+i)=8+i by omega,wd_b _ _ _ _ hi];simp[h,h1]
 ·have h1: ¬2+i<6:=by omega
  have h2:i-4<6:=by omega
  rw[show 18-6*1+(i-4)=8+i by omega,wd_b _ _ _ _ hi];simp[h,h1,h2,hi]
theorem MP:six (wd a b c) 2<<<6|||six (wd a b c) 3=c:=by
 apply BitVec.eq_of_getLsbD_eq;intro i hi;rw[BitVec.getLsbD_or,BitVec.getLsbD_shiftLeft,iO,iO];by_cases h:i<6
 ·rw[show 18-6*3+i=i by omega,wd_c _ _ _ _ hi];simp[h]
 ·have h2:i-6<6:=by omega
  rw[show 18-6*2+(i-6)=i by omega,wd_c _ _ _ _ hi];simp[h,h2,hi]
theorem Ky:six (wd a b 0) 2<<<6=0#8:=by
 apply BitVec.eq_of_getLsbD_eq;intro i hi;rw[BitVec.getLsbD_shiftLeft,iO];by_cases h:i<6
 ·simp[h]
 ·rw[show 18-6*2+(i-6)=i by omega,wd_c _ _ _ _ hi];simp
theorem Kz:six (wd a 0 0) 1<<<4=0#8:=by
 apply BitVec.eq_of_getLsbD_eq;intro i hi;rw[BitVec.getLsbD_shiftLeft,iO];by_cases h:i<4
 ·simp[h]
 ·rw[show 18-6*1+(i-4)=8+i by omega,wd_b _ _ _ _ hi];simp
end
theorem Bu: ∀l:Y8,dec (enc l)=some l
 | []=>rfl
 | [a]=>by
  show dec [sig (wd a 0 0) 0,sig (wd a 0 0) 1]=_;simp only[dec,wt,Option.bind_some,Kz,if_true,FP]
 | [a,b]=>by
  show dec [sig (wd a b 0) 0,sig (wd a b 0) 1,sig (wd a b 0) 2]=_;simp only[dec,wt,Option.bind_some,Ky,if_true,FP,Jk]
 |a::b::c::r=>by
  have ih:=Bu r;show dec (sig (wd a b c) 0::sig (wd a b c) 1::sig (wd a b c) 2::sig (wd a b c) 3::enc r)=_;simp only[dec,wt,Option.bind_some,FP,Jk,MP,ih,Option.map_some]
theorem sM: ∀l:Y8,(enc l).length=l.length/3*4+(if l.length %3=0 then 0 else l.length %3+1)
 | []=>rfl
 | [a]=>by show(sigs _ _).length=_;rw[bZ];simp
 | [a,b]=>by show(sigs _ _).length=_;rw[bZ];simp
 |x::y::z::r=>by
  have ih:=sM r;simp only[enc,List.length_append,bZ,ih,List.length_cons];have e1:(r.length+1+1+1)/3=r.length/3+1:=by omega
  have e2:(r.length+1+1+1) %3=r.length %3:=by omega
  rw[e1,e2]
  split<;>omega
theorem NF {p:BitVec 8}(h:p.toNat<64)(i:Nat)(hi:6≤i):p.getLsbD i=false:=by
 show p.toNat.testBit i=false;exact Nat.testBit_lt_two_pow (Nat.lt_of_lt_of_le h (Nat.pow_le_pow_right (by omega) hi:2^6≤2^i))
theorem Nx(n:BitVec 32)(k:Nat):sig n k=sgn ((six n k).setWidth 32):=by
 unfold sig six;congr 1;apply BitVec.eq_of_toNat_eq;have:=yz (n>>>(18-6*k));rw[BitVec.toNat_setWidth,BitVec.toNat_setWidth,Nat.mod_eq_of_lt (by omega:_<2^8),Nat.mod_eq_of_lt (by omega)]
section
variable {p q r u:BitVec 8}
theorem NA(x:BitVec 8)(k i:Nat)(h:k+i<8):(x<<<k).getLsbD (k+i)=x.getLsbD i:=by
 rw[BitVec.getLsbD_shiftLeft];have h1: ¬k+i<k:=by omega
 simp[h,h1]
theorem NQ(x:BitVec 8)(k i:Nat)(h:i<k):(x<<<k).getLsbD i=false:=by
 rw[BitVec.getLsbD_shiftLeft];simp[h]
theorem NY(hp:p.toNat<64)(hq:q.toNat<64)(B C:BitVec 8):six (wd (p<<<2|||q>>>4) B C) 0=p:=by
 apply BitVec.eq_of_getLsbD_eq;intro i hi;rw[iO];by_cases h:i<6
 ·rw[show 18-6*0+i=16+(2+i) by omega,wd_a _ _ _ _ (by omega),BitVec.getLsbD_or,NA _ _ _ (by omega),BitVec.getLsbD_ushiftRight,NF hq _ (by omega)];simp[h]
 ·rw[NF hp i (by omega)];simp[h]
theorem NZ(hq:q.toNat<64)(B C:BitVec 8)(hB: ∀i,i<4→B.getLsbD (4+i)=q.getLsbD i):six (wd (p<<<2|||q>>>4) B C) 1=q:=by
 apply BitVec.eq_of_getLsbD_eq;intro i hi;rw[iO];by_cases h:i<6
 ·by_cases h4:i<4
  ·rw[show 18-6*1+i=8+(4+i) by omega,wd_b _ _ _ _ (by omega),hB i h4];simp[h]
  ·rw[show 18-6*1+i=16+(i-4) by omega,wd_a _ _ _ _ (by omega),BitVec.getLsbD_or,NQ _ _ _ (by omega),BitVec.getLsbD_ushiftRight,show 4+(i-4)=i by omega];simp[h]
 ·rw[NF hq i (by omega)];simp[h]
theorem Oe(hr:r.toNat<64)(A C:BitVec 8)(hC: ∀i,i<2→C.getLsbD (6+i)=r.getLsbD i):six (wd A (q<<<4|||r>>>2) C) 2=r:=by
 apply BitVec.eq_of_getLsbD_eq;intro i hi;rw[iO];by_cases h:i<6
 ·by_cases h4:i<2
  ·rw[show 18-6*2+i=6+i by omega,wd_c _ _ _ _ (by omega),hC i h4];simp[h]
  ·rw[show 18-6*2+i=8+(i-2) by omega,wd_b _ _ _ _ (by omega),BitVec.getLsbD_or,NQ _ _ _ (by omega),BitVec.getLsbD_ushiftRight,show 2+(i-2)=i by omega];simp[h]
 ·rw[NF hr i (by omega)];simp[h]
theorem Oj(hu:u.toNat<64)(A B:BitVec 8):six (wd A B (r<<<6|||u)) 3=u:=by
 apply BitVec.eq_of_getLsbD_eq;intro i hi;rw[iO];by_cases h:i<6
 ·rw[show 18-6*3+i=i by omega,wd_c _ _ _ _ (by omega),BitVec.getLsbD_or,NQ _ _ _ h];simp[h]
 ·rw[NF hu i (by omega)];simp[h]
theorem Oa(hr:r.toNat<64)(i:Nat)(hi:i<4):(q<<<4|||r>>>2).getLsbD (4+i)=q.getLsbD i:=by
 rw[BitVec.getLsbD_or,NA _ _ _ (by omega),BitVec.getLsbD_ushiftRight,NF hr _ (by omega)];simp
theorem Oh(hu:u.toNat<64)(i:Nat)(hi:i<2):(r<<<6|||u).getLsbD (6+i)=r.getLsbD i:=by
 rw[BitVec.getLsbD_or,NA _ _ _ (by omega),NF hu _ (by omega)];simp
theorem NP {x:BitVec 8} {k:Nat}(h:x<<<k=0#8)(i:Nat)(hi:k+i<8):(0#8).getLsbD (k+i)=x.getLsbD i:=by
 rw[←NA x k i hi,h]
end
theorem Nv {α β:Type} {o:Option α} {f:α→Option β} {b:β}(h:o.bind f=some b): ∃a,o=some a∧f a=some b:=by
 cases o with
 |none=>cases h
 |some a=>exact⟨a,rfl,h⟩
theorem NU: ∀(s b:Y8),dec s=some b→enc b=s
 | [],b,h=>by cases h;rfl
 | [_],b,h=>by cases h
 | [x,y],b,h=>by
  obtain⟨p,hp,h⟩:=Nv h;obtain⟨q,hq,h⟩:=Nv h;obtain⟨p6,px⟩:=Nw hp;obtain⟨q6,qx⟩:=Nw hq
  split at h
  ·rename_i h0;cases h;show [sig _ 0,sig _ 1]=_;rw[Nx,Nx,NY p6 q6,NZ q6 (0:BitVec 8) (0:BitVec 8) (fun i hi=>NP h0 i (by omega)),px,qx]
  ·cases h
 | [x,y,z],b,h=>by
  obtain⟨p,hp,h⟩:=Nv h;obtain⟨q,hq,h⟩:=Nv h;obtain⟨r,hr,h⟩:=Nv h;obtain⟨p6,px⟩:=Nw hp;obtain⟨q6,qx⟩:=Nw hq;obtain⟨r6,rx⟩:=Nw hr
  split at h
  ·rename_i h0;cases h;show [sig _ 0,sig _ 1,sig _ 2]=_;rw[Nx,Nx,Nx,NY p6 q6,NZ q6 _ _ (fun i hi=>Oa r6 i hi),Oe r6 _ (0:BitVec 8) (fun i hi=>NP h0 i (by omega)),px,qx,rx]
  ·cases h
 |x::y::z::t::s,b,h=>by
  obtain⟨p,hp,h⟩:=Nv h;obtain⟨q,hq,h⟩:=Nv h;obtain⟨r,hr,h⟩:=Nv h;obtain⟨u,hu,h⟩:=Nv h;obtain⟨p6,px⟩:=Nw hp;obtain⟨q6,qx⟩:=Nw hq;obtain⟨r6,rx⟩:=Nw hr;obtain⟨u6,ux⟩:=Nw hu;cases hd:dec s with
  |none=>rw[hd]at h;cases h
  |some o=>
   rw[hd]at h;cases h;have ih:=NU s o hd;show sig _ 0::sig _ 1::sig _ 2::sig _ 3::enc o=_;rw[Nx,Nx,Nx,Nx,NY p6 q6,NZ q6 _ _ (fun i hi=>Oa r6 i hi),Oe r6 _ _ (fun i hi=>Oh u6 i hi),Oj u6,px,qx,rx,ux,ih]
structure CipOk(E D:Y8→Y8→Y8):Prop where
 elen: ∀tw M,16≤M.length→M.length≤520→(E tw M).length=M.length
 dlen: ∀tw M,16≤M.length→M.length≤520→(D tw M).length=M.length
 de: ∀tw M,16≤M.length→M.length≤520→D tw (E tw M)=M
 ed: ∀tw M,16≤M.length→M.length≤520→E tw (D tw M)=M
section
variable {E D:Y8→Y8→Y8} (x:BitVec 64) {q:Nat}
def js(E:Y8→Y8→Y8)(x:BitVec 64)(l:Y8)(q:Nat):Y8:=if da l=0 then enc (E (le64 x) (cX l q))else []
def nr(D:Y8→Y8→Y8)(x:BitVec 64)(t:Y8)(q:Nat):Int:=
 match dec t with
 |none=>13
 |some b=>if gz b.length q≠0 then 4 else cJ (D (le64 x) b) (q:Int)
def ns(D:Y8→Y8→Y8)(x:BitVec 64)(t:Y8)(q:Nat):Y8:=
 match dec t with
 |none=>[]
 |some b=>if gz b.length q≠0 then []else db (D (le64 x) b) (q:Int)
theorem uN(hq:cY q):bU (q:Int)=0:=by unfold bU cY at*;rw[if_pos (by omega)]
theorem sN(l:Y8):da l=0↔bT l:=by
 unfold da
 split
 ·simp_all
 ·simp_all
theorem Bv(n:Nat):gz n q=0↔fp n q:=by
 unfold gz
 split
 ·simp_all
 ·simp_all
theorem sO {n:Nat}(hq:cY q)(h:fp n q):16≤n∧n≤255:=by
 obtain⟨h1,h2,h3⟩:=h;rcases hq with rfl|rfl|rfl<;>omega
theorem Aq(hq:cY q)(b:Y8)(h:fp b.length q):cJ b (q:Int)=if nK b q then 0 else 14:=by
 unfold cJ;rw[if_neg (by rw[uN hq];decide),Int.toNat_natCast,if_neg (by simpa using h)]
theorem uO(l:Y8)(hq:cY q)(h:bT l):fp (cX l q).length q:=by
 rw[ct l q hq h.2.1];exact yG _ _ hq h.1 h.2.1
theorem FQ(hc:CipOk E D)(hq:cY q)(l:Y8)(h:bT l):nr D x (js E x l q) q=0∧ns D x (js E x l q) q=l:=by
 have hl:=uO l hq h;have hb:=sO hq hl;have h1:js E x l q=enc (E (le64 x) (cX l q)):=by rw[js,if_pos ((sN l).2 h)]
 have hlen:=hc.elen (le64 x) (cX l q) hb.1 (by omega);have h2:cJ (cX l q) (q:Int)=0:=by rw[Aq hq _ hl,if_pos (yI l q hq h)]
 rw[h1,nr,ns,Bu];dsimp only;rw[hlen,(Bv _).2 hl,if_neg (by decide),if_neg (by decide),hc.de _ _ hb.1 (by omega),db,if_pos h2,yH l q h];exact⟨h2,rfl⟩
theorem Ob(hc:CipOk E D)(hq:cY q)(t:Y8):
  (nr D x t q=13∨nr D x t q=4∨nr D x t q=14)∧ns D x t q=[]∨nr D x t q=0∧bT (ns D x t q)∧js E x (ns D x t q) q=t:=by
 unfold nr ns;cases hd:dec t with
 |none=>exact .inl ⟨.inl rfl,rfl⟩
 |some b=>
  dsimp only;by_cases hl:gz b.length q=0
  ·rw[if_neg (by simpa using hl),if_neg (by simpa using hl)];have hn:=(Bv _).1 hl;have hb:=sO hq hn;have hdl:=hc.dlen (le64 x) b hb.1 (by omega);rw[db,Aq hq _ (by rw[hdl];exact hn)];by_cases hp:nK (D (le64 x) b) q
   ·rw[if_pos hp,if_pos rfl];have h3:=NW _ _ hp;refine .inr ⟨rfl,hp.1,?_⟩;rw[js,if_pos ((sN _).2 hp.1),h3,hc.ed _ _ hb.1 (by omega)];exact NU _ _ hd
   ·rw[if_neg hp,if_neg (by decide)];exact .inl ⟨.inr (.inr rfl),rfl⟩
  ·rw[if_pos hl,if_pos hl];exact .inl ⟨.inr (.inl rfl),rfl⟩
theorem Oi(hc:CipOk E D)(hq:cY q)(l t:Y8)(h:bT l)(g:bT t):js E x l q=js E x t q↔l=t:=by
 constructor
 ·intro e;have h1:=(FQ x hc hq l h).2;rw[e,(FQ x hc hq t g).2]at h1;exact h1.symm
 ·rintro rfl;rfl
theorem wu(hc:CipOk E D)(hq:cY q)(l:Y8)(h:bT l):(js E x l q).length=cd l.length q/3*4+(if cd l.length q %3=0 then 0 else cd l.length q %3+1):=by
 have hb:=sO hq (uO l hq h);rw[js,if_pos ((sN l).2 h),sM,hc.elen _ _ hb.1 (by omega),ct l q hq h.2.1]
theorem Og(hc:CipOk E D)(hq:cY q)(l t:Y8)(h:bT l)(g:bT t):(js E x l q).length=(js E x t q).length↔(l.length+q-1)/q=(t.length+q-1)/q:=by
 rw[wu x hc hq l h,wu x hc hq t g];have h1:=h.1;have h2:=h.2.1;have g1:=g.1;have g2:=g.2.1;have hi: ∀n m:Nat,n/3*4+(if n %3=0 then 0 else n %3+1)=m/3*4+(if m %3=0 then 0 else m %3+1)↔n=m:=by
  intro n m;constructor
  ·intro e
   split at e<;>split at e<;>omega
  ·rintro rfl;rfl
 rw[hi];unfold cd;rcases hq with rfl|rfl|rfl<;>omega
end
section
variable (E:Int→Nat→Y8→Y8) (h:Y8) (a b:Nat)
theorem kN(np:Nat)(P u v x y:Y8)(hP:P.length=32*np)(hu:u.length≤16)(hv:v.length<16)(huv:u.length=16∨v=[])(hx:x.length=16)(hy:y.length=16):
  jt E h a b (P++u++v++x++y)=ft E (bJ E) h a np P u v x y++fg E (bJ E) h a np P u v x y++fi E (bJ E) h a np P u v x y++fZ E (bJ E) h a b np P u v x y++fu E (bJ E) h a b np P u v x y:=by
 obtain⟨M,hM⟩: ∃M,M=P++u++v++x++y:=⟨_,rfl⟩;have hn:M.length=32*np+(u.length+v.length)+32:=by rw[hM];simp only[List.length_append];omega
 have e0:(M.length-32)/32=np:=by rw[hn];omega
 have l3:(P++u++v).length=M.length-32:=by rw[hn];simp only[List.length_append];omega
 have l4:(P++u++v++x).length=M.length-16:=by rw[hn];simp only[List.length_append];omega
 have hM2:M=(P++u++v)++(x++y):=by rw[hM,List.append_assoc _ x y]
 have e1:M.take (M.length-32)=P++u++v:=by
  rw[←l3]
  conv=>lhs;rw[hM2]
  exact List.take_left' rfl
 have e2:(P++u++v).drop (32*np)=u++v:=by rw[List.append_assoc];exact List.drop_left' hP
 have e3:(u++v).take 16=u:=by
  rcases huv with h1|h1
  ·exact List.take_left' h1
  ·rw[h1,List.append_nil];exact List.take_of_length_le hu
 have e4:(u++v).drop 16=v:=by
  rcases huv with h1|h1
  ·exact List.drop_left' h1
  ·rw[h1,List.append_nil];exact List.drop_eq_nil_of_le hu
 have e5:(M.drop (M.length-32)).take 16=x:=by
  have:M.drop (M.length-32)=x++y:=by
   rw[←l3]
   conv=>lhs;rw[hM2]
   exact List.drop_left' rfl
  rw[this];exact List.take_left' hx
 have e6:(M.drop (M.length-16)).take 16=y:=by
  have:M.drop (M.length-16)=y:=by
   rw[←l4]
   conv=>lhs;rw[hM]
   exact List.drop_left' rfl
  rw[this];exact List.take_of_length_le (by omega)
 have e7:M.take (32*np)=P:=by
  rw[hM,List.append_assoc,List.append_assoc,List.append_assoc];exact List.take_left' hP
 rw[←hM];simp only[jt,e0,e1,e2,e3,e4,e5,e6,e7]
theorem pR(M:Y8)(h32:32≤M.length): ∃(np:Nat) (P u v x y:Y8),M=P++u++v++x++y∧P.length=32*np∧u.length≤16∧v.length<16∧(u.length=16∨v=[])∧x.length=16∧y.length=16:=by
 obtain⟨n,hn⟩: ∃n,n=M.length:=⟨_,rfl⟩;obtain⟨np,hnp⟩: ∃np,np=(n-32)/32:=⟨_,rfl⟩;obtain⟨R,hR⟩: ∃R,R=(M.take (n-32)).drop (32*np):=⟨_,rfl⟩;have hRl:R.length=n-32-32*np:=by rw[hR,List.length_drop,List.length_take];omega
 have h1:(M.take (n-32)).take (32*np)++R=M.take (n-32):=by rw[hR];exact List.take_append_drop _ _
 have h2:R.take 16++R.drop 16=R:=List.take_append_drop _ _;have h3:(M.drop (n-32)).take 16++(M.drop (n-32)).drop 16=M.drop (n-32):=List.take_append_drop _ _;have h4:M.take (n-32)++M.drop (n-32)=M:=List.take_append_drop _ _;refine⟨np,(M.take (n-32)).take (32*np),R.take 16,R.drop 16,(M.drop (n-32)).take 16,(M.drop (n-32)).drop 16,?_,?_,?_,?_,?_,?_,?_⟩
 ·rw[List.append_assoc,h3,List.append_assoc ((M.take (n-32)).take (32*np)),h2,h1,h4]
 ·rw[List.length_take,List.length_take];omega
 ·rw[List.length_take];omega
 ·rw[List.length_drop];omega
 ·by_cases hc:16≤R.length
  ·exact .inl (by rw[List.length_take];omega)
  ·exact .inr (List.drop_eq_nil_of_le (by omega))
 ·rw[List.length_take,List.length_drop];omega
 ·rw[List.length_drop,List.length_drop];omega
variable (hE: ∀j i x,(E j i x).length=16)
include hE
theorem uP(np:Nat)(P u v x y:Y8)(hu:u.length≤16)(hv:v.length<16):
  (ft E (bJ E) h a np P u v x y).length=32*np∧(fg E (bJ E) h a np P u v x y).length=u.length∧(fi E (bJ E) h a np P u v x y).length=v.length∧(fZ E (bJ E) h a b np P u v x y).length=16∧(fu E (bJ E) h a b np P u v x y).length=16:=
 ⟨iA E _ _ _,by rw[fg,aJ,hE];omega,by rw[fi,aJ,hE];omega,ak _ _,ak _ _⟩
theorem nt(M:Y8)(h32:32≤M.length):(jt E h a b M).length=M.length:=by
 obtain⟨np,P,u,v,x,y,rfl,hP,hu,hv,huv,hx,hy⟩:=pR M h32;obtain⟨l1,l2,l3,l4,l5⟩:=uP E h a b hE np P u v x y hu hv;rw[kN E h a b np P u v x y hP hu hv huv hx hy];simp only[List.length_append,l1,l2,l3,l4,l5,hP,hx,hy]
theorem sP(M:Y8)(h32:32≤M.length):jt E h b a (jt E h a b M)=M:=by
 obtain⟨np,P,u,v,x,y,rfl,hP,hu,hv,huv,hx,hy⟩:=pR M h32;obtain⟨l1,l2,l3,l4,l5⟩:=uP E h a b hE np P u v x y hu hv;rw[kN E h a b np P u v x y hP hu hv huv hx hy];rw[kN E h b a np _ _ _ _ _ l1 (by omega) (by omega) (by
  rcases huv with h1|h1
  ·exact .inl (by omega)
  ·exact .inr (List.eq_nil_of_length_eq_zero (by rw[l3,h1];rfl))) l4 l5]
 rw[AJ E (bJ E) h a b np P u v x y hP,tl E (bJ E) h a b np P u v x y hE hu,tr E (bJ E) h a b np P u v x y hE (by omega),AL E (bJ E) h a b np P u v x y hE hu (by omega) hx hy,tt E (bJ E) h a b np P u v x y hy]
end
def ezEn(I J L tw M:Y8):Y8:=
 if M.length<32 then kj (iM (ezE I J L) (eg (ezE I J L) [tw] 1) 6) 8 M else jt (ezE I J L) (eg (ezE I J L) [tw] 1) 1 2 M
def ezDe(I J L tw M:Y8):Y8:=
 if M.length<32 then kT (iM (ezE I J L) (eg (ezE I J L) [tw] 1) 6) 8 M else jt (ezE I J L) (eg (ezE I J L) [tw] 1) 2 1 M
theorem MQ(I J L:Y8):CipOk (ezEn I J L) (ezDe I J L):=by
 have hl: ∀tw n j x,x.length=n→(iM (ezE I J L) (eg (ezE I J L) [tw] 1) 6 j x).length=n:=fun tw n j x hx=>by rw[jR,hx]
 have hs: ∀tw j x,dw (iM (ezE I J L) (eg (ezE I J L) [tw] 1) 6 j x):=fun tw j x=>jv _ _ _;have h1: ∀tw M,(ezEn I J L tw M).length=M.length:=fun tw M=>by
  unfold ezEn
  split
  ·exact nG _ _ (hl tw _) 8 M rfl
  ·exact nt _ _ _ _ (cZ I J L) M (by omega)
 have h2: ∀tw M,(ezDe I J L tw M).length=M.length:=fun tw M=>by
  unfold ezDe
  split
  ·exact nH _ _ (hl tw _) 8 M rfl
  ·exact nt _ _ _ _ (cZ I J L) M (by omega)
 refine⟨fun tw M _ _=>h1 tw M,fun tw M _ _=>h2 tw M,fun tw M _ _=> ?_,fun tw M _ _=> ?_⟩
 ·have:=h1 tw M;unfold ezDe;rw[this];unfold ezEn
  split
  ·exact DM _ _ (hl tw _) (hs tw) 8 M rfl
  ·exact sP _ _ _ _ (cZ I J L) M (by omega)
 ·have:=h2 tw M;unfold ezEn;rw[this];unfold ezDe
  split
  ·exact AM _ _ (hl tw _) (hs tw) 8 M rfl
  ·exact sP _ _ _ _ (cZ I J L) M (by omega)
open Go.RowKit
theorem uQ {w:World} {a:Option Addr} {n c:Nat} {x:Y8}(h:Rd8 w a n c x):SlsAt w (Value.slice a n c).cells [x]:=
 ⟨rfl,fun j hj=>by
  obtain rfl:j=0:=by simp at hj;omega
  exact⟨a,n,c,rfl,h⟩⟩
theorem ny(p pt gr c:Nat)(I J L T M:Y8)(cells:Array Value)(b:Option Addr)(len d:Nat)(w:World)(H:EzAt w p pt I J L)(hb:Blk w gr 22 cells)(hs:SlsAt w cells [T])(hT:T.length≤16000)(hM:Rd8 w b len d M)(h16:16≤len)(hlen:len≤520):
  Calls prog 299 #[.agg #[.pointer (some ⟨p,0,none⟩)],.slice (some ⟨gr,0,none⟩) 1 c,.slice b len d,.bool false] w fun e w' => ∃v,e= .returned (.tuple #[v,.int .i64 0])∧Own8 w' w.heap.size 5 v (ezEn I J L T M)∧Below w.heap.size w w':=by
 obtain⟨W,hW⟩: ∃W,w.alloc (.cells #[.pointer (some ⟨p,0,none⟩)] 134)=W:=⟨_,rfl⟩;obtain⟨b0,hd,hz⟩:=new1 _ _ _ _ hW;have c0:W.cell? ⟨w.heap.size,0,none⟩=some (.pointer (some ⟨p,0,none⟩)):=by rw[b0.cell];rfl
 have hl1: ∀k,k<1→(([T]:List (Y8)).getD k []).length≤16000:=fun k hk=>by
  obtain rfl:k=0:=by omega
  exact hT
 have hMl:=hM.1;have D0:=hid hd;have H0:=H.below hd;have B0:=hb.belowAll hd;have S0:=hs.below hd;have M0:=hM.below hd;by_cases h32:len<32
 ·have e1:(len:Int)<32:=by omega
  have hc:=yc p pt gr 1 c len d I J L M cells [T] b W H0 B0 S0 rfl (by omega) hl1 M0 h16 (by omega);have ef:ezEn I J L T M=_:=if_pos (show M.length<32 by omega);rw[←ef]at hc;have HC:=hid hc;clear hc ef hl1 H0 B0 S0 M0 H hb hs hM hd b0;go_enter func299,ntmps299;go_wp2_with fail;clear hW;refine HC.out.mono ?_;rintro e w2 ⟨v2,rfl,o2,d2⟩;have O2:=hid (o2.base D0.out.size);have D2:=hid (D0.out.trans (d2.mono D0.out.size));clear o2 d2;go_wp2;go_ret2;exact⟨_,rfl,O2.out,D2.out⟩
 ·have e1: ¬(len:Int)<32:=by omega
  have hc:=ym p pt gr 1 c len d I J L M cells [T] b false W H0 B0 S0 rfl (by omega) hl1 M0 (by omega) hlen;have ef:ezEn I J L T M=_:=if_neg (show¬M.length<32 by omega);have e2:jt (ezE I J L) (eg (ezE I J L) [T] 1) (if false=true then 2 else 1) (if false=true then 1 else 2) M=ezEn I J L T M:=by rw[ef];rfl
  rw[e2]at hc;have HC:=hid hc;clear hc ef hl1 H0 B0 S0 M0 H hb hs hM hd b0 e2;go_enter func299,ntmps299;go_wp2_with fail;clear hW;refine HC.out.mono ?_;rintro e w2 ⟨v2,rfl,o2,d2⟩;have O2:=hid (o2.base D0.out.size);have D2:=hid (D0.out.trans (d2.mono D0.out.size));clear o2 d2;go_wp2;go_ret2;exact⟨_,rfl,O2.out,D2.out⟩
theorem sQ(p pt:Nat)(I J L T M:Y8)(a b:Option Addr)(n c len d:Nat)(w:World)(H:EzAt w p pt I J L)(ht:Rd8 w a n c T)(hn:n≤1000)(hM:Rd8 w b len d M)(h16:16≤len)(hlen:len≤520):
  Calls prog 298 #[.agg #[.pointer (some ⟨p,0,none⟩)],.slice a n c,.slice b len d] w fun e w' => ∃v,e= .returned (.tuple #[v,.int .i64 0])∧Own8 w' w.heap.size 5 v (ezEn I J L T M)∧Below w.heap.size w w':=by
 obtain⟨W,hW⟩: ∃W,w.alloc (.cells #[.pointer (some ⟨p,0,none⟩)] 134)=W:=⟨_,rfl⟩;obtain⟨b0,hd,hz⟩:=new1 _ _ _ _ hW;have r0:=b0.row;have hld:(bt 134 (.pointer (some ⟨w.heap.size,0,none⟩))).run prog W= .ok (.agg #[.pointer (some ⟨p,0,none⟩)]) W:=by
  rw[cO W _ _ _ (isAgg134 _) (sizeOf134 _) (by rw[r0];exact Nat.le_refl _),r0];rfl
 have hTl:T.length≤16000:=by have:=ht.1;omega
 have D0:=hid hd;have H0:=hid (H.below hd);have T0:=hid (ht.below hd);have M0:=hid (hM.below hd);clear hd b0 H ht hM r0;go_enter func298,ntmps298;go_upto_region 1 with fail;clear hW;refine aG [1,0,2,0,2,0,0,0,0] rfl (fun ops' K2 hK2=> ?_)
 repeat (first|((with_reducible refine zq0 ?_);refine zq0a ?_)|((with_reducible refine zq1 ?_);refine zq1a ?_))
 refine FO (x:= .slice a n c) (z0:= .slice none 0 0) (size:=1) (bytes:=24) rfl rfl (by omega) (by omega) underlying113 od (fun w1 gr k1 d1=> ?_);simp only[Act.put,zz1,zz2,zz3]
 repeat (first|((with_reducible refine zq0 ?_);refine zq0a ?_)|((with_reducible refine zq1 ?_);refine zq1a ?_))
 (with_reducible refine bC rfl ?_)
 go_simp;refine af ?_;refine(ny p pt gr 1 I J L T M _ b len d w1 (H0.out.below d1) k1 (uQ (T0.out.below d1)) hTl (M0.out.below d1) h16 hlen).mono ?_;rintro e w2 ⟨v2,rfl,o2,d2⟩;refine⟨_,rfl,?_⟩
 try simp only[Act.put,zz1,zz2,zz3]
 repeat (first|((with_reducible refine zq0 ?_);refine zq0a ?_)|((with_reducible refine zq1 ?_);refine zq1a ?_))
 refine az (hK2 _ _ ?_);have E1:=D0.out.trans (d1.mono D0.out.size);have O2:=hid (o2.base E1.size);have D2:=hid (E1.trans (d2.mono E1.size));clear o2 d2 d1 E1 k1 hld hK2;go_wp2;go_ret2;exact⟨_,rfl,O2.out,D2.out⟩
theorem nz(p pt gr c:Nat)(I J L T M:Y8)(cells:Array Value)(b:Option Addr)(len d:Nat)(w:World)(H:EzAt w p pt I J L)(hb:Blk w gr 22 cells)(hs:SlsAt w cells [T])(hT:T.length≤16000)(hM:Rd8 w b len d M)(h16:16≤len)(hlen:len≤520):
  Calls prog 299 #[.agg #[.pointer (some ⟨p,0,none⟩)],.slice (some ⟨gr,0,none⟩) 1 c,.slice b len d,.bool true] w fun e w' => ∃v,e= .returned (.tuple #[v,.int .i64 0])∧Own8 w' w.heap.size 5 v (ezDe I J L T M)∧Below w.heap.size w w':=by
 obtain⟨W,hW⟩: ∃W,w.alloc (.cells #[.pointer (some ⟨p,0,none⟩)] 134)=W:=⟨_,rfl⟩;obtain⟨b0,hd,hz⟩:=new1 _ _ _ _ hW;have c0:W.cell? ⟨w.heap.size,0,none⟩=some (.pointer (some ⟨p,0,none⟩)):=by rw[b0.cell];rfl
 have hl1: ∀k,k<1→(([T]:List (Y8)).getD k []).length≤16000:=fun k hk=>by
  obtain rfl:k=0:=by omega
  exact hT
 have hMl:=hM.1;have D0:=hid hd;have H0:=H.below hd;have B0:=hb.belowAll hd;have S0:=hs.below hd;have M0:=hM.below hd;by_cases h32:len<32
 ·have e1:(len:Int)<32:=by omega
  have hc:=yd p pt gr 1 c len d I J L M cells [T] b W H0 B0 S0 rfl (by omega) hl1 M0 h16 (by omega);have ef:ezDe I J L T M=_:=if_pos (show M.length<32 by omega);rw[←ef]at hc;have HC:=hid hc;clear hc ef hl1 H0 B0 S0 M0 H hb hs hM hd b0;go_enter func299,ntmps299;go_wp2_with fail;clear hW;refine HC.out.mono ?_;rintro e w2 ⟨v2,rfl,o2,d2⟩;have O2:=hid (o2.base D0.out.size);have D2:=hid (D0.out.trans (d2.mono D0.out.size));clear o2 d2;go_wp2;go_ret2;exact⟨_,rfl,O2.out,D2.out⟩
 ·have e1: ¬(len:Int)<32:=by omega
  have hc:=ym p pt gr 1 c len d I J L M cells [T] b true W H0 B0 S0 rfl (by omega) hl1 M0 (by omega) hlen;have ef:ezDe I J L T M=_:=if_neg (show¬M.length<32 by omega);have e2:jt (ezE I J L) (eg (ezE I J L) [T] 1) (if true=true then 2 else 1) (if true=true then 1 else 2) M=ezDe I J L T M:=by rw[ef];rfl
  rw[e2]at hc;have HC:=hid hc;clear hc ef hl1 H0 B0 S0 M0 H hb hs hM hd b0 e2;go_enter func299,ntmps299;go_wp2_with fail;clear hW;refine HC.out.mono ?_;rintro e w2 ⟨v2,rfl,o2,d2⟩;have O2:=hid (o2.base D0.out.size);have D2:=hid (D0.out.trans (d2.mono D0.out.size));clear o2 d2;go_wp2;go_ret2;exact⟨_,rfl,O2.out,D2.out⟩
theorem sS(p pt:Nat)(I J L T M:Y8)(a b:Option Addr)(n c len d:Nat)(w:World)(H:EzAt w p pt I J L)(ht:Rd8 w a n c T)(hn:n≤1000)(hM:Rd8 w b len d M)(h16:16≤len)(hlen:len≤520):
  Calls prog 297 #[.agg #[.pointer (some ⟨p,0,none⟩)],.slice a n c,.slice b len d] w fun e w' => ∃v,e= .returned (.tuple #[v,.int .i64 0])∧Own8 w' w.heap.size 5 v (ezDe I J L T M)∧Below w.heap.size w w':=by
 obtain⟨W,hW⟩: ∃W,w.alloc (.cells #[.pointer (some ⟨p,0,none⟩)] 134)=W:=⟨_,rfl⟩;obtain⟨b0,hd,hz⟩:=new1 _ _ _ _ hW;have r0:=b0.row;have hld:(bt 134 (.pointer (some ⟨w.heap.size,0,none⟩))).run prog W= .ok (.agg #[.pointer (some ⟨p,0,none⟩)]) W:=by
  rw[cO W _ _ _ (isAgg134 _) (sizeOf134 _) (by rw[r0];exact Nat.le_refl _),r0];rfl
 have hTl:T.length≤16000:=by have:=ht.1;omega
 have D0:=hid hd;have H0:=hid (H.below hd);have T0:=hid (ht.below hd);have M0:=hid (hM.below hd);clear hd b0 H ht hM r0;go_enter func297,ntmps297;go_upto_region 1 with fail;clear hW;refine aG [1,0,2,0,2,0,0,0,0] rfl (fun ops' K2 hK2=> ?_)
 repeat (first|((with_reducible refine zq0 ?_);refine zq0a ?_)|((with_reducible refine zq1 ?_);refine zq1a ?_))
 refine FO (x:= .slice a n c) (z0:= .slice none 0 0) (size:=1) (bytes:=24) rfl rfl (by omega) (by omega) underlying113 od (fun w1 gr k1 d1=> ?_);simp only[Act.put,zz1,zz2,zz3]
 repeat (first|((with_reducible refine zq0 ?_);refine zq0a ?_)|((with_reducible refine zq1 ?_);refine zq1a ?_))
 (with_reducible refine bC rfl ?_)
 go_simp;refine af ?_;refine(nz p pt gr 1 I J L T M _ b len d w1 (H0.out.below d1) k1 (uQ (T0.out.below d1)) hTl (M0.out.below d1) h16 hlen).mono ?_;rintro e w2 ⟨v2,rfl,o2,d2⟩;refine⟨_,rfl,?_⟩
 try simp only[Act.put,zz1,zz2,zz3]
 repeat (first|((with_reducible refine zq0 ?_);refine zq0a ?_)|((with_reducible refine zq1 ?_);refine zq1a ?_))
 refine az (hK2 _ _ ?_);have E1:=D0.out.trans (d1.mono D0.out.size);have O2:=hid (o2.base E1.size);have D2:=hid (E1.trans (d2.mono E1.size));clear o2 d2 d1 E1 k1 hld hK2;go_wp2;go_ret2;exact⟨_,rfl,O2.out,D2.out⟩
end Go.Proofs.YtddkbkbpogcffaaGreatDoor
