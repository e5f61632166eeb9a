/-ring,plain:the field of 2^128 elements by the lowest bit first;dots-/
import Derived.Test.YtddkbkbpogcffaaGreatDoorMGw
import Derived.Test.YtddkbkbpogcffaaGreatDoorMGa
namespace Go.Proofs.YtddkbkbpogcffaaGreatDoor
set_option linter.unusedSimpArgs false
set_option linter.unusedVariables false
set_option maxRecDepth 100000
set_option maxHeartbeats 1600000
open Go.RowKit
def KG {n:Nat}(x:BitVec n):Nat→BitVec n
 |0=>0#n
 |k+1=>KG x k^^^(if x.getLsbD k then 1#n<<<k else 0#n)
def upW(w:W2):W2:=(w.1<<<1^^^w.2>>>63,w.2<<<1^^^w.1>>>63^^^(w.2>>>63)*0xc200000000000000#64)
def yA(w:W2):W2:=(w.1>>>1^^^w.2<<<63,w.2>>>1^^^(w.1&&&1#64)*0xe100000000000000#64)
def bitW(w:W2)(i:Nat):BitVec 64:=if i<64 then w.1>>>i&&&1#64 else w.2>>>(i-64)&&&1#64
def lY(a b:W2)(f:BitVec 64):W2:=(a.1^^^f*b.1,a.2^^^f*b.2)
def vi(x y:W2):Nat→W2
 |0=>(0#64,0#64)
 |i+1=>yA (lY (vi x y i) x (bitW y i))
def dotW(x y:W2):W2:=vi x y 128
def upN(w:W2):Nat→W2
 |0=>w
 |k+1=>upW (upN w k)
def xorW(a b:W2):W2:=(a.1^^^b.1,a.2^^^b.2)
theorem DX(a b:W2):lY a b 1#64=xorW a b:=by simp[lY,xorW]
def upB(x:BitVec 128):BitVec 128:=x<<<1^^^(if x.getLsbD 127 then 0xc2000000000000000000000000000001#128 else 0#128)
def ups(x:BitVec 128):Nat→BitVec 128
 |0=>x
 |k+1=>upB (ups x k)
def tabW(one:W2)(n:Nat):W2:=
 xorW (xorW (xorW (if n.testBit 0 then upN one 0 else(0#64,0#64)) (if n.testBit 1 then upN one 1 else(0#64,0#64))) (if n.testBit 2 then upN one 2 else(0#64,0#64))) (if n.testBit 3 then upN one 3 else(0#64,0#64))
def part(o y:BitVec 128)(lo:Nat):Nat→BitVec 128
 |0=>0#128
 |c+1=>part o y lo c^^^(if y.getLsbD (lo+c)then ups o c else 0#128)
def msk:BitVec 64:=67108863#64
def cq0(w:List (BitVec 64)):BitVec 64:=nth w 0+0#64
def cq1(w:List (BitVec 64)):BitVec 64:=nth w 1+(cq0 w>>>26)
def cq2(w:List (BitVec 64)):BitVec 64:=nth w 2+(cq1 w>>>26)
def cq3(w:List (BitVec 64)):BitVec 64:=nth w 3+(cq2 w>>>26)
def cq4(w:List (BitVec 64)):BitVec 64:=nth w 4+(cq3 w>>>26)
def carr(w:List (BitVec 64)):List (BitVec 64):=
 [(cq0 w&&&msk)+5#64*(cq4 w>>>26),cq1 w&&&msk,cq2 w&&&msk,cq3 w&&&msk,cq4 w&&&msk]
@[simp] theorem yB(w:List (BitVec 64)):(carr w).length=5:=rfl
theorem ls(x:BitVec 64):(x&&&msk).toNat=x.toNat %67108864:=by
 rw[BitVec.toNat_and,show msk.toNat=2^26-1 from rfl,Nat.and_two_pow_sub_one_eq_mod]
theorem yC(x:BitVec 64):(x>>>26).toNat=x.toNat/67108864:=by
 rw[BitVec.toNat_ushiftRight,Nat.shiftRight_eq_div_pow]
def pn(w:List (BitVec 64))(i:Nat):Nat:=(nth w i).toNat
structure CarN(w:List (BitVec 64))(a0 a1 a2 a3 a4 c:Nat):Prop where
 h0:a0=pn w 0
 h1:a1=pn w 1+a0/67108864
 h2:a2=pn w 2+a1/67108864
 h3:a3=pn w 3+a2/67108864
 h4:a4=pn w 4+a3/67108864
 r0:pn (carr w) 0=a0 %67108864+5*(a4/67108864)
 r1:pn (carr w) 1=a1 %67108864
 r2:pn (carr w) 2=a2 %67108864
 r3:pn (carr w) 3=a3 %67108864
 r4:pn (carr w) 4=a4 %67108864
theorem carN(w:List (BitVec 64))(hw: ∀i,i<5→pn w i<2^60): ∃a0 a1 a2 a3 a4,CarN w a0 a1 a2 a3 a4 0:=by
 have b0:=hw 0 (by omega);have b1:=hw 1 (by omega);have b2:=hw 2 (by omega);have b3:=hw 3 (by omega);have b4:=hw 4 (by omega);unfold pn at b0 b1 b2 b3 b4;have e0:(cq0 w).toNat=(nth w 0).toNat:=by rw[cq0,BitVec.toNat_add];simp;omega
 have e1:(cq1 w).toNat=(nth w 1).toNat+(cq0 w).toNat/67108864:=by rw[cq1,BitVec.toNat_add,yC];omega
 have e2:(cq2 w).toNat=(nth w 2).toNat+(cq1 w).toNat/67108864:=by rw[cq2,BitVec.toNat_add,yC];omega
 have e3:(cq3 w).toNat=(nth w 3).toNat+(cq2 w).toNat/67108864:=by rw[cq3,BitVec.toNat_add,yC];omega
 have e4:(cq4 w).toNat=(nth w 4).toNat+(cq3 w).toNat/67108864:=by rw[cq4,BitVec.toNat_add,yC];omega
 refine⟨_,_,_,_,_,e0,e1,e2,e3,e4,?_,ls _,ls _,ls _,ls _⟩;show((cq0 w&&&msk)+5#64*(cq4 w>>>26)).toNat=_;rw[BitVec.toNat_add,BitVec.toNat_mul,ls,yC,show(5#64).toNat=5 from rfl];omega
theorem DY(w v:List (BitVec 64))(hv:v.length=5)(hw:w.length=5)(h: ∀i,i<5→pn w i=pn v i):w=v:=by
 apply List.ext_getElem (by omega);intro i h1 h2;have:=h i (by omega);unfold pn nth at this;apply BitVec.eq_of_toNat_eq;simpa[List.getD_eq_getElem?_getD,h1,h2]using this
def iC(w:List (BitVec 64)):Prop:= ∀i,i<5→pn w i<67108864
theorem AS(w:List (BitVec 64))(hl:w.length=5)(h:iC w):carr w=w:=by
 obtain⟨a0,a1,a2,a3,a4,H⟩:=carN w (fun i hi=>by have:=h i hi;omega);have b0:=h 0 (by omega);have b1:=h 1 (by omega);have b2:=h 2 (by omega);have b3:=h 3 (by omega);have b4:=h 4 (by omega);obtain⟨h0,h1,h2,h3,h4,r0,r1,r2,r3,r4⟩:=H;refine DY _ _ hl rfl fun i hi=> ?_;obtain rfl|rfl|rfl|rfl|rfl:i=0∨i=1∨i=2∨i=3∨i=4:=by omega
 all_goals omega
theorem qa(w:List (BitVec 64))(hw: ∀i,i<5→pn w i<2^60):iC (carr (carr (carr w))):=by
 obtain⟨a0,a1,a2,a3,a4,h0,h1,h2,h3,h4,r0,r1,r2,r3,r4⟩:=carN w hw;have b0:=hw 0 (by omega);have b1:=hw 1 (by omega);have b2:=hw 2 (by omega);have b3:=hw 3 (by omega);have b4:=hw 4 (by omega);have q0:pn (carr w) 0<2^38:=by omega
 have q1:pn (carr w) 1<67108864:=by omega
 have q2:pn (carr w) 2<67108864:=by omega
 have q3:pn (carr w) 3<67108864:=by omega
 have q4:pn (carr w) 4<67108864:=by omega
 clear h0 h1 h2 h3 h4 r0 r1 r2 r3 r4 b0 b1 b2 b3 b4 hw;generalize carr w=v at*;obtain⟨a0,a1,a2,a3,a4,h0,h1,h2,h3,h4,r0,r1,r2,r3,r4⟩:=carN v (fun i hi=>by
  obtain rfl|rfl|rfl|rfl|rfl:i=0∨i=1∨i=2∨i=3∨i=4:=by omega
  all_goals omega)
 have p0:pn (carr v) 0<67108869:=by omega
 have p1:pn (carr v) 1<67108864:=by omega
 have p2:pn (carr v) 2<67108864:=by omega
 have p3:pn (carr v) 3<67108864:=by omega
 have p4:pn (carr v) 4<67108864:=by omega
 clear h0 h1 h2 h3 h4 r0 r1 r2 r3 r4 q0 q1 q2 q3 q4;generalize carr v=u at*;obtain⟨a0,a1,a2,a3,a4,h0,h1,h2,h3,h4,r0,r1,r2,r3,r4⟩:=carN u (fun i hi=>by
  obtain rfl|rfl|rfl|rfl|rfl:i=0∨i=1∨i=2∨i=3∨i=4:=by omega
  all_goals omega)
 intro i hi;obtain rfl|rfl|rfl|rfl|rfl:i=0∨i=1∨i=2∨i=3∨i=4:=by omega
 all_goals omega
def carK(w:List (BitVec 64)):Nat→List (BitVec 64)
 |0=>w
 |k+1=>carr (carK w k)
theorem lu(w:List (BitVec 64))(k:Nat)(h:carr (carK w k)=carK w k): ∀j,carK w (k+j)=carK w k
 |0=>rfl
 |j+1=>by rw[←Nat.add_assoc,carK,lu w k h j,h]
theorem Jn(w:List (BitVec 64))(hw: ∀i,i<5→pn w i<2^60):carr (carK w 3)=carK w 3:=AS _ rfl (qa w hw)
theorem Gq(w:List (BitVec 64))(hw: ∀i,i<5→pn w i<2^60)(k:Nat)(h:carr (carK w k)=carK w k):carK w k=carK w 3:=by
 by_cases hk:k≤3
 ·have:=lu w k h (3-k);rw[show k+(3-k)=3 by omega]at this;exact this.symm
 ·have:=lu w 3 (Jn w hw) (k-3);rw[show 3+(k-3)=k by omega]at this;exact this
def topB(w:List (BitVec 64)):Bool:=nth w 1==msk&&nth w 2==msk&&nth w 3==msk&&nth w 4==msk&&decide (67108858<(nth w 0).toNat)
def km(w:List (BitVec 64)):List (BitVec 64):=if topB w then [nth w 0-67108859#64,0#64,0#64,0#64,0#64]else w
def BJ(w:List (BitVec 64)):List (BitVec 64):=km (carK w 3)
def to32(w:List (BitVec 64)):List (BitVec 32):=w.map fun x=>x.setWidth 32
def to64(w:List (BitVec 32)):List (BitVec 64):=w.map fun x=>x.setWidth 64
def fw(w:List (BitVec 64)):List (BitVec 32):=to32 (BJ w)
theorem yD(w:List (BitVec 64))(h:iC w):iC (km w):=by
 unfold km
 split
 ·intro i hi;have h0:=h 0 (by omega);obtain rfl|rfl|rfl|rfl|rfl:i=0∨i=1∨i=2∨i=3∨i=4:=by omega
  ·rename_i hb;simp only[topB,Bool.and_eq_true,decide_eq_true_eq]at hb;have h5:=hb.2;unfold pn at h0⊢;show(nth w 0-67108859#64).toNat<_;rw[BitVec.toNat_sub];simp;omega
  all_goals (show(0#64).toNat<_;decide)
 ·exact h
theorem nI(w:List (BitVec 64))(h:w.length=5):(km w).length=5:=by
 unfold km;split
 ·rfl
 ·exact h
theorem yF(w:List (BitVec 64))(hw: ∀i,i<5→pn w i<2^60):iC (BJ w):=yD _ (qa w hw)
theorem nJ(w:List (BitVec 64)):(BJ w).length=5:=nI _ rfl
@[simp] theorem fj(w:List (BitVec 64)):(fw w).length=5:=by simp[fw,to32,nJ]
@[simp] theorem cW(w:List (BitVec 32)):(to64 w).length=w.length:=by simp[to64]
theorem BK(w:List (BitVec 32))(i:Nat):pn (to64 w) i=(nth w i).toNat:=by
 unfold pn nth to64;by_cases h:i<w.length
 ·simp[List.getD_eq_getElem?_getD,h];omega
 ·simp[List.getD_eq_getElem?_getD,h]
def cd(n p:Nat):Nat:=min ((n+p-1)/p*p) 255
def cX(s:Y8)(p:Nat):Y8:=s++ac 8 (cd s.length p-s.length)
def bT(s:Y8):Prop:=1≤s.length∧s.length≤255∧ ∀i,i<s.length→nth s i≠0#8
instance (s:Y8):Decidable (bT s):=inferInstanceAs (Decidable (_∧_∧_))
def fp(n p:Nat):Prop:=1≤n∧n≤255∧(n %p=0∨n=255)
instance (n p:Nat):Decidable (fp n p):=inferInstanceAs (Decidable (_∧_∧_))
def cY(p:Nat):Prop:=p=16∨p=32∨p=64
instance (p:Nat):Decidable (cY p):=inferInstanceAs (Decidable (_∨_∨_))
def ko(b:Y8):Nat→Nat
 |0=>0
 |k+1=>if nth b k=0#8 then ko b k else k+1
def cutN(b:Y8):Y8:=b.take (ko b b.length)
theorem vj(n p:Nat)(hp:cY p)(hn:n≤255):n≤cd n p:=by
 unfold cd;rcases hp with rfl|rfl|rfl<;>omega
theorem yG(n p:Nat)(hp:cY p)(h1:1≤n)(hn:n≤255):fp (cd n p) p:=by
 unfold cd fp;rcases hp with rfl|rfl|rfl<;>omega
theorem ct(s:Y8)(p:Nat)(hp:cY p)(h:s.length≤255):(cX s p).length=cd s.length p:=by
 have:=vj s.length p hp h;rw[cX,List.length_append,ah];omega
theorem NG(b:Y8): ∀k,ko b k≤k
 |0=>Nat.le_refl _
 |k+1=>by
  unfold ko
  split
  ·exact Nat.le_succ_of_le (NG b k)
  ·exact Nat.le_refl _
theorem NH(b:Y8): ∀k i,ko b k≤i→i<k→nth b i=0#8
 |0,i,_,h=>by omega
 |k+1,i,h,hi=>by
  unfold ko at h
  split at h
  ·rename_i e;by_cases hk:i=k
   ·rw[hk];exact e
   ·exact NH b k i h (by omega)
  ·omega
theorem NR(b:Y8):(cutN b).length=ko b b.length:=by
 have:=NG b b.length;rw[cutN,List.length_take];omega
theorem NS(b:Y8):cutN b++ac 8 (b.length-(cutN b).length)=b:=by
 have hle:=NG b b.length;have hl:=NR b;apply aO
 ·rw[List.length_append,ah];omega
 ·intro i hi;rw[List.length_append,ah]at hi;rw[bK,hl]
  split
  ·rename_i h;rw[cutN,br _ _ _ h]
  ·rename_i h;rw[dg,NH b b.length i (by omega) (by omega)]
theorem vk(s:Y8)(m:Nat)(h:s≠ [])(hl:nth s (s.length-1)≠0#8): ∀k,s.length≤k→k≤s.length+m→ko (s++ac 8 m) k=s.length
 |0,h1,_=>by
  have:=List.length_pos_iff.2 h;omega
 |k+1,h1,h2=>by
  unfold ko;rw[bK];by_cases e:k<s.length
  ·have hk:k=s.length-1:=by omega
   rw[if_pos e,hk,if_neg hl];omega
  ·rw[if_neg e,dg,if_pos rfl];exact vk s m h hl k (by omega) (by omega)
theorem yH(s:Y8)(p:Nat)(h:bT s):cutN (cX s p)=s:=by
 obtain⟨h1,h2,h3⟩:=h;have hne:s≠ []:=by intro e;rw[e]at h1;simp at h1
 have hl:ko (cX s p) (cX s p).length=s.length:=vk s (cd s.length p-s.length) hne (h3 _ (by omega)) (cX s p).length (by rw[cX,List.length_append];omega) (by rw[cX,List.length_append,ah];omega);rw[cutN,hl,cX,List.take_left' rfl]
def nK(b:Y8)(p:Nat):Prop:=bT (cutN b)∧cd (cutN b).length p=b.length
instance (b:Y8) (p:Nat):Decidable (nK b p):=inferInstanceAs (Decidable (_∧_))
theorem NW(b:Y8)(p:Nat)(h:nK b p):cX (cutN b) p=b:=by
 have hc:=NS b;rw[cX,h.2,hc]
theorem yI(s:Y8)(p:Nat)(hp:cY p)(h:bT s):nK (cX s p) p:=by
 unfold nK;rw[yH s p h,ct s p hp h.2.1];exact⟨h,rfl⟩
def jW(s:Y8):Bool:=s.all fun b=>b !=0#8
theorem AU(s:Y8):jW s=true↔ ∀i,i<s.length→nth s i≠0#8:=by
 unfold jW;rw[List.all_eq_true];constructor
 ·intro h i hi;have:=h (nth s i) (by rw[←mI hi];exact List.getElem_mem hi);simpa using this
 ·intro h b hb;obtain⟨i,hi,rfl⟩:=List.getElem_of_mem hb;have:=h i hi;rw[mI hi];simpa using this
theorem yJ(s:Y8):bT s↔1≤s.length∧s.length≤255∧jW s=true:=by
 rw[AU];exact Iff.rfl
end Go.Proofs.YtddkbkbpogcffaaGreatDoor
