/-prime:parts carried and put in form,plain-/
import Derived.Test.YtlpkfdkhlffmlaaGreatDoorMGa
namespace Go.Proofs.YtlpkfdkhlffmlaaGreatDoor
set_option linter.unusedSimpArgs false
set_option linter.unusedVariables false
set_option maxRecDepth 100000
set_option maxHeartbeats 1600000
def msk:BitVec 64:=67108863#64
def cq0(w:List (BitVec 64)):BitVec 64:=nth w 0+0#64
def cq1(w:List (BitVec 64)):BitVec 64:=nth w 1+(cq0 w>>>26)
def cq2(w:List (BitVec 64)):BitVec 64:=nth w 2+(cq1 w>>>26)
def cq3(w:List (BitVec 64)):BitVec 64:=nth w 3+(cq2 w>>>26)
def cq4(w:List (BitVec 64)):BitVec 64:=nth w 4+(cq3 w>>>26)
def carr(w:List (BitVec 64)):List (BitVec 64):=
 [(cq0 w&&&msk)+5#64*(cq4 w>>>26),cq1 w&&&msk,cq2 w&&&msk,cq3 w&&&msk,cq4 w&&&msk]
@[simp] theorem qc(w:List (BitVec 64)):(carr w).length=5:=rfl
theorem gD(x:BitVec 64):(x&&&msk).toNat=x.toNat %67108864:=by
 rw[BitVec.toNat_and,show msk.toNat=2^26-1 from rfl,Nat.and_two_pow_sub_one_eq_mod]
theorem qd(x:BitVec 64):(x>>>26).toNat=x.toNat/67108864:=by
 rw[BitVec.toNat_ushiftRight,Nat.shiftRight_eq_div_pow]
def pn(w:List (BitVec 64))(i:Nat):Nat:=(nth w i).toNat
structure CarN(w:List (BitVec 64))(a0 a1 a2 a3 a4 c:Nat):Prop where
 h0:a0=pn w 0
 h1:a1=pn w 1+a0/67108864
 h2:a2=pn w 2+a1/67108864
 h3:a3=pn w 3+a2/67108864
 h4:a4=pn w 4+a3/67108864
 r0:pn (carr w) 0=a0 %67108864+5*(a4/67108864)
 r1:pn (carr w) 1=a1 %67108864
 r2:pn (carr w) 2=a2 %67108864
 r3:pn (carr w) 3=a3 %67108864
 r4:pn (carr w) 4=a4 %67108864
theorem carN(w:List (BitVec 64))(hw: ∀i,i<5→pn w i<2^60): ∃a0 a1 a2 a3 a4,CarN w a0 a1 a2 a3 a4 0:=by
 have b0:=hw 0 (by omega);have b1:=hw 1 (by omega);have b2:=hw 2 (by omega);have b3:=hw 3 (by omega);have b4:=hw 4 (by omega);unfold pn at b0 b1 b2 b3 b4;have e0:(cq0 w).toNat=(nth w 0).toNat:=by rw[cq0,BitVec.toNat_add];simp;omega
 have e1:(cq1 w).toNat=(nth w 1).toNat+(cq0 w).toNat/67108864:=by rw[cq1,BitVec.toNat_add,qd];omega
 have e2:(cq2 w).toNat=(nth w 2).toNat+(cq1 w).toNat/67108864:=by rw[cq2,BitVec.toNat_add,qd];omega
 have e3:(cq3 w).toNat=(nth w 3).toNat+(cq2 w).toNat/67108864:=by rw[cq3,BitVec.toNat_add,qd];omega
 have e4:(cq4 w).toNat=(nth w 4).toNat+(cq3 w).toNat/67108864:=by rw[cq4,BitVec.toNat_add,qd];omega
 refine⟨_,_,_,_,_,e0,e1,e2,e3,e4,?_,gD _,gD _,gD _,gD _⟩;show((cq0 w&&&msk)+5#64*(cq4 w>>>26)).toNat=_;rw[BitVec.toNat_add,BitVec.toNat_mul,gD,qd,show(5#64).toNat=5 from rfl];omega
theorem uM(w v:List (BitVec 64))(hv:v.length=5)(hw:w.length=5)(h: ∀i,i<5→pn w i=pn v i):w=v:=by
 apply List.ext_getElem (by omega);intro i h1 h2;have:=h i (by omega);unfold pn nth at this;apply BitVec.eq_of_toNat_eq;simpa[List.getD_eq_getElem?_getD,h1,h2]using this
def eb(w:List (BitVec 64)):Prop:= ∀i,i<5→pn w i<67108864
theorem sw(w:List (BitVec 64))(hl:w.length=5)(h:eb w):carr w=w:=by
 obtain⟨a0,a1,a2,a3,a4,H⟩:=carN w (fun i hi=>by have:=h i hi;omega);have b0:=h 0 (by omega);have b1:=h 1 (by omega);have b2:=h 2 (by omega);have b3:=h 3 (by omega);have b4:=h 4 (by omega);obtain⟨h0,h1,h2,h3,h4,r0,r1,r2,r3,r4⟩:=H;refine uM _ _ hl rfl fun i hi=> ?_;obtain rfl|rfl|rfl|rfl|rfl:i=0∨i=1∨i=2∨i=3∨i=4:=by omega
 all_goals omega
theorem kp(w:List (BitVec 64))(hw: ∀i,i<5→pn w i<2^60):eb (carr (carr (carr w))):=by
 obtain⟨a0,a1,a2,a3,a4,h0,h1,h2,h3,h4,r0,r1,r2,r3,r4⟩:=carN w hw;have b0:=hw 0 (by omega);have b1:=hw 1 (by omega);have b2:=hw 2 (by omega);have b3:=hw 3 (by omega);have b4:=hw 4 (by omega);have q0:pn (carr w) 0<2^38:=by omega
 have q1:pn (carr w) 1<67108864:=by omega
 have q2:pn (carr w) 2<67108864:=by omega
 have q3:pn (carr w) 3<67108864:=by omega
 have q4:pn (carr w) 4<67108864:=by omega
 clear h0 h1 h2 h3 h4 r0 r1 r2 r3 r4 b0 b1 b2 b3 b4 hw;generalize carr w=v at*;obtain⟨a0,a1,a2,a3,a4,h0,h1,h2,h3,h4,r0,r1,r2,r3,r4⟩:=carN v (fun i hi=>by
  obtain rfl|rfl|rfl|rfl|rfl:i=0∨i=1∨i=2∨i=3∨i=4:=by omega
  all_goals omega)
 have p0:pn (carr v) 0<67108869:=by omega
 have p1:pn (carr v) 1<67108864:=by omega
 have p2:pn (carr v) 2<67108864:=by omega
 have p3:pn (carr v) 3<67108864:=by omega
 have p4:pn (carr v) 4<67108864:=by omega
 clear h0 h1 h2 h3 h4 r0 r1 r2 r3 r4 q0 q1 q2 q3 q4;generalize carr v=u at*;obtain⟨a0,a1,a2,a3,a4,h0,h1,h2,h3,h4,r0,r1,r2,r3,r4⟩:=carN u (fun i hi=>by
  obtain rfl|rfl|rfl|rfl|rfl:i=0∨i=1∨i=2∨i=3∨i=4:=by omega
  all_goals omega)
 intro i hi;obtain rfl|rfl|rfl|rfl|rfl:i=0∨i=1∨i=2∨i=3∨i=4:=by omega
 all_goals omega
def carK(w:List (BitVec 64)):Nat→List (BitVec 64)
 |0=>w
 |k+1=>carr (carK w k)
theorem gF(w:List (BitVec 64))(k:Nat)(h:carr (carK w k)=carK w k): ∀j,carK w (k+j)=carK w k
 |0=>rfl
 |j+1=>by rw[←Nat.add_assoc,carK,gF w k h j,h]
theorem yB(w:List (BitVec 64))(hw: ∀i,i<5→pn w i<2^60):carr (carK w 3)=carK w 3:=sw _ rfl (kp w hw)
theorem wM(w:List (BitVec 64))(hw: ∀i,i<5→pn w i<2^60)(k:Nat)(h:carr (carK w k)=carK w k):carK w k=carK w 3:=by
 by_cases hk:k≤3
 ·have:=gF w k h (3-k);rw[show k+(3-k)=3 by omega]at this;exact this.symm
 ·have:=gF w 3 (yB w hw) (k-3);rw[show 3+(k-3)=k by omega]at this;exact this
def topB(w:List (BitVec 64)):Bool:=nth w 1==msk&&nth w 2==msk&&nth w 3==msk&&nth w 4==msk&&decide (67108858<(nth w 0).toNat)
def fI(w:List (BitVec 64)):List (BitVec 64):=if topB w then [nth w 0-67108859#64,0#64,0#64,0#64,0#64]else w
def tj(w:List (BitVec 64)):List (BitVec 64):=fI (carK w 3)
def to32(w:List (BitVec 64)):List (BitVec 32):=w.map fun x=>x.setWidth 32
def to64(w:List (BitVec 32)):List (BitVec 64):=w.map fun x=>x.setWidth 64
def cR(w:List (BitVec 64)):List (BitVec 32):=to32 (tj w)
theorem qe(w:List (BitVec 64))(h:eb w):eb (fI w):=by
 unfold fI
 split
 ·intro i hi;have h0:=h 0 (by omega);obtain rfl|rfl|rfl|rfl|rfl:i=0∨i=1∨i=2∨i=3∨i=4:=by omega
  ·rename_i hb;simp only[topB,Bool.and_eq_true,decide_eq_true_eq]at hb;have h5:=hb.2;unfold pn at h0⊢;show(nth w 0-67108859#64).toNat<_;rw[BitVec.toNat_sub];simp;omega
  all_goals (show(0#64).toNat<_;decide)
 ·exact h
theorem jd(w:List (BitVec 64))(h:w.length=5):(fI w).length=5:=by
 unfold fI;split
 ·rfl
 ·exact h
theorem qf(w:List (BitVec 64))(hw: ∀i,i<5→pn w i<2^60):eb (tj w):=qe _ (kp w hw)
theorem je(w:List (BitVec 64)):(tj w).length=5:=jd _ rfl
@[simp] theorem cO(w:List (BitVec 64)):(cR w).length=5:=by simp[cR,to32,je]
@[simp] theorem bC(w:List (BitVec 32)):(to64 w).length=w.length:=by simp[to64]
theorem tk(w:List (BitVec 32))(i:Nat):pn (to64 w) i=(nth w i).toNat:=by
 unfold pn nth to64;by_cases h:i<w.length
 ·simp[List.getD_eq_getElem?_getD,h];omega
 ·simp[List.getD_eq_getElem?_getD,h]
def bV(n p:Nat):Nat:=min ((n+p-1)/p*p) 255
def cp(s:Y8)(p:Nat):Y8:=s++aa 8 (bV s.length p-s.length)
def aH(s:Y8):Prop:=1≤s.length∧s.length≤255∧ ∀i,i<s.length→nth s i≠0#8
instance (s:Y8):Decidable (aH s):=inferInstanceAs (Decidable (_∧_∧_))
def zN(n p:Nat):Prop:=1≤n∧n≤255∧(n %p=0∨n=255)
instance (n p:Nat):Decidable (zN n p):=inferInstanceAs (Decidable (_∧_∧_))
def gg(p:Nat):Prop:=p=16∨p=32∨p=64
instance (p:Nat):Decidable (gg p):=inferInstanceAs (Decidable (_∨_∨_))
def qg(b:Y8):Nat→Nat
 |0=>0
 |k+1=>if nth b k=0#8 then qg b k else k+1
def cutN(b:Y8):Y8:=b.take (qg b b.length)
theorem ns(n p:Nat)(hp:gg p)(hn:n≤255):n≤bV n p:=by
 unfold bV;rcases hp with rfl|rfl|rfl<;>omega
theorem dD(s:Y8)(p:Nat)(hp:gg p)(h:s.length≤255):(cp s p).length=bV s.length p:=by
 have:=ns s.length p hp h;rw[cp,List.length_append,af];omega
theorem nt(s:Y8)(m:Nat)(h:s≠ [])(hl:nth s (s.length-1)≠0#8): ∀k,s.length≤k→k≤s.length+m→qg (s++aa 8 m) k=s.length
 |0,h1,_=>by
  have:=List.length_pos_iff.2 h;omega
 |k+1,h1,h2=>by
  unfold qg;rw[bO];by_cases e:k<s.length
  ·have hk:k=s.length-1:=by omega
   rw[if_pos e,hk,if_neg hl];omega
  ·rw[if_neg e,cT,if_pos rfl];exact nt s m h hl k (by omega) (by omega)
theorem qh(s:Y8)(p:Nat)(h:aH s):cutN (cp s p)=s:=by
 obtain⟨h1,h2,h3⟩:=h;have hne:s≠ []:=by intro e;rw[e]at h1;simp at h1
 have hl:qg (cp s p) (cp s p).length=s.length:=nt s (bV s.length p-s.length) hne (h3 _ (by omega)) (cp s p).length (by rw[cp,List.length_append];omega) (by rw[cp,List.length_append,af];omega);rw[cutN,hl,cp,List.take_left' rfl]
def ya(b:Y8)(p:Nat):Prop:=aH (cutN b)∧bV (cutN b).length p=b.length
instance (b:Y8) (p:Nat):Decidable (ya b p):=inferInstanceAs (Decidable (_∧_))
theorem uN(s t:Y8)(p:Nat)(hs:aH s)(ht:aH t)(h:cp s p=cp t p):s=t:=by
 rw[←qh s p hs,h,qh t p ht]
def fy(s:Y8):Bool:=s.all fun b=>b !=0#8
theorem sx(s:Y8):fy s=true↔ ∀i,i<s.length→nth s i≠0#8:=by
 unfold fy;rw[List.all_eq_true];constructor
 ·intro h i hi;have:=h (nth s i) (by rw[←iB hi];exact List.getElem_mem hi);simpa using this
 ·intro h b hb;obtain⟨i,hi,rfl⟩:=List.getElem_of_mem hb;have:=h i hi;rw[iB hi];simpa using this
theorem qi(s:Y8):aH s↔1≤s.length∧s.length≤255∧fy s=true:=by
 rw[sx];exact Iff.rfl
end Go.Proofs.YtlpkfdkhlffmlaaGreatDoor
