/-ezcore (plain):what Turn computes,and that it undoes itself the other way-/
import Derived.Test.YtddkbkbpogcffaaGreatDoorMGf
namespace Go.Proofs.YtddkbkbpogcffaaGreatDoor
set_option linter.unusedSimpArgs false
set_option linter.unusedVariables false
set_option maxRecDepth 100000
set_option maxHeartbeats 1600000
theorem uY(a b:Y8):ar a b=ar b a:=ei fun _ _=>BitVec.xor_comm _ _
theorem uZ(a b c:Y8):ar (ar a b) c=ar a (ar b c):=ei fun i hi=>by
 rw[ar,ar,bP _ _ hi,bP _ _ hi,BitVec.xor_assoc]
instance:Std.Associative (α:=Y8) ar:=⟨uZ⟩
instance:Std.Commutative (α:=Y8) ar:=⟨uY⟩
theorem jT(a:Y8):ar a a=ac 8 16:=by
 rw[ar];refine(ei (g:=fun _=>0#8) fun i _=>BitVec.xor_self).trans ?_;rfl
theorem gM(a:Y8)(h:a.length=16):ar a (ac 8 16)=a:=by
 rw[ar,←eF a h];refine ei fun i hi=> ?_;rw[bP _ _ hi,dg,BitVec.xor_zero]
theorem dQ(a b:Y8)(h:a.length=16):ar (ar a b) b=a:=by
 rw[uZ,jT,gM _ h]
theorem tg(t h q e:Y8)(ht:t.length=16):ar (ar (ar (ar (ar (ar t h) q) e) h) q) e=t:=by
 rw[show ar (ar (ar (ar (ar (ar t h) q) e) h) q) e=ar (ar (ar t (ar h h)) (ar q q)) (ar e e) by ac_rfl];rw[jT,jT,jT,gM _ ht,gM _ ht,gM _ ht]
def iQ(f:Nat→Y8):Nat→Y8
 |0=>[]
 |k+1=>iQ f k++f k
def xsum(g:Nat→Y8):Nat→Y8
 |0=>ac 8 16
 |k+1=>ar (xsum g k) (g k)
theorem gN(f:Nat→Y8)(hf: ∀i,(f i).length=32): ∀k,(iQ f k).length=32*k
 |0=>rfl
 |k+1=>by rw[iQ,List.length_append,gN f hf k,hf];omega
theorem eD(g:Nat→Y8): ∀k,(xsum g k).length=16
 |0=>rfl
 |_+1=>ak _ _
theorem pT(f g:Nat→Y8): ∀k,(∀i,i<k→f i=g i)→iQ f k=iQ g k
 |0,_=>rfl
 |k+1,h=>by rw[iQ,iQ,pT f g k (fun i hi=>h i (by omega)),h k (by omega)]
theorem mx(f g:Nat→Y8): ∀k,(∀i,i<k→f i=g i)→xsum f k=xsum g k
 |0,_=>rfl
 |k+1,h=>by rw[xsum,xsum,mx f g k (fun i hi=>h i (by omega)),h k (by omega)]
theorem kR(f:Nat→Y8)(hf: ∀i,(f i).length=32)(R:Y8): ∀(k i:Nat),i<k→((iQ f k++R).drop (32*i)).take 32=f i
 |0,i,h=>by omega
 |k+1,i,h=>by
  rw[iQ,List.append_assoc];by_cases e:i=k
  ·subst e;rw[List.drop_left' (gN f hf i),List.take_left' (hf i)]
  ·have:=kR f hf (f k++R) k i (by omega);exact this
theorem ti(L:Y8): ∀k,32*k≤L.length→iQ (fun i=>(L.drop (32*i)).take 32) k=L.take (32*k)
 |0,_=>by simp[iQ]
 |k+1,h=>by
  rw[iQ,ti L k (by omega),show 32*(k+1)=32*k+32 by omega,List.take_add]
theorem my(L _R:Y8)(i:Nat):aI L (2*i)=(((L.drop (32*i)).take 32)).take 16:=by
 rw[aI,List.take_take,show 2*i*16=32*i by omega];rfl
theorem oM(L _R:Y8)(i:Nat):aI L (2*i+1)=(((L.drop (32*i)).take 32)).drop 16:=by
 rw[aI,List.drop_take,List.drop_drop,show(2*i+1)*16=32*i+16 by omega]
section
variable (E:Int→Nat→Y8→Y8)
def wE(P:Y8)(i:Nat):Y8:=ar (aI P (2*i)) (E 1 (i+1) (aI P (2*i+1)))
def xE(P:Y8)(i:Nat):Y8:=ar (aI P (2*i+1)) (E 0 0 (wE E P i))
def yE(z P:Y8)(i:Nat):Y8:=ar (aI P (2*i)) (E 2 (i+1) z)
def vE(z P:Y8)(i:Nat):Y8:=ar (aI P (2*i+1)) (E 2 (i+1) z)
def sE(z P:Y8)(i:Nat):Y8:=ar (yE E z P i) (E 0 0 (vE E z P i))
def fE(z P:Y8)(i:Nat):Y8:=ar (vE E z P i) (E 1 (i+1) (sE E z P i))
def bB(P:Y8)(n:Nat):Y8:=iQ (fun i=>wE E P i++xE E P i) n
def bF(z P:Y8)(n:Nat):Y8:=iQ (fun i=>fE E z P i++sE E z P i) n
theorem ju(a b c d:Y8):(ar a b++ar c d).length=32:=by rw[List.length_append,ak,ak]
theorem nD(P:Y8)(n i:Nat)(hi:i<n):aI (bB E P n) (2*i)=wE E P i:=by
 have h:=kR (fun i=>wE E P i++xE E P i) (fun i=>ju _ _ _ _) [] n i hi;rw[List.append_nil]at h;rw[my _ [],bB,h];exact List.take_left' (ak _ _)
theorem tj(P:Y8)(n i:Nat)(hi:i<n):aI (bB E P n) (2*i+1)=xE E P i:=by
 have h:=kR (fun i=>wE E P i++xE E P i) (fun i=>ju _ _ _ _) [] n i hi;rw[List.append_nil]at h;rw[oM _ [],bB,h];exact List.drop_left' (ak _ _)
theorem DH(z P:Y8)(n i:Nat)(hi:i<n):aI (bF E z P n) (2*i)=fE E z P i:=by
 have h:=kR (fun i=>fE E z P i++sE E z P i) (fun i=>ju _ _ _ _) [] n i hi;rw[List.append_nil]at h;rw[my _ [],bF,h];exact List.take_left' (ak _ _)
theorem vb(z P:Y8)(n i:Nat)(hi:i<n):aI (bF E z P n) (2*i+1)=sE E z P i:=by
 have h:=kR (fun i=>fE E z P i++sE E z P i) (fun i=>ju _ _ _ _) [] n i hi;rw[List.append_nil]at h;rw[oM _ [],bF,h];exact List.drop_left' (ak _ _)
theorem lW(P:Y8)(n:Nat):(bB E P n).length=32*n:=gN _ (fun _=>ju _ _ _ _) n
theorem iA(z P:Y8)(n:Nat):(bF E z P n).length=32*n:=gN _ (fun _=>ju _ _ _ _) n
theorem KD(P:Y8)(i:Nat):(wE E P i).length=16:=ak _ _
theorem Gl(P:Y8)(i:Nat):(xE E P i).length=16:=ak _ _
theorem KE(z P:Y8)(i:Nat):(yE E z P i).length=16:=ak _ _
theorem KF(z P:Y8)(i:Nat):(vE E z P i).length=16:=ak _ _
theorem AH(z P:Y8)(n i:Nat)(hi:i<n):wE E (bF E z (bB E P n) n) i=ar (xE E P i) (E 2 (i+1) z):=by
 rw[wE,DH E _ _ _ _ hi,vb E _ _ _ _ hi,fE,dQ _ _ (KF E _ _ _),vE,tj E _ _ _ hi]
theorem Gm(z P:Y8)(n i:Nat)(hi:i<n):xE E (bF E z (bB E P n) n) i=ar (wE E P i) (E 2 (i+1) z):=by
 rw[xE,AH E _ _ _ _ hi,vb E _ _ _ _ hi,sE];rw[show vE E z (bB E P n) i=ar (xE E P i) (E 2 (i+1) z) by rw[vE,tj E _ _ _ hi],dQ _ _ (KE E _ _ _),yE,nD E _ _ _ hi]
theorem DI(z P:Y8)(n:Nat)(hP:P.length=32*n):bF E z (bB E (bF E z (bB E P n) n) n) n=P:=by
 have h0: ∀i,i<n→vE E z (bB E (bF E z (bB E P n) n) n) i=wE E P i:=fun i hi=>by
  rw[vE,tj E _ _ _ hi,Gm E _ _ _ _ hi,dQ _ _ (KD E _ _)]
 have h1: ∀i,i<n→sE E z (bB E (bF E z (bB E P n) n) n) i=aI P (2*i+1):=fun i hi=>by
  rw[sE,h0 i hi,yE,nD E _ _ _ hi,AH E _ _ _ _ hi,dQ _ _ (Gl E _ _),xE,dQ];rw[aI,List.length_take,List.length_drop,hP];omega
 have h2: ∀i,i<n→fE E z (bB E (bF E z (bB E P n) n) n) i=aI P (2*i):=fun i hi=>by
  rw[fE,h0 i hi,h1 i hi,wE,dQ];rw[aI,List.length_take,List.length_drop,hP];omega
 rw[bF,pT _ (fun i=>(P.drop (32*i)).take 32) n (fun i hi=> ?_),ti P n (by omega),List.take_of_length_le (by omega)];show fE E z _ i++sE E z _ i=_;rw[h1 i hi,h2 i hi,my _ [],oM _ [],List.take_append_drop]
theorem DJ(z P:Y8)(n:Nat):xsum (xE E (bF E z (bB E P n) n)) n=xsum (yE E z (bB E P n)) n:=
 mx _ _ n fun i hi=>by rw[Gm E _ _ _ _ hi,yE,nD E _ _ _ hi]
theorem AI(z P:Y8)(n:Nat):xsum (yE E z (bB E (bF E z (bB E P n) n) n)) n=xsum (xE E P) n:=
 mx _ _ n fun i hi=>by rw[yE,nD E _ _ _ hi,AH E _ _ _ _ hi,dQ _ _ (Gl E _ _)]
variable (T:Y8→Y8→Y8) (h:Y8) (a b n:Nat) (P u v x y:Y8)
def nE:Y8:=ar (ar (ar x h) (ar (xsum (xE E P) n) (T u v))) (E 0 a y)
theorem DK:(nE E T h a n P u v x y).length=16:=ak _ _
def pU:Y8:=ar y (E (-1) a (nE E T h a n P u v x y))
def pV:Y8:=ar (nE E T h a n P u v x y) (pU E T h a n P u v x y)
def ft:Y8:=bF E (pV E T h a n P u v x y) (bB E P n) n
def fg:Y8:=xorl u (E (-1) 4 (pV E T h a n P u v x y))
def fi:Y8:=xorl v (E (-1) 5 (pV E T h a n P u v x y))
def yn:Y8:=ar (xsum (yE E (pV E T h a n P u v x y) (bB E P n)) n) (T (fg E T h a n P u v x y) (fi E T h a n P u v x y))
def fu:Y8:=ar (nE E T h a n P u v x y) (E (-1) b (pU E T h a n P u v x y))
def fZ:Y8:=ar (ar (ar (pU E T h a n P u v x y) h) (yn E T h a n P u v x y)) (E 0 b (fu E T h a b n P u v x y))
theorem mz:nE E T h b n (ft E T h a n P u v x y) (fg E T h a n P u v x y) (fi E T h a n P u v x y) (fZ E T h a b n P u v x y) (fu E T h a b n P u v x y)=pU E T h a n P u v x y:=by
 rw[nE,ft,DJ,←yn,fZ];rw[show∀t q e:Y8,ar (ar (ar (ar (ar (ar t h) q) e) h) q) e=ar (ar (ar (ar (ar (ar t h) q) e) h) q) e from fun _ _ _=>rfl];exact tg _ _ _ _ (ak _ _)
theorem mA:pU E T h b n (ft E T h a n P u v x y) (fg E T h a n P u v x y) (fi E T h a n P u v x y) (fZ E T h a b n P u v x y) (fu E T h a b n P u v x y)=nE E T h a n P u v x y:=by
 rw[pU,mz,fu,dQ _ _ (DK E _ _ _ _ _ _ _ _ _)]
theorem jU:pV E T h b n (ft E T h a n P u v x y) (fg E T h a n P u v x y) (fi E T h a n P u v x y) (fZ E T h a b n P u v x y) (fu E T h a b n P u v x y)=pV E T h a n P u v x y:=by
 rw[pV,mz,mA,uY];rfl
theorem lq(l k:Y8)(hl:l.length≤k.length):xorl (xorl l k) k=l:=by
 apply aO
 ·rw[aJ,aJ];omega
 ·intro i hi;rw[aJ,aJ]at hi;rw[gY _ _ _ (by rw[aJ];omega),gY _ _ _ (by omega),BitVec.xor_assoc,BitVec.xor_self,BitVec.xor_zero]
theorem AJ(hP:P.length=32*n):ft E T h b n (ft E T h a n P u v x y) (fg E T h a n P u v x y) (fi E T h a n P u v x y) (fZ E T h a b n P u v x y) (fu E T h a b n P u v x y)=P:=by
 rw[ft,jU];exact DI E _ P n hP
theorem tl(hE: ∀j i x,(E j i x).length=16)(hu:u.length≤16):fg E T h b n (ft E T h a n P u v x y) (fg E T h a n P u v x y) (fi E T h a n P u v x y) (fZ E T h a b n P u v x y) (fu E T h a b n P u v x y)=u:=by
 rw[fg,jU];exact lq _ _ (by rw[hE];exact hu)
theorem tr(hE: ∀j i x,(E j i x).length=16)(hv:v.length≤16):fi E T h b n (ft E T h a n P u v x y) (fg E T h a n P u v x y) (fi E T h a n P u v x y) (fZ E T h a b n P u v x y) (fu E T h a b n P u v x y)=v:=by
 rw[fi,jU];exact lq _ _ (by rw[hE];exact hv)
theorem tt(hy:y.length=16):fu E T h b a n (ft E T h a n P u v x y) (fg E T h a n P u v x y) (fi E T h a n P u v x y) (fZ E T h a b n P u v x y) (fu E T h a b n P u v x y)=y:=by
 rw[fu,mz,mA,pU,dQ _ _ hy]
theorem AK(hE: ∀j i x,(E j i x).length=16)(hu:u.length≤16)(hv:v.length≤16):yn E T h b n (ft E T h a n P u v x y) (fg E T h a n P u v x y) (fi E T h a n P u v x y) (fZ E T h a b n P u v x y) (fu E T h a b n P u v x y)=ar (xsum (xE E P) n) (T u v):=by
 rw[yn,tl E T h a b n P u v x y hE hu,tr E T h a b n P u v x y hE hv,jU];rw[ft,AI]
theorem AL(hE: ∀j i x,(E j i x).length=16)(hu:u.length≤16)(hv:v.length≤16)(hx:x.length=16)(hy:y.length=16):fZ E T h b a n (ft E T h a n P u v x y) (fg E T h a n P u v x y) (fi E T h a n P u v x y) (fZ E T h a b n P u v x y) (fu E T h a b n P u v x y)=x:=by
 rw[fZ,mA,AK E T h a b n P u v x y hE hu hv,tt E T h a b n P u v x y hy,nE];exact tg _ _ _ _ hx
end
def dblF(a:Y8)(i:Nat):BitVec 8:=if i=15 then nth a 15<<<1^^^(nth a 0>>>7)*135#8 else nth a i<<<1|||nth a (i+1)>>>7
def dblB(a:Y8):Y8:=r16 (dblF a)
theorem iR(a:Y8):(dblB a).length=16:=by simp[dblB,r16]
def mulR(n:Nat)(out a:Y8):Y8:=
 if n=0 then out else mulR (n/2) (if n %2=1 then ar out a else out) (dblB a)
termination_by n
decreasing_by omega
theorem vc(out a:Y8):mulR 0 out a=out:=by rw[mulR,if_pos rfl]
theorem ve(n:Nat)(out a:Y8)(h:n≠0):mulR n out a=mulR (n/2) (if n %2=1 then ar out a else out) (dblB a):=by
 conv=>lhs;rw[mulR]
 rw[if_neg h]
theorem yo(n:Nat): ∀(out a:Y8),out.length=16→(mulR n out a).length=16:=by
 induction n using Nat.strongRecOn with
 |_ n ih=>
  intro out a h;by_cases e:n=0
  ·subst e;rw[vc];exact h
  ·rw[ve _ _ _ e];refine ih (n/2) (by omega) _ _ ?_
   split
   ·exact ak _ _
   ·exact h
def mulE(n:Nat)(a:Y8):Y8:=mulR n (ac 8 16) a
theorem kS(n:Nat)(a:Y8):(mulE n a).length=16:=yo n _ _ rfl
def dblN(a:Y8):Nat→Y8
 |0=>a
 |k+1=>dblB (dblN a k)
theorem pW(a:Y8)(h:a.length=16): ∀k,(dblN a k).length=16
 |0=>h
 |_+1=>iR _
def upE(i:Nat):Nat:=i/8+min (i %8) 1
def offE(I J L:Y8)(j i:Nat):Y8:=ar (ar (mulE j J) (dblN I (upE i))) (mulE (i %8) L)
def tenE(I J L:Y8):Y8:=I++J++L++I++J++L++I++J++L++I
def ezE(I J L:Y8)(j:Int)(i:Nat)(x:Y8):Y8:=
 if 0≤j then rnds (J++I++L++ac 8 16) (ar x (offE I J L j.toNat i)) 4 else rnds (tenE I J L) (ar x (mulE i L)) 10
theorem cZ(I J L:Y8)(j:Int)(i:Nat)(x:Y8):(ezE I J L j i x).length=16:=by
 unfold ezE
 split
 ·exact cU _ _ (ak _ _) _
 ·exact cU _ _ (ak _ _) _
def hbB(b:BitVec 8)(odd:Nat):BitVec 8:=if odd=1 then b&&&15#8 else(b>>>4)&&&15#8
def hbs(M:Y8)(p n:Nat):Y8:=(List.range n).map fun i=>hbB (nth M ((p+i)/2)) ((p+i) %2)
def twoN(a b:BitVec 8):BitVec 8:=(a&&&15#8)<<<4|||(b&&&15#8)
def eE(H:Y8):Y8:=(List.range ((H.length+1)/2)).map fun i=>twoN (nth H (2*i)) (nth H (2*i+1))
@[simp] theorem aL(M:Y8)(p n:Nat):(hbs M p n).length=n:=by simp[hbs]
@[simp] theorem cV(H:Y8):(eE H).length=(H.length+1)/2:=by simp[eE]
theorem iT(M:Y8)(p n i:Nat)(h:i<n):nth (hbs M p n) i=hbB (nth M ((p+i)/2)) ((p+i) %2):=dZ _ i h
theorem oN(H:Y8)(i:Nat)(h:i<(H.length+1)/2):nth (eE H) i=twoN (nth H (2*i)) (nth H (2*i+1)):=dZ _ i h
theorem Ir: ∀b:BitVec 8,twoN (hbB b 0) (hbB b 1)=b:=of_decide_eq_true (by kernel_rfl)
theorem Gn: ∀b:BitVec 8,(hbB b 0).toNat<16∧(hbB b 1).toNat<16:=of_decide_eq_true (by kernel_rfl)
theorem It(a b:BitVec 8)(ha:a.toNat<16)(hb:b.toNat<16):hbB (twoN a b) 0=a∧hbB (twoN a b) 1=b:=by
 have h: ∀x y:Fin 16,hbB (twoN (BitVec.ofNat 8 x.1) (BitVec.ofNat 8 y.1)) 0=BitVec.ofNat 8 x.1∧hbB (twoN (BitVec.ofNat 8 x.1) (BitVec.ofNat 8 y.1)) 1=BitVec.ofNat 8 y.1:=of_decide_eq_true (by kernel_rfl);have:=h ⟨a.toNat,ha⟩ ⟨b.toNat,hb⟩;simpa using this
theorem Iu(M:Y8)(n m:Nat):hbs M 0 n++hbs M n m=hbs M 0 (n+m):=by
 apply aO
 ·simp
 ·intro i hi;rw[List.length_append,aL,aL]at hi;rw[bK,aL,iT _ _ _ _ hi];by_cases h:i<n
  ·rw[if_pos h,iT _ _ _ _ h]
  ·rw[if_neg h,iT _ _ _ _ (by omega),show n+(i-n)=0+i by omega]
theorem yp(M:Y8):eE (hbs M 0 M.length++hbs M M.length M.length)=M:=by
 rw[Iu];apply aO
 ·rw[cV,aL];omega
 ·intro i hi;rw[cV,aL]at hi;rw[oN _ _ (by rw[aL];exact hi),iT _ _ _ _ (by omega),iT _ _ _ _ (by omega)];rw[show(0+2*i)/2=i by omega,show(0+(2*i+1))/2=i by omega,show(0+2*i) %2=0 by omega,show(0+(2*i+1)) %2=1 by omega,Ir]
def dw(H:Y8):Prop:= ∀i,i<H.length→(nth H i).toNat<16
theorem jv(M:Y8)(p n:Nat):dw (hbs M p n):=by
 intro i hi;rw[aL]at hi;rw[iT _ _ _ _ hi];have h:=Gn (nth M ((p+i)/2));have:(p+i) %2=0∨(p+i) %2=1:=by omega
 rcases this with e|e
 ·rw[e];exact h.1
 ·rw[e];exact h.2
theorem tu(a b:Y8)(ha:dw a)(hb:dw b):dw (xorl a b):=by
 intro i hi;rw[aJ]at hi;rw[gY _ _ _ hi];have h1:=ha i (by omega);have h2:=hb i (by omega);rw[BitVec.toNat_xor];exact Nat.xor_lt_two_pow (n:=4) h1 h2
theorem DL(a b:Y8)(ha:dw a)(hb:dw b):dw (a++b):=by
 intro i hi;rw[List.length_append]at hi;rw[bK]
 split
 ·rename_i h;exact ha i h
 ·exact hb _ (by omega)
theorem yq(a b:Y8)(n:Nat)(ha:dw a)(hb:dw b)(hla:a.length=n)(hlb:b.length=n):hbs (eE (a++b)) 0 n=a∧hbs (eE (a++b)) n n=b:=by
 have hs:=DL a b ha hb;have hl:(a++b).length=2*n:=by rw[List.length_append];omega
 have key: ∀k,k<2*n→hbB (nth (eE (a++b)) (k/2)) (k %2)=nth (a++b) k:=by
  intro k hk;rw[oN _ _ (by rw[hl];omega)];have h:=It (nth (a++b) (2*(k/2))) (nth (a++b) (2*(k/2)+1)) (hs _ (by omega)) (hs _ (by omega));have:k %2=0∨k %2=1:=by omega
  rcases this with e|e
  ·rw[e,h.1,show 2*(k/2)=k by omega]
  ·rw[e,h.2,show 2*(k/2)+1=k by omega]
 constructor
 ·apply aO
  ·rw[aL,hla]
  ·intro i hi;rw[aL]at hi;rw[iT _ _ _ _ hi,key (0+i) (by omega),bK,if_pos (by omega),Nat.zero_add]
 ·apply aO
  ·rw[aL,hlb]
  ·intro i hi;rw[aL]at hi;rw[iT _ _ _ _ hi,key (n+i) (by omega),bK,if_neg (by omega),show n+i-a.length=i by omega]
section
variable (S:Nat→Y8→Y8)
def encT:Nat→Y8×Y8→Y8×Y8
 |0,p=>p
 |j+1,p=>((encT j p).2,xorl (encT j p).1 (S j (encT j p).2))
def decT:Nat→Y8×Y8→Y8×Y8
 |0,p=>p
 |j+1,p=>decT j (p.2,xorl p.1 (S j p.2))
variable (n:Nat) (hS: ∀j x,x.length=n→(S j x).length=n)
include hS in
theorem nF: ∀(R:Nat) (p:Y8×Y8),p.1.length=n→p.2.length=n→(encT S R p).1.length=n∧(encT S R p).2.length=n
 |0,_,h1,h2=>⟨h1,h2⟩
 |j+1,p,h1,h2=>by
  have h:=nF j p h1 h2;exact⟨h.2,by rw[encT,aJ,h.1,hS j _ h.2];omega⟩
include hS in
theorem tv: ∀(R:Nat) (p:Y8×Y8),p.1.length=n→p.2.length=n→(decT S R p).1.length=n∧(decT S R p).2.length=n
 |0,_,h1,h2=>⟨h1,h2⟩
 |j+1,p,h1,h2=>tv j _ h2 (by rw[aJ,h1,hS j _ h2];omega)
include hS in
theorem yr: ∀(R:Nat) (p:Y8×Y8),p.1.length=n→p.2.length=n→decT S R ((encT S R p).2,(encT S R p).1)=(p.2,p.1)
 |0,_,_,_=>rfl
 |j+1,p,h1,h2=>by
  have h:=nF S n hS j p h1 h2;rw[decT];show decT S j ((encT S j p).2,xorl (xorl (encT S j p).1 (S j (encT S j p).2)) (S j (encT S j p).2))=_;rw[lq _ _ (by rw[h.1,hS j _ h.2];exact Nat.le_refl _)];exact yr j p h1 h2
theorem vf: ∀(R:Nat) (p:Y8×Y8),decT S (R+1) p=decT S R (p.2,xorl p.1 (S R p.2)):=fun _ _=>rfl
include hS in
theorem yt: ∀(R:Nat) (p:Y8×Y8),p.1.length=n→p.2.length=n→encT S R ((decT S R p).2,(decT S R p).1)=(p.2,p.1)
 |0,_,_,_=>rfl
 |j+1,p,h1,h2=>by
  rw[vf,encT];have hl:(xorl p.1 (S j p.2)).length=n:=by rw[aJ,h1,hS j _ h2];omega
  rw[yt j (p.2,xorl p.1 (S j p.2)) h2 hl];show(p.2,xorl (xorl p.1 (S j p.2)) (S j p.2))=_;rw[lq _ _ (by rw[h1,hS j _ h2];exact Nat.le_refl _)]
variable (hs: ∀j x,dw (S j x))
include hs in
theorem tx: ∀(R:Nat) (p:Y8×Y8),dw p.1→dw p.2→dw (encT S R p).1∧dw (encT S R p).2
 |0,_,h1,h2=>⟨h1,h2⟩
 |j+1,p,h1,h2=>by
  have h:=tx j p h1 h2;exact⟨h.2,tu _ _ h.1 (hs _ _)⟩
include hs in
theorem tz: ∀(R:Nat) (p:Y8×Y8),dw p.1→dw p.2→dw (decT S R p).1∧dw (decT S R p).2
 |0,_,h1,h2=>⟨h1,h2⟩
 |j+1,_,h1,h2=>tz j _ h2 (tu _ _ h1 (hs _ _))
def kj(R:Nat)(M:Y8):Y8:=
 eE ((encT S R (hbs M 0 M.length,hbs M M.length M.length)).2++(encT S R (hbs M 0 M.length,hbs M M.length M.length)).1)
def kT(R:Nat)(M:Y8):Y8:=
 eE ((decT S R (hbs M 0 M.length,hbs M M.length M.length)).2++(decT S R (hbs M 0 M.length,hbs M M.length M.length)).1)
include hS in
theorem nG(R:Nat)(M:Y8)(hM:M.length=n):(kj S R M).length=n:=by
 have h:=nF S n hS R (hbs M 0 M.length,hbs M M.length M.length) (by rw[aL,hM]) (by rw[aL,hM]);rw[kj,cV,List.length_append,h.1,h.2];omega
include hS in
theorem nH(R:Nat)(M:Y8)(hM:M.length=n):(kT S R M).length=n:=by
 have h:=tv S n hS R (hbs M 0 M.length,hbs M M.length M.length) (by rw[aL,hM]) (by rw[aL,hM]);rw[kT,cV,List.length_append,h.1,h.2];omega
include hS hs in
theorem DM(R:Nat)(M:Y8)(hM:M.length=n):kT S R (kj S R M)=M:=by
 have hl:=nF S n hS R (hbs M 0 M.length,hbs M M.length M.length) (by rw[aL,hM]) (by rw[aL,hM]);have hm:=tx S hs R (hbs M 0 M.length,hbs M M.length M.length) (jv _ _ _) (jv _ _ _);have hj:=yq _ _ n hm.2 hm.1 hl.2 hl.1;rw[kT,nG S n hS R M hM,kj,hj.1,hj.2,yr S n hS R _ (by rw[aL,hM]) (by rw[aL,hM]),yp]
include hS hs in
theorem AM(R:Nat)(M:Y8)(hM:M.length=n):kj S R (kT S R M)=M:=by
 have hl:=tv S n hS R (hbs M 0 M.length,hbs M M.length M.length) (by rw[aL,hM]) (by rw[aL,hM]);have hm:=tz S hs R (hbs M 0 M.length,hbs M M.length M.length) (jv _ _ _) (jv _ _ _);have hj:=yq _ _ n hm.2 hm.1 hl.2 hl.1;rw[kj,nH S n hS R M hM,kT,hj.1,hj.2,yt S n hS R _ (by rw[aL,hM]) (by rw[aL,hM]),yp]
end
end Go.Proofs.YtddkbkbpogcffaaGreatDoor
