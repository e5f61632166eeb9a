/-the field of 256 elements,AES's boxes,rounds and round keys,as plain functions;each step of a round has its way back. No program in sight. -/
import Derived.Test.YtlpkfdkhlffmlaaGreatDoorMGa
namespace Go.Proofs.YtlpkfdkhlffmlaaGreatDoor
set_option linter.unusedSimpArgs false
set_option linter.unusedVariables false
set_option maxRecDepth 100000
set_option maxHeartbeats 1600000
open Go.RowKit
def dbl(a:BitVec 8):BitVec 8:=a<<<1^^^(a>>>7)*27#8
def gm:Nat→BitVec 8→BitVec 8→BitVec 8
 |0,_,_=>0
 |k+1,a,b=>(a*(b&&&1#8))^^^gm k (dbl a) (b>>>1)
def gmul(a b:BitVec 8):BitVec 8:=gm 8 a b
theorem xh(b:BitVec 8):b&&&1#8=if b.getLsbD 0 then 1 else 0:=by
 revert b;exact of_decide_eq_true (by kernel_rfl)
theorem kE(a b:BitVec 8):a*(b&&&1#8)=if b.getLsbD 0 then a else 0:=by
 rw[xh];split
 ·exact BitVec.mul_one a
 ·exact BitVec.mul_zero
theorem sE: ∀(k:Nat) (a:BitVec 8),gm k a 0=0
 |0,_=>rfl
 |k+1,a=>by
  unfold gm;rw[show(0:BitVec 8)>>>1=0 from rfl,sE k,kE];simp
theorem vm: ∀(k:Nat) (a b c:BitVec 8),gm k a (b^^^c)=gm k a b^^^gm k a c
 |0,_,_,_=>(BitVec.xor_self (x:=0#8)).symm
 |k+1,a,b,c=>by
  unfold gm;rw[kE,kE,kE,BitVec.ushiftRight_xor_distrib,vm k,BitVec.getLsbD_xor];generalize gm k (dbl a) (b>>>1)=u;generalize gm k (dbl a) (c>>>1)=v;cases b.getLsbD 0<;>cases c.getLsbD 0<;>simp
  ·ac_rfl
  ·exact(BitVec.xor_assoc ..).symm
  ·rw[show a^^^u^^^(a^^^v)=(a^^^a)^^^(u^^^v) by ac_rfl];simp
theorem ir(a b c:BitVec 8):gmul a (b^^^c)=gmul a b^^^gmul a c:=vm 8 a b c
def boxT:Y8:=[99,124,119,123,242,107,111,197,48,1,103,43,254,215,171,118,202,130,201,125,250,89,71,240,173,212,162,175,156,164,114,192,183,253,147,38,54,63,247,204,52,165,229,241,113,216,49,21,4,199,35,195,24,150,5,154,7,18,128,226,235,39,178,117,9,131,44,26,27,110,90,160,82,59,214,179,41,227,47,132,83,209,0,237,32,252,177,91,106,203,190,57,74,76,88,207,208,239,170,251,67,77,51,133,69,249,2,127,80,60,159,168,81,163,64,143,146,157,56,245,188,182,218,33,16,255,243,210,205,12,19,236,95,151,68,23,196,167,126,61,100,93,25,115,96,129,79,220,34,42,144,136,70,238,184,20,222,94,11,219,224,50,58,10,73,6,36,92,194,211,172,98,145,149,228,121,231,200,55,109,141,213,78,169,108,86,244,234,101,122,174,8,186,120,37,46,28,166,180,198,232,221,116,31,75,189,139,138,112,62,181,102,72,3,246,14,97,53,87,185,134,193,29,158,225,248,152,17,105,217,142,148,155,30,135,233,206,85,40,223,140,161,137,13,191,230,66,104,65,153,45,15,176,84,187,22]
def backT:Y8:=[82,9,106,213,48,54,165,56,191,64,163,158,129,243,215,251,124,227,57,130,155,47,255,135,52,142,67,68,196,222,233,203,84,123,148,50,166,194,35,61,238,76,149,11,66,250,195,78,8,46,161,102,40,217,36,178,118,91,162,73,109,139,209,37,114,248,246,100,134,104,152,22,212,164,92,204,93,101,182,146,108,112,72,80,253,237,185,218,94,21,70,87,167,141,157,132,144,216,171,0,140,188,211,10,247,228,88,5,184,179,69,6,208,44,30,143,202,63,15,2,193,175,189,3,1,19,138,107,58,145,17,65,79,103,220,234,151,242,207,206,240,180,230,115,150,172,116,34,231,173,53,133,226,249,55,232,28,117,223,110,71,241,26,113,29,41,197,137,111,183,98,14,170,24,190,27,252,86,62,75,198,210,121,32,154,219,192,254,120,205,90,244,31,221,168,51,136,7,199,49,177,18,16,89,39,128,236,95,96,81,127,169,25,181,74,13,45,229,122,159,147,201,156,239,160,224,59,77,174,42,245,176,200,235,187,60,131,83,153,97,23,43,4,126,186,119,214,38,225,105,20,99,85,33,12,125]
theorem ec:boxT.length=256:=by kernel_rfl
theorem nD:backT.length=256:=by kernel_rfl
def box(a:BitVec 8):BitVec 8:=nth boxT a.toNat
def ed(a:BitVec 8):BitVec 8:=nth backT a.toNat
theorem mF: ∀a:BitVec 8,ed (box a)=a:=of_decide_eq_true (by kernel_rfl)
def r16(f:Nat→BitVec 8):Y8:=(List.range 16).map f
@[simp] theorem kN(f:Nat→BitVec 8):(r16 f).length=16:=by simp[r16]
theorem br(f:Nat→BitVec 8)(i:Nat)(h:i<16):nth (r16 f) i=f i:=by simp[nth,r16,List.getD_eq_getElem?_getD,h]
theorem iu(l:Y8)(h:l.length=16):r16 (fun i=>nth l i)=l:=by
 apply aD
 ·rw[kN,h]
 ·intro i hi;rw[kN]at hi;exact br _ _ hi
theorem fc {f g:Nat→BitVec 8}(h: ∀i,i<16→f i=g i):r16 f=r16 g:=by
 apply List.map_congr_left;intro i hi;exact h i (by simpa using hi)
def bG(a b:Y8):Y8:=r16 fun i=>nth a i^^^nth b i
def cP(f:BitVec 8→BitVec 8)(b:Y8):Y8:=r16 fun i=>f (nth b i)
def shp(i:Nat):Nat:=4*((i/4+i %4) %4)+i %4
def jK(i:Nat):Nat:=4*((i/4+4-i %4) %4)+i %4
def cz(b:Y8):Y8:=r16 fun i=>nth b (shp i)
def bT(b:Y8):Y8:=r16 fun i=>nth b (jK i)
def mixB(m:Y8)(b:Y8)(i k:Nat):BitVec 8:=gmul (nth m ((k+4-i %4) %4)) (nth b (i/4*4+k))
def ee(m:Y8)(b:Y8):Y8:=r16 fun i=>mixB m b i 0^^^mixB m b i 1^^^mixB m b i 2^^^mixB m b i 3
def mixM:Y8:=[2,3,1,1]
def unmixM:Y8:=[14,11,13,9]
def dJ(b k:Y8):Y8:=bG (ee mixM (cz (cP box b))) k
def jL(b k:Y8):Y8:=bG (cz (cP box b)) k
def dl(b k:Y8):Y8:=cP ed (bT (ee unmixM (bG b k)))
def ef(b k:Y8):Y8:=cP ed (bT (bG b k))
@[simp] theorem aZ(a b:Y8):(bG a b).length=16:=by simp[bG]
@[simp] theorem iv(f:BitVec 8→BitVec 8)(b:Y8):(cP f b).length=16:=by simp[cP]
@[simp] theorem vo(b:Y8):(cz b).length=16:=by simp[cz]
@[simp] theorem xi(m b:Y8):(ee m b).length=16:=by simp[ee]
@[simp] theorem gJ(b k:Y8):(dJ b k).length=16:=by simp[dJ]
@[simp] theorem iw(b k:Y8):(jL b k).length=16:=by simp[jL]
@[simp] theorem fE(b k:Y8):(dl b k).length=16:=by simp[dl]
@[simp] theorem fJ(b k:Y8):(ef b k).length=16:=by simp[ef]
theorem gW(a k:Y8)(h:a.length=16):bG (bG a k) k=a:=by
 conv=>rhs;rw[←iu a h]
 refine fc fun i hi=> ?_;rw[bG,br _ _ hi,BitVec.xor_assoc,BitVec.xor_self,BitVec.xor_zero]
theorem jk: ∀i,i<16→shp i<16∧jK i<16∧shp (jK i)=i∧jK (shp i)=i:=of_decide_eq_true (by kernel_rfl)
theorem gK(b:Y8)(h:b.length=16):bT (cz b)=b:=by
 conv=>rhs;rw[←iu b h]
 refine fc fun i hi=> ?_;rw[cz,br _ _ (jk i hi).2.1,(jk i hi).2.2.1]
theorem sF {f g:BitVec 8→BitVec 8}(hfg: ∀a,f (g a)=a)(b:Y8)(h:b.length=16):cP f (cP g b)=b:=by
 conv=>rhs;rw[←iu b h]
 refine fc fun i hi=> ?_;rw[cP,br _ _ hi,hfg]
def eI(m u:Y8)(r s:Nat)(x:BitVec 8):BitVec 8:=
 gmul (nth u ((0+4-r) %4)) (gmul (nth m ((s+4-0) %4)) x)^^^gmul (nth u ((1+4-r) %4)) (gmul (nth m ((s+4-1) %4)) x)^^^gmul (nth u ((2+4-r) %4)) (gmul (nth m ((s+4-2) %4)) x)^^^gmul (nth u ((3+4-r) %4)) (gmul (nth m ((s+4-3) %4)) x)
def bH(x:BitVec 8)(j:Nat):BitVec 8:=if x.getLsbD j then 1#8<<<j else 0
theorem xj: ∀x:BitVec 8,x=bH x 0^^^bH x 1^^^bH x 2^^^bH x 3^^^bH x 4^^^bH x 5^^^bH x 6^^^bH x 7:=of_decide_eq_true (by kernel_rfl)
theorem lin8 {f g:BitVec 8→BitVec 8}(hf: ∀a b,f (a^^^b)=f a^^^f b)(hg: ∀a b,g (a^^^b)=g a^^^g b)(h: ∀j:Fin 8,f (1#8<<<j.1)=g (1#8<<<j.1))(x:BitVec 8):f x=g x:=by
 have f0:f 0=0:=by have:=hf 0 0;rw[BitVec.xor_self,BitVec.xor_self]at this;exact this
 have g0:g 0=0:=by have:=hg 0 0;rw[BitVec.xor_self,BitVec.xor_self]at this;exact this
 have hb: ∀j:Fin 8,f (bH x j.1)=g (bH x j.1):=by
  intro j;unfold bH
  split
  ·exact h j
  ·rw[f0,g0]
 rw[xj x];simp only[hf,hg];have h0:f (bH x 0)=g (bH x 0):=hb 0;have h1:f (bH x 1)=g (bH x 1):=hb 1;have h2:f (bH x 2)=g (bH x 2):=hb 2;have h3:f (bH x 3)=g (bH x 3):=hb 3;have h4:f (bH x 4)=g (bH x 4):=hb 4;have h5:f (bH x 5)=g (bH x 5):=hb 5;have h6:f (bH x 6)=g (bH x 6):=hb 6;have h7:f (bH x 7)=g (bH x 7):=hb 7;rw[h0,h1,h2,h3,h4,h5,h6,h7]
theorem nF(m u:Y8)(r s:Nat)(a b:BitVec 8):eI m u r s (a^^^b)=eI m u r s a^^^eI m u r s b:=by
 unfold eI;simp only[ir]
 ac_rfl
theorem qv(r s:Fin 4)(x:BitVec 8):eI mixM unmixM r.1 s.1 x=if r=s then x else 0:=by
 refine lin8 (g:=fun x=>if r=s then x else 0) (nF _ _ _ _) (fun a b=>by split<;>simp) ?_ x
 revert r s
 exact of_decide_eq_true (by kernel_rfl)
theorem vp {m u:Y8}(hw: ∀r s:Fin 4,∀x,eI m u r.1 s.1 x=if r=s then x else 0)(b:Y8)(h:b.length=16):ee u (ee m b)=b:=by
 conv=>rhs;rw[←iu b h]
 refine fc fun i hi=> ?_;have hb: ∀k,k<4→mixB u (ee m b) i k=gmul (nth u ((k+4-i %4) %4)) (gmul (nth m ((0+4-k) %4)) (nth b (i/4*4+0)))^^^gmul (nth u ((k+4-i %4) %4)) (gmul (nth m ((1+4-k) %4)) (nth b (i/4*4+1)))^^^gmul (nth u ((k+4-i %4) %4)) (gmul (nth m ((2+4-k) %4)) (nth b (i/4*4+2)))^^^gmul (nth u ((k+4-i %4) %4)) (gmul (nth m ((3+4-k) %4)) (nth b (i/4*4+3))):=by
  intro k hk;have e1:(i/4*4+k) %4=k:=by omega
  have e2:(i/4*4+k)/4=i/4:=by omega
  unfold mixB;rw[ee,br _ _ (by omega)];unfold mixB;rw[e1,e2,ir,ir,ir]
 rw[hb 0 (by omega),hb 1 (by omega),hb 2 (by omega),hb 3 (by omega)];have hr:i %4<4:=Nat.mod_lt _ (by omega);have w0:=hw ⟨i %4,hr⟩ 0 (nth b (i/4*4+0));have w1:=hw ⟨i %4,hr⟩ 1 (nth b (i/4*4+1));have w2:=hw ⟨i %4,hr⟩ 2 (nth b (i/4*4+2));have w3:=hw ⟨i %4,hr⟩ 3 (nth b (i/4*4+3));have hsum: ∀(f:Nat→Nat→BitVec 8),((f 0 0^^^f 0 1^^^f 0 2^^^f 0 3)^^^(f 1 0^^^f 1 1^^^f 1 2^^^f 1 3)^^^(f 2 0^^^f 2 1^^^f 2 2^^^f 2 3)^^^(f 3 0^^^f 3 1^^^f 3 2^^^f 3 3))=
   (f 0 0^^^f 1 0^^^f 2 0^^^f 3 0)^^^(f 0 1^^^f 1 1^^^f 2 1^^^f 3 1)^^^(f 0 2^^^f 1 2^^^f 2 2^^^f 3 2)^^^(f 0 3^^^f 1 3^^^f 2 3^^^f 3 3):=fun f=>by ac_rfl
 have:=hsum (fun k s=>gmul (nth u ((k+4-i %4) %4)) (gmul (nth m ((s+4-k) %4)) (nth b (i/4*4+s))));rw[this];have e: ∀(a b c d a' b' c' d':BitVec 8),a=a'→b=b'→c=c'→d=d'→a^^^b^^^c^^^d=a'^^^b'^^^c'^^^d':=by intros;simp only[*]
 refine(e _ _ _ _ _ _ _ _ w0 w1 w2 w3).trans ?_;have hcase:i %4=0∨i %4=1∨i %4=2∨i %4=3:=by omega
 simp only[Fin.ext_iff];rcases hcase with h0|h0|h0|h0
 ·simp[h0,show((3:Fin 4):Nat)=3 from rfl];exact congrArg (nth b) (by omega)
 ·simp[h0,show((3:Fin 4):Nat)=3 from rfl];exact congrArg (nth b) (by omega)
 ·simp[h0,show((3:Fin 4):Nat)=3 from rfl];exact congrArg (nth b) (by omega)
 ·simp[h0,show((3:Fin 4):Nat)=3 from rfl];exact congrArg (nth b) (by omega)
theorem tC(b:Y8)(h:b.length=16):ee unmixM (ee mixM b)=b:=vp qv b h
theorem mr(b k:Y8)(h:b.length=16):dl (dJ b k) k=b:=by
 unfold dl dJ;rw[gW _ _ (by simp),tC _ (by simp),gK _ (by simp),sF mF _ h]
theorem oN(b k:Y8)(h:b.length=16):ef (jL b k) k=b:=by
 unfold ef jL;rw[gW _ _ (by simp),gK _ (by simp),sF mF _ h]
end Go.Proofs.YtlpkfdkhlffmlaaGreatDoor
