/-wide numbers (plain):sums and differences undo each other;bytes and back-/
import Derived.Test.YtlpkfdkhlffmlaaGreatDoorMHd
import Derived.Test.YtlpkfdkhlffmlaaGreatDoorMHi
import Derived.Test.YtlpkfdkhlffmlaaGreatDoorMGh
namespace Go.Proofs.YtlpkfdkhlffmlaaGreatDoor
set_option linter.unusedSimpArgs false
set_option linter.unusedVariables false
set_option maxRecDepth 100000
set_option maxHeartbeats 1600000
theorem us(x y:BitVec 64):borU (x+y) y=carU x y:=by
 have h1:=x.isLt;have h2:=y.isLt;unfold borU carU;congr 1;rw[BitVec.toNat_add]
 split<;>omega
theorem ut(x y:BitVec 64):carU (x-y) y=borU x y:=by
 have h1:=x.isLt;have h2:=y.isLt;unfold borU carU;congr 1;rw[BitVec.toNat_sub]
 split<;>omega
theorem rK(x y:W2):fU (ev x y) y=x:=by
 unfold fU ev;simp only[us]
 ext1
 ·exact BitVec.add_sub_cancel _ _
 ·show x.2+y.2+carU x.1 y.1-y.2-carU x.1 y.1=x.2;rw[show x.2+y.2+carU x.1 y.1=x.2+carU x.1 y.1+y.2 by ac_rfl,BitVec.add_sub_cancel,BitVec.add_sub_cancel]
theorem rL(x y:W2):ev (fU x y) y=x:=by
 unfold fU ev;simp only[ut]
 ext1
 ·exact BitVec.sub_add_cancel _ _
 ·show x.2-y.2-borU x.1 y.1+y.2+borU x.1 y.1=x.2;rw[show x.2-y.2-borU x.1 y.1+y.2+borU x.1 y.1=x.2-y.2-borU x.1 y.1+borU x.1 y.1+y.2 by ac_rfl,BitVec.sub_add_cancel,BitVec.sub_add_cancel]
theorem kb(x:BitVec 64):((((((((0#64|||(x.setWidth 8).setWidth 64<<<0)|||((x>>>8).setWidth 8).setWidth 64<<<8)|||((x>>>16).setWidth 8).setWidth 64<<<16)|||((x>>>24).setWidth 8).setWidth 64<<<24)|||((x>>>32).setWidth 8).setWidth 64<<<32)|||((x>>>40).setWidth 8).setWidth 64<<<40)|||((x>>>48).setWidth 8).setWidth 64<<<48)|||((x>>>56).setWidth 8).setWidth 64<<<56)=x:=by
 apply BitVec.eq_of_getLsbD_eq;intro i hi;simp only[BitVec.getLsbD_setWidth,BitVec.getLsbD_or,BitVec.getLsbD_shiftLeft,BitVec.getLsbD_ushiftRight,BitVec.getLsbD_zero,hi];by_cases h0:i<8
 ·simp[show i<8 by omega,show i<8 by omega,show i<16 by omega,show i<24 by omega,show i<32 by omega,show i<40 by omega,show i<48 by omega,show i<56 by omega];intro _;exact hi
 by_cases h1:i<16
 ·simp[show¬(i<8) by omega,show i-8<8 by omega,show i-8<64 by omega,show¬(i<8) by omega,show 8+(i-8)=i by omega,show i<16 by omega,show i<24 by omega,show i<32 by omega,show i<40 by omega,show i<48 by omega,show i<56 by omega]
 by_cases h2:i<24
 ·simp[show¬(i<8) by omega,show¬(i-8<8) by omega,show¬(i<8) by omega,show i-16<8 by omega,show i-16<64 by omega,show¬(i<16) by omega,show 16+(i-16)=i by omega,show i<24 by omega,show i<32 by omega,show i<40 by omega,show i<48 by omega,show i<56 by omega]
 by_cases h3:i<32
 ·simp[show¬(i<8) by omega,show¬(i-8<8) by omega,show¬(i<8) by omega,show¬(i-16<8) by omega,show¬(i<16) by omega,show i-24<8 by omega,show i-24<64 by omega,show¬(i<24) by omega,show 24+(i-24)=i by omega,show i<32 by omega,show i<40 by omega,show i<48 by omega,show i<56 by omega]
 by_cases h4:i<40
 ·simp[show¬(i<8) by omega,show¬(i-8<8) by omega,show¬(i<8) by omega,show¬(i-16<8) by omega,show¬(i<16) by omega,show¬(i-24<8) by omega,show¬(i<24) by omega,show i-32<8 by omega,show i-32<64 by omega,show¬(i<32) by omega,show 32+(i-32)=i by omega,show i<40 by omega,show i<48 by omega,show i<56 by omega]
 by_cases h5:i<48
 ·simp[show¬(i<8) by omega,show¬(i-8<8) by omega,show¬(i<8) by omega,show¬(i-16<8) by omega,show¬(i<16) by omega,show¬(i-24<8) by omega,show¬(i<24) by omega,show¬(i-32<8) by omega,show¬(i<32) by omega,show i-40<8 by omega,show i-40<64 by omega,show¬(i<40) by omega,show 40+(i-40)=i by omega,show i<48 by omega,show i<56 by omega]
 by_cases h6:i<56
 ·simp[show¬(i<8) by omega,show¬(i-8<8) by omega,show¬(i<8) by omega,show¬(i-16<8) by omega,show¬(i<16) by omega,show¬(i-24<8) by omega,show¬(i<24) by omega,show¬(i-32<8) by omega,show¬(i<32) by omega,show¬(i-40<8) by omega,show¬(i<40) by omega,show i-48<8 by omega,show i-48<64 by omega,show¬(i<48) by omega,show 48+(i-48)=i by omega,show i<56 by omega]
 simp[show¬(i<8) by omega,show¬(i-8<8) by omega,show¬(i<8) by omega,show¬(i-16<8) by omega,show¬(i<16) by omega,show¬(i-24<8) by omega,show¬(i<24) by omega,show¬(i-32<8) by omega,show¬(i<32) by omega,show¬(i-40<8) by omega,show¬(i<40) by omega,show¬(i-48<8) by omega,show¬(i<48) by omega,show i-56<8 by omega,show i-56<64 by omega,show¬(i<56) by omega,show 56+(i-56)=i by omega]
theorem lO(x:W2):long (bu x) 0=x.1:=kb x.1
theorem lP(x:W2):long (bu x) 8=x.2:=kb x.2
theorem iR(x:W2):bS (bu x)=x:=by
 unfold bS;rw[lO,lP]
theorem rM(b0 b1 b2 b3 b4 b5 b6 b7:BitVec 8):((((((((((0#64|||b0.setWidth 64<<<0)|||b1.setWidth 64<<<8)|||b2.setWidth 64<<<16)|||b3.setWidth 64<<<24)|||b4.setWidth 64<<<32)|||b5.setWidth 64<<<40)|||b6.setWidth 64<<<48)|||b7.setWidth 64<<<56))).setWidth 8=b0:=by
 apply BitVec.eq_of_getLsbD_eq;intro i hi;simp only[BitVec.getLsbD_setWidth,BitVec.getLsbD_or,BitVec.getLsbD_shiftLeft,BitVec.getLsbD_ushiftRight,BitVec.getLsbD_zero,hi];simp[show i<64 by omega,show i<8 by omega,show i<16 by omega,show i<24 by omega,show i<32 by omega,show i<40 by omega,show i<48 by omega,show i<56 by omega,show i<64 by omega]
theorem rN(b0 b1 b2 b3 b4 b5 b6 b7:BitVec 8):((((((((((0#64|||b0.setWidth 64<<<0)|||b1.setWidth 64<<<8)|||b2.setWidth 64<<<16)|||b3.setWidth 64<<<24)|||b4.setWidth 64<<<32)|||b5.setWidth 64<<<40)|||b6.setWidth 64<<<48)|||b7.setWidth 64<<<56))>>>8).setWidth 8=b1:=by
 apply BitVec.eq_of_getLsbD_eq;intro i hi;simp only[BitVec.getLsbD_setWidth,BitVec.getLsbD_or,BitVec.getLsbD_shiftLeft,BitVec.getLsbD_ushiftRight,BitVec.getLsbD_zero,hi];simp[show b0.getLsbD (8+i)=false from BitVec.getLsbD_of_ge _ _ (by omega),show 8+i-8=i by omega,show¬(8+i<8) by omega,show 8+i<64 by omega,show 8+i<16 by omega,show 8+i<24 by omega,show 8+i<32 by omega,show 8+i<40 by omega,show 8+i<48 by omega,show 8+i<56 by omega,show i<64 by omega]
theorem rO(b0 b1 b2 b3 b4 b5 b6 b7:BitVec 8):((((((((((0#64|||b0.setWidth 64<<<0)|||b1.setWidth 64<<<8)|||b2.setWidth 64<<<16)|||b3.setWidth 64<<<24)|||b4.setWidth 64<<<32)|||b5.setWidth 64<<<40)|||b6.setWidth 64<<<48)|||b7.setWidth 64<<<56))>>>16).setWidth 8=b2:=by
 apply BitVec.eq_of_getLsbD_eq;intro i hi;simp only[BitVec.getLsbD_setWidth,BitVec.getLsbD_or,BitVec.getLsbD_shiftLeft,BitVec.getLsbD_ushiftRight,BitVec.getLsbD_zero,hi];simp[show b0.getLsbD (16+i)=false from BitVec.getLsbD_of_ge _ _ (by omega),show b1.getLsbD (16+i-8)=false from BitVec.getLsbD_of_ge _ _ (by omega),show¬(16+i<8) by omega,show 16+i-16=i by omega,show¬(16+i<16) by omega,show 16+i<64 by omega,show 16+i<24 by omega,show 16+i<32 by omega,show 16+i<40 by omega,show 16+i<48 by omega,show 16+i<56 by omega,show i<64 by omega]
theorem rP(b0 b1 b2 b3 b4 b5 b6 b7:BitVec 8):((((((((((0#64|||b0.setWidth 64<<<0)|||b1.setWidth 64<<<8)|||b2.setWidth 64<<<16)|||b3.setWidth 64<<<24)|||b4.setWidth 64<<<32)|||b5.setWidth 64<<<40)|||b6.setWidth 64<<<48)|||b7.setWidth 64<<<56))>>>24).setWidth 8=b3:=by
 apply BitVec.eq_of_getLsbD_eq;intro i hi;simp only[BitVec.getLsbD_setWidth,BitVec.getLsbD_or,BitVec.getLsbD_shiftLeft,BitVec.getLsbD_ushiftRight,BitVec.getLsbD_zero,hi];simp[show b0.getLsbD (24+i)=false from BitVec.getLsbD_of_ge _ _ (by omega),show b1.getLsbD (24+i-8)=false from BitVec.getLsbD_of_ge _ _ (by omega),show¬(24+i<8) by omega,show b2.getLsbD (24+i-16)=false from BitVec.getLsbD_of_ge _ _ (by omega),show¬(24+i<16) by omega,show 24+i-24=i by omega,show¬(24+i<24) by omega,show 24+i<64 by omega,show 24+i<32 by omega,show 24+i<40 by omega,show 24+i<48 by omega,show 24+i<56 by omega,show i<64 by omega]
theorem rQ(b0 b1 b2 b3 b4 b5 b6 b7:BitVec 8):((((((((((0#64|||b0.setWidth 64<<<0)|||b1.setWidth 64<<<8)|||b2.setWidth 64<<<16)|||b3.setWidth 64<<<24)|||b4.setWidth 64<<<32)|||b5.setWidth 64<<<40)|||b6.setWidth 64<<<48)|||b7.setWidth 64<<<56))>>>32).setWidth 8=b4:=by
 apply BitVec.eq_of_getLsbD_eq;intro i hi;simp only[BitVec.getLsbD_setWidth,BitVec.getLsbD_or,BitVec.getLsbD_shiftLeft,BitVec.getLsbD_ushiftRight,BitVec.getLsbD_zero,hi];simp[show b0.getLsbD (32+i)=false from BitVec.getLsbD_of_ge _ _ (by omega),show b1.getLsbD (32+i-8)=false from BitVec.getLsbD_of_ge _ _ (by omega),show¬(32+i<8) by omega,show b2.getLsbD (32+i-16)=false from BitVec.getLsbD_of_ge _ _ (by omega),show¬(32+i<16) by omega,show b3.getLsbD (32+i-24)=false from BitVec.getLsbD_of_ge _ _ (by omega),show¬(32+i<24) by omega,show 32+i-32=i by omega,show¬(32+i<32) by omega,show 32+i<64 by omega,show 32+i<40 by omega,show 32+i<48 by omega,show 32+i<56 by omega,show i<64 by omega]
theorem rR(b0 b1 b2 b3 b4 b5 b6 b7:BitVec 8):((((((((((0#64|||b0.setWidth 64<<<0)|||b1.setWidth 64<<<8)|||b2.setWidth 64<<<16)|||b3.setWidth 64<<<24)|||b4.setWidth 64<<<32)|||b5.setWidth 64<<<40)|||b6.setWidth 64<<<48)|||b7.setWidth 64<<<56))>>>40).setWidth 8=b5:=by
 apply BitVec.eq_of_getLsbD_eq;intro i hi;simp only[BitVec.getLsbD_setWidth,BitVec.getLsbD_or,BitVec.getLsbD_shiftLeft,BitVec.getLsbD_ushiftRight,BitVec.getLsbD_zero,hi];simp[show b0.getLsbD (40+i)=false from BitVec.getLsbD_of_ge _ _ (by omega),show b1.getLsbD (40+i-8)=false from BitVec.getLsbD_of_ge _ _ (by omega),show¬(40+i<8) by omega,show b2.getLsbD (40+i-16)=false from BitVec.getLsbD_of_ge _ _ (by omega),show¬(40+i<16) by omega,show b3.getLsbD (40+i-24)=false from BitVec.getLsbD_of_ge _ _ (by omega),show¬(40+i<24) by omega,show b4.getLsbD (40+i-32)=false from BitVec.getLsbD_of_ge _ _ (by omega),show¬(40+i<32) by omega,show 40+i-40=i by omega,show¬(40+i<40) by omega,show 40+i<64 by omega,show 40+i<48 by omega,show 40+i<56 by omega,show i<64 by omega]
theorem rT(b0 b1 b2 b3 b4 b5 b6 b7:BitVec 8):((((((((((0#64|||b0.setWidth 64<<<0)|||b1.setWidth 64<<<8)|||b2.setWidth 64<<<16)|||b3.setWidth 64<<<24)|||b4.setWidth 64<<<32)|||b5.setWidth 64<<<40)|||b6.setWidth 64<<<48)|||b7.setWidth 64<<<56))>>>48).setWidth 8=b6:=by
 apply BitVec.eq_of_getLsbD_eq;intro i hi;simp only[BitVec.getLsbD_setWidth,BitVec.getLsbD_or,BitVec.getLsbD_shiftLeft,BitVec.getLsbD_ushiftRight,BitVec.getLsbD_zero,hi];simp[show b0.getLsbD (48+i)=false from BitVec.getLsbD_of_ge _ _ (by omega),show b1.getLsbD (48+i-8)=false from BitVec.getLsbD_of_ge _ _ (by omega),show¬(48+i<8) by omega,show b2.getLsbD (48+i-16)=false from BitVec.getLsbD_of_ge _ _ (by omega),show¬(48+i<16) by omega,show b3.getLsbD (48+i-24)=false from BitVec.getLsbD_of_ge _ _ (by omega),show¬(48+i<24) by omega,show b4.getLsbD (48+i-32)=false from BitVec.getLsbD_of_ge _ _ (by omega),show¬(48+i<32) by omega,show b5.getLsbD (48+i-40)=false from BitVec.getLsbD_of_ge _ _ (by omega),show¬(48+i<40) by omega,show 48+i-48=i by omega,show¬(48+i<48) by omega,show 48+i<64 by omega,show 48+i<56 by omega,show i<64 by omega]
theorem rU(b0 b1 b2 b3 b4 b5 b6 b7:BitVec 8):((((((((((0#64|||b0.setWidth 64<<<0)|||b1.setWidth 64<<<8)|||b2.setWidth 64<<<16)|||b3.setWidth 64<<<24)|||b4.setWidth 64<<<32)|||b5.setWidth 64<<<40)|||b6.setWidth 64<<<48)|||b7.setWidth 64<<<56))>>>56).setWidth 8=b7:=by
 apply BitVec.eq_of_getLsbD_eq;intro i hi;simp only[BitVec.getLsbD_setWidth,BitVec.getLsbD_or,BitVec.getLsbD_shiftLeft,BitVec.getLsbD_ushiftRight,BitVec.getLsbD_zero,hi];simp[show b0.getLsbD (56+i)=false from BitVec.getLsbD_of_ge _ _ (by omega),show b1.getLsbD (56+i-8)=false from BitVec.getLsbD_of_ge _ _ (by omega),show¬(56+i<8) by omega,show b2.getLsbD (56+i-16)=false from BitVec.getLsbD_of_ge _ _ (by omega),show¬(56+i<16) by omega,show b3.getLsbD (56+i-24)=false from BitVec.getLsbD_of_ge _ _ (by omega),show¬(56+i<24) by omega,show b4.getLsbD (56+i-32)=false from BitVec.getLsbD_of_ge _ _ (by omega),show¬(56+i<32) by omega,show b5.getLsbD (56+i-40)=false from BitVec.getLsbD_of_ge _ _ (by omega),show¬(56+i<40) by omega,show b6.getLsbD (56+i-48)=false from BitVec.getLsbD_of_ge _ _ (by omega),show¬(56+i<48) by omega,show 56+i-56=i by omega,show¬(56+i<56) by omega,show 56+i<64 by omega,show i<64 by omega]
theorem ng(l:Y8)(p:Nat):le64 (long l p)=[nth l (p+0),nth l (p+1),nth l (p+2),nth l (p+3),nth l (p+4),nth l (p+5),nth l (p+6),nth l (p+7)]:=by
 rw[show long l p=((((((((0#64|||(nth l (p+0)).setWidth 64<<<0)|||(nth l (p+1)).setWidth 64<<<8)|||(nth l (p+2)).setWidth 64<<<16)|||(nth l (p+3)).setWidth 64<<<24)|||(nth l (p+4)).setWidth 64<<<32)|||(nth l (p+5)).setWidth 64<<<40)|||(nth l (p+6)).setWidth 64<<<48)|||(nth l (p+7)).setWidth 64<<<56) from rfl,le64];simp only[rM,rN,rO,rP,rQ,rR,rT,rU]
theorem iT(l:Y8)(h:l.length=16):bu (bS l)=l:=by
 unfold bu bS;rw[ng,ng]
 match l,h with
 | [a0,a1,a2,a3,a4,a5,a6,a7,a8,a9,a10,a11,a12,a13,a14,a15],_=>rfl
def aesA(key:Y8):Y8:=sch 8 ((ownA key).take 32) 52
def cN(key:Y8):Y8:=(ownA key).drop 32
def dS(M:Y8):Y8:=M.take (M.length-16)
def eF(M:Y8):W2:=bS (M.drop (M.length-16))
def fX(key tw B:Y8)(mid x:W2):Y8:=
 aG key (dR mid) 12 B++bu (fU x (sumN (cN key) tw (aG key (dR mid) 12 B)))
def midE(key tw M:Y8):W2:=bS (encS (aesA key) 15 (bu (ev (eF M) (sumN (cN key) tw (dS M)))))
def midD(key tw M:Y8):W2:=ev (eF M) (sumN (cN key) tw (dS M))
def encA(key tw M:Y8):Y8:=fX key tw (dS M) (midE key tw M) (midE key tw M)
def decA(key tw M:Y8):Y8:=fX key tw (dS M) (midD key tw M) (bS (decS (aesA key) 15 (bu (midD key tw M))))
theorem cw(key nonce:Y8)(r:Nat)(b:Y8):(aG key nonce r b).length=b.length:=by simp[aG,bt]
theorem fp(key tw B:Y8)(mid x:W2):(fX key tw B mid x).length=B.length+16:=by
 rw[fX,List.length_append,cw,gQ]
theorem lQ(key tw B:Y8)(mid x:W2):dS (fX key tw B mid x)=aG key (dR mid) 12 B:=by
 rw[dS,fp,fX,Nat.add_sub_cancel,List.take_append_of_le_length (by rw[cw];exact Nat.le_refl _),List.take_of_length_le (by rw[cw];exact Nat.le_refl _)]
theorem pL(key tw B:Y8)(mid x:W2):eF (fX key tw B mid x)=fU x (sumN (cN key) tw (aG key (dR mid) 12 B)):=by
 rw[eF,fp,fX,Nat.add_sub_cancel,List.drop_append_of_le_length (by rw[cw];exact Nat.le_refl _),List.drop_eq_nil_of_le (by rw[cw];exact Nat.le_refl _),List.nil_append,iR]
theorem wy(key nonce:Y8)(r:Nat)(b:Y8):aG key nonce r (aG key nonce r b)=b:=by
 unfold aG;apply aD
 ·simp[bt]
 ·intro i hi;have hi2:i<b.length:=by simpa[bt]using hi
  rw[dz _ _ _ (by simpa[bt]using hi2),dz _ _ _ hi2,BitVec.xor_assoc,BitVec.xor_self,BitVec.xor_zero]
theorem pM(key:Y8):(aesA key).length=240:=by
 rw[aesA,eZ];rw[List.length_take,ownA,cw,af];rfl
theorem lR(key tw M:Y8)(h:16≤M.length):decA key tw (encA key tw M)=M:=by
 have hm:midD key tw (encA key tw M)=midE key tw M:=by
  rw[midD,encA,pL,lQ,rL]
 have hs:bS (decS (aesA key) 15 (bu (midE key tw M)))=ev (eF M) (sumN (cN key) tw (dS M)):=by
  rw[midE,iT _ (jQ _ _ _),po _ _ _ (gQ _) (by rw[pM]) (by omega),iR]
 rw[decA,hm,hs,encA,lQ,fX,wy,rK,eF,iT _ (by rw[List.length_drop];omega),dS,List.take_append_drop]
theorem fY(key tw M:Y8)(h:16≤M.length):(encA key tw M).length=M.length:=by
 rw[encA,fp,dS,List.length_take];omega
end Go.Proofs.YtlpkfdkhlffmlaaGreatDoor
