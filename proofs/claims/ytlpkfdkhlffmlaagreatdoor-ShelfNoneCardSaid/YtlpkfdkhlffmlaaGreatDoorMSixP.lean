/-sixty:what is encoded is decoded;plain-/
import Derived.Test.YtlpkfdkhlffmlaaGreatDoorMSix3
namespace Go.Proofs.YtlpkfdkhlffmlaaGreatDoor
set_option linter.unusedSimpArgs false
set_option linter.unusedVariables false
set_option maxRecDepth 100000
set_option maxHeartbeats 1600000
open Go.RowKit
theorem vh: ∀i:Fin 64,num (nth ti i.val)=some (BitVec.ofNat 8 i.val):=by decide+kernel
theorem yl(x:BitVec 32)(h:x.toNat<64):num (sgn x)=some (x.setWidth 8):=by
 have:=vh ⟨x.toNat,h⟩;unfold sgn;rw[this];congr 1
def six(n:BitVec 32)(k:Nat):BitVec 8:=((n>>>(18-6*k))&&&63#32).setWidth 8
theorem oL(n:BitVec 32)(k:Nat):num (sig n k)=some (six n k):=yl _ (qb _)
section
variable (a b c:BitVec 8)
theorem eD(n:BitVec 32)(k i:Nat):(six n k).getLsbD i=(decide (i<6)&&n.getLsbD (18-6*k+i)):=by
 unfold six;rw[BitVec.getLsbD_setWidth,BitVec.getLsbD_and,BitVec.getLsbD_ushiftRight];have h63: ∀i,i<8→(63#32).getLsbD i=decide (i<6):=by decide
 by_cases h:i<8
 ·rw[h63 i h];simp[h,Bool.and_comm]
 ·have: ¬i<6:=by omega
  simp[h,this]
theorem sD(i:Nat)(hi:i<24):(wd a b c).getLsbD i=if i<8 then c.getLsbD i else if i<16 then b.getLsbD (i-8)else a.getLsbD (i-16):=by
 unfold wd;simp only[BitVec.getLsbD_or,BitVec.getLsbD_shiftLeft,BitVec.getLsbD_setWidth];have e1:decide (i<32)=true:=by simp;omega
 have e2:decide (i-16<32)=true:=by simp;omega
 have e3:decide (i-8<32)=true:=by simp;omega
 rw[e1,e2,e3];by_cases h1:i<8
 ·have:i<16:=by omega
  simp[h1,this]
 ·by_cases h2:i<16
  ·have hc:c.getLsbD i=false:=BitVec.getLsbD_of_ge _ _ (by omega);simp[h1,h2,hc]
  ·have hc:c.getLsbD i=false:=BitVec.getLsbD_of_ge _ _ (by omega);have hb:b.getLsbD (i-8)=false:=BitVec.getLsbD_of_ge _ _ (by omega);simp[h1,h2,hc,hb]
theorem wd_a(i:Nat)(hi:i<8):(wd a b c).getLsbD (16+i)=a.getLsbD i:=by
 rw[sD _ _ _ _ (by omega),if_neg (by omega),if_neg (by omega),Nat.add_sub_cancel_left]
theorem wd_b(i:Nat)(hi:i<8):(wd a b c).getLsbD (8+i)=b.getLsbD i:=by
 rw[sD _ _ _ _ (by omega),if_neg (by omega),if_pos (by omega),Nat.add_sub_cancel_left]
theorem wd_c(i:Nat)(hi:i<8):(wd a b c).getLsbD i=c.getLsbD i:=by
 rw[sD _ _ _ _ (by omega),if_pos (by omega)]
theorem wZ:six (wd a b c) 0<<<2|||six (wd a b c) 1>>>4=a:=by
 apply BitVec.eq_of_getLsbD_eq;intro i hi;rw[BitVec.getLsbD_or,BitVec.getLsbD_shiftLeft,BitVec.getLsbD_ushiftRight,eD,eD];by_cases h:i<2
 ·have h1:4+i<6:=by omega
  rw[show 18-6*1+(4+i)=16+i by omega,wd_a _ _ _ _ hi];simp[h,h1]
 ·have h1: ¬4+i<6:=by omega
  have h2:i-2<6:=by omega
  rw[show 18-6*0+(i-2)=16+i by omega,wd_a _ _ _ _ hi];simp[h,h1,h2,hi]
theorem yF:six (wd a b c) 1<<<4|||six (wd a b c) 2>>>2=b:=by
 apply BitVec.eq_of_getLsbD_eq;intro i hi;rw[BitVec.getLsbD_or,BitVec.getLsbD_shiftLeft,BitVec.getLsbD_ushiftRight,eD,eD];by_cases h:i<4
 ·have h1:2+i<6:=by omega
  rw[show 18-6*2+(2+i)=8+i by omega,wd_b _ _ _ _ hi];simp[h,h1]
 ·have h1: ¬2+i<6:=by omega
  have h2:i-4<6:=by omega
  rw[show 18-6*1+(i-4)=8+i by omega,wd_b _ _ _ _ hi];simp[h,h1,h2,hi]
theorem BO:six (wd a b c) 2<<<6|||six (wd a b c) 3=c:=by
 apply BitVec.eq_of_getLsbD_eq;intro i hi;rw[BitVec.getLsbD_or,BitVec.getLsbD_shiftLeft,eD,eD];by_cases h:i<6
 ·rw[show 18-6*3+i=i by omega,wd_c _ _ _ _ hi];simp[h]
 ·have h2:i-6<6:=by omega
  rw[show 18-6*2+(i-6)=i by omega,wd_c _ _ _ _ hi];simp[h,h2,hi]
theorem zR:six (wd a b 0) 2<<<6=0#8:=by
 apply BitVec.eq_of_getLsbD_eq;intro i hi;rw[BitVec.getLsbD_shiftLeft,eD];by_cases h:i<6
 ·simp[h]
 ·rw[show 18-6*2+(i-6)=i by omega,wd_c _ _ _ _ hi];simp
theorem zS:six (wd a 0 0) 1<<<4=0#8:=by
 apply BitVec.eq_of_getLsbD_eq;intro i hi;rw[BitVec.getLsbD_shiftLeft,eD];by_cases h:i<4
 ·simp[h]
 ·rw[show 18-6*1+(i-4)=8+i by omega,wd_b _ _ _ _ hi];simp
end
theorem oM: ∀l:Y8,dec (enc l)=some l
 | []=>rfl
 | [a]=>by
  show dec [sig (wd a 0 0) 0,sig (wd a 0 0) 1]=_;simp only[dec,oL,Option.bind_some,zS,if_true,wZ]
 | [a,b]=>by
  show dec [sig (wd a b 0) 0,sig (wd a b 0) 1,sig (wd a b 0) 2]=_;simp only[dec,oL,Option.bind_some,zR,if_true,wZ,yF]
 |a::b::c::r=>by
  have ih:=oM r;show dec (sig (wd a b c) 0::sig (wd a b c) 1::sig (wd a b c) 2::sig (wd a b c) 3::enc r)=_;simp only[dec,oL,Option.bind_some,wZ,yF,BO,ih,Option.map_some]
theorem ym {a b:Y8}(h:enc a=enc b):a=b:=by
 have:=congrArg dec h;rw[oM,oM]at this;exact Option.some.inj this
theorem mp: ∀l:Y8,(enc l).length=l.length/3*4+(if l.length %3=0 then 0 else l.length %3+1)
 | []=>rfl
 | [a]=>by show(sigs _ _).length=_;rw[bB];simp
 | [a,b]=>by show(sigs _ _).length=_;rw[bB];simp
 |x::y::z::r=>by
  have ih:=mp r;simp only[enc,List.length_append,bB,ih,List.length_cons];have e1:(r.length+1+1+1)/3=r.length/3+1:=by omega
  have e2:(r.length+1+1+1) %3=r.length %3:=by omega
  rw[e1,e2]
  split<;>omega
section
variable {p q r u:BitVec 8}
end
end Go.Proofs.YtlpkfdkhlffmlaaGreatDoor
