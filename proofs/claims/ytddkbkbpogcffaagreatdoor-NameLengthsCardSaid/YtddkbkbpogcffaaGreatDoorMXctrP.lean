/-xctr,plain:a stream of blocks of sixteen;no two numbers,no two starts make one block-/
import Derived.Test.YtddkbkbpogcffaaGreatDoorMGc
import Derived.Test.YtddkbkbpogcffaaGreatDoorMGb
namespace Go.Proofs.YtddkbkbpogcffaaGreatDoor
set_option linter.unusedSimpArgs false
set_option linter.unusedVariables false
set_option maxRecDepth 100000
set_option maxHeartbeats 1600000
open Go.RowKit
def kU(f:Nat→Y8)(b:Y8):Y8:=(List.range b.length).map fun i=>nth b i^^^nth (f (i/16)) (i %16)
theorem dx(f:Nat→Y8)(b:Y8):(kU f b).length=b.length:=by simp[kU]
theorem lw(f:Nat→Y8)(b:Y8)(i:Nat)(h:i<b.length):nth (kU f b) i=nth b i^^^nth (f (i/16)) (i %16):=by
 simp[nth,kU,List.getD_eq_getElem?_getD,h]
theorem AV(f:Nat→Y8)(b:Y8)(m:Nat)(hf:(f m).length=16):(kU f b).take (16*m)++xorl (b.drop (16*m)) (f m)=(kU f b).take (16*(m+1)):=by
 have hl:=dx f b;have hx:=aJ (b.drop (16*m)) (f m);rw[hf,List.length_drop]at hx;apply aO
 ·simp[hl,hx];omega
 ·intro i hi;simp[hl,hx]at hi;rw[bK,List.length_take,hl,br (kU f b) _ _ (show i<16*(m+1) by omega),lw f b i (by omega)];by_cases h:i<16*m
  ·rw[if_pos (by omega),br _ _ _ h,lw f b i (by omega)]
  ·have e1:i/16=m:=by omega
   have e2:i %16=i-16*m:=by omega
   rw[if_neg (by omega),show min (16*m) b.length=16*m by omega,gY _ _ _ (by rw[hf,List.length_drop];omega),bQ,show 16*m+(i-16*m)=i by omega,e1,e2]
theorem AX(f:Nat→Y8)(b:Y8):kU f (kU f b)=b:=by
 apply aO
 ·rw[dx,dx]
 ·intro i hi;rw[dx,dx]at hi;rw[lw _ _ _ (by rw[dx];exact hi),lw _ _ _ hi];generalize nth (f (i/16)) (i %16)=y;generalize nth b i=x;rw[BitVec.xor_assoc,BitVec.xor_self,BitVec.xor_zero]
def xctS(s:Y8)(y:BitVec 64):Y8:=xrTo s (le64 y) 8
end Go.Proofs.YtddkbkbpogcffaaGreatDoor
