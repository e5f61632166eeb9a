/-NameApart:the walk-/
import Derived.Test.YtddkbkbpogcffaaGreatDoorMKi
namespace Go.Proofs.YtddkbkbpogcffaaGreatDoor
open Go.Proofs.Tryz
open Lib (hid)
set_option linter.unusedSimpArgs false
set_option linter.unusedVariables false
set_option maxRecDepth 100000
set_option maxHeartbeats 1600000
open Go.RowKit
theorem On(alg:Int)(a:Option Addr)(n c:Nat)(pad:Int)(f:BitVec 64)(s key l:Y8)(w:World)(hT:Turning w)(hB:Blaking w)(hr:Rd8 w a n c key)(hl:l.length≤maxLen):
  Calls prog 4 #[.agg (NxC alg a n c pad f s),.string (str l)] w fun e w' =>e= .returned (.bool true)∧Below w.heap.size w w':=by
 obtain⟨T,hTT⟩: ∃T,T=NxC alg a n c pad f s:=⟨_,rfl⟩;have RG:=fun w1=>yg alg a n c pad f s w1;rw[←hTT]at RG;rw[←hTT];have s0:T.size=5:=by rw[hTT];rfl
 have t2:T[2]? =some (.int .i64 pad):=by rw[hTT];rfl
 have t3:T[3]? =some (v64 f):=by rw[hTT];rfl
 have t4:T[4]? =some (.string (str s)):=by rw[hTT];rfl
 obtain⟨W,hW⟩: ∃W,w.alloc (.cells T 25)=W:=⟨_,rfl⟩;obtain⟨b0,hb,hz⟩:=new1 _ _ _ _ hW;have S0:=hid (show NxS w W w.heap.size T a n c key from⟨b0,hT.below hb,hB.below hb,hr.below hb,hb⟩);have T2:=hid t2;have T3:=hid t3;have T4:=hid t4;have RGH:=hid (RG W);have HTT:=hid hTT;clear b0 hb hz hT hB hr hTT RG t2 t3 t4;go_enter func4,ntmps4;have l0:=S0.out.get s0;go_wp2_with fail;refine RGH.out.mono ?_;rintro e w1 ⟨rfl,d1⟩;have S1:=hid (S0.out.step d1);clear d1 RGH S0 l0;by_cases hok:iP alg n pad s;rotate_left
 ·rw[decide_eq_false hok];go_wp2;go_ret;exact⟨rfl,S1.out.bel⟩
 rw[decide_eq_true hok];have c4:=S1.out.cell T4.out;obtain⟨q,hq,rfl⟩:=FT hok.2.2.1;have hs4:=hok.2.2.2;have HQ:=hid hq;have HWR:=hid hok.2.1;clear hok hq;have c4':=c4;go_wp2_with fail;refine(sU s w1 (by omega)).mono ?_;rintro e wq ⟨rfl,rfl⟩;by_cases hri:bT s;rotate_left
 ·rw[decide_eq_false hri];go_wp2;go_ret;exact⟨rfl,S1.out.bel⟩
 rw[decide_eq_true hri];have HRI:=hid hri;clear hri;go_wp2_with fail;refine(sU l w1 (by unfold maxLen at hl;omega)).mono ?_;rintro e wq ⟨rfl,rfl⟩;by_cases hri2:bT l;rotate_left
 ·rw[decide_eq_false hri2];go_wp2;go_ret;exact⟨rfl,S1.out.bel⟩
 rw[decide_eq_true hri2];have HRI2:=hid hri2;clear hri2 c4';have NN:=wA alg a n c q f s key w1 S1.out.tur S1.out.bla S1.out.key HWR.out HQ.out;rw[←HTT.out]at NN;have NNH:=hid NN;have l1:=S1.out.get s0;clear NN;go_wp2_with fail;refine NNH.out.mono ?_;rintro e w2 ⟨h,rfl,hn,d2⟩;obtain⟨E,hE⟩: ∃E,E=uR alg key:=⟨_,rfl⟩;obtain⟨D,hD⟩: ∃D,D=uS alg key:=⟨_,rfl⟩;rw[←hE,←hD]at hn;have S2:=hid (S1.out.step d2);have N2:=hid hn;have OK:=hid hn.ok;clear hn d2 l1 NNH S1 c4 hE hD;have EN:=tP h q E D s f w2 N2.out HQ.out (by omega);rw[(sN s).2 HRI.out]at EN;have EN2:=fun w3 (N3:NsAt w3 h (q:Int) E D)=>tP h q E D l f w3 N3 HQ.out (by have:=HRI2.out.2.1;omega);simp only[(sN l).2 HRI2.out]at EN2;have hap:=Oi f OK.out HQ.out s l HRI.out HRI2.out;have hle:=Og f OK.out HQ.out s l HRI.out HRI2.out;obtain⟨X,hX⟩: ∃X,X=js E f s q:=⟨_,rfl⟩;obtain⟨Y,hY⟩: ∃Y,Y=js E f l q:=⟨_,rfl⟩;rw[←hX]at EN hap hle;rw[←hY]at hap hle;simp only[←hY]at EN2;have ENH:=hid EN;have EN2H:=hid EN2;have HAP:=hid hap;have HLE:=hid hle;have c3:=S2.out.cell T3.out;have c4:=S2.out.cell T4.out;clear EN EN2 hap hle hX hY;go_wp2_with fail;refine ENH.out.mono ?_;rintro e w3 ⟨rfl,d3⟩;have S3:=hid (S2.out.step d3);have N3:=hid (N2.out.below d3);have k3:=S3.out.cell T3.out;clear d3 ENH S2 N2 c3 c4;go_wp2_with fail;refine(EN2H.out w3 N3.out).mono ?_;rintro e w4 ⟨rfl,d4⟩;have S4:=hid (S3.out.step d4);have c4:=S4.out.cell T4.out;clear d4 EN2H S3 N3 k3;have sb1:=Ol X Y;have sb2:=Ol s l
 by_cases hsl:s=l
 ·have hxy:=HAP.out.2 hsl;subst hsl;subst hxy;clear sb1 sb2 HAP HLE;have AW:=hid (yy w4 S4.out.tur);have DN:=hid S4.out.bel;go_wp2_with fail;refine AW.out.mono ?_;rintro e wz ⟨rfl,dz⟩;have DZ:=hid (DN.out.trans (dz.mono DN.out.size));clear dz;go_wp2;go_ret;exact⟨rfl,DZ.out⟩
 ·have hxy: ¬X=Y:=fun h=>hsl (HAP.out.1 h);have e1:((str X).toList==(str Y).toList)=false:=by rw[sb1];simpa using hxy
  have e2:((str s).toList==(str l).toList)=false:=by rw[sb2];simpa using hsl
  have e3: ¬(str X).toList=(str Y).toList:=by simpa using e1
  have e4: ¬(str s).toList=(str l).toList:=by simpa using e2
  clear sb1 sb2 HAP HLE hsl hxy;have AW:=hid (yy w4 S4.out.tur);have DN:=hid S4.out.bel;go_wp2_with fail;refine AW.out.mono ?_;rintro e wz ⟨rfl,dz⟩;have DZ:=hid (DN.out.trans (dz.mono DN.out.size));clear dz;go_wp2;go_ret;exact⟨rfl,DZ.out⟩
end Go.Proofs.YtddkbkbpogcffaaGreatDoor
