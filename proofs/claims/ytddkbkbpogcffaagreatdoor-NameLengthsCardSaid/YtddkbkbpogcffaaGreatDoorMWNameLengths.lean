/-NameLengths:the walk-/
import Derived.Test.YtddkbkbpogcffaaGreatDoorMKi
namespace Go.Proofs.YtddkbkbpogcffaaGreatDoor
open Go.Proofs.Tryz
open Lib (hid)
set_option linter.unusedSimpArgs false
set_option linter.unusedVariables false
set_option maxRecDepth 100000
set_option maxHeartbeats 1600000
open Go.RowKit
theorem Ot(alg:Int)(a:Option Addr)(n c:Nat)(pad:Int)(f:BitVec 64)(s key l:Y8)(w:World)(hT:Turning w)(hB:Blaking w)(hr:Rd8 w a n c key)(hl:l.length≤maxLen):
  Calls prog 5 #[.agg (NxC alg a n c pad f s),.string (str l)] w fun e w' =>e= .returned (.bool true)∧Below w.heap.size w w':=by
 obtain⟨T,hTT⟩: ∃T,T=NxC alg a n c pad f s:=⟨_,rfl⟩;have RG:=fun w1=>yg alg a n c pad f s w1;rw[←hTT]at RG;rw[←hTT];have s0:T.size=5:=by rw[hTT];rfl
 have t2:T[2]? =some (.int .i64 pad):=by rw[hTT];rfl
 have t3:T[3]? =some (v64 f):=by rw[hTT];rfl
 have t4:T[4]? =some (.string (str s)):=by rw[hTT];rfl
 obtain⟨W,hW⟩: ∃W,w.alloc (.cells T 25)=W:=⟨_,rfl⟩;obtain⟨b0,hb,hz⟩:=new1 _ _ _ _ hW;have S0:=hid (show NxS w W w.heap.size T a n c key from⟨b0,hT.below hb,hB.below hb,hr.below hb,hb⟩);have T2:=hid t2;have T3:=hid t3;have T4:=hid t4;have RGH:=hid (RG W);have HTT:=hid hTT;clear b0 hb hz hT hB hr hTT RG t2 t3 t4;go_enter func5,ntmps5;have l0:=S0.out.get s0;go_wp2_with fail;refine RGH.out.mono ?_;rintro e w1 ⟨rfl,d1⟩;have S1:=hid (S0.out.step d1);clear d1 RGH S0 l0;by_cases hok:iP alg n pad s;rotate_left
 ·rw[decide_eq_false hok];go_wp2;go_ret;exact⟨rfl,S1.out.bel⟩
 rw[decide_eq_true hok];have c4:=S1.out.cell T4.out;obtain⟨q,hq,rfl⟩:=FT hok.2.2.1;have hs4:=hok.2.2.2;have HQ:=hid hq;have HWR:=hid hok.2.1;clear hok hq;have c4':=c4;go_wp2_with fail;refine(sU s w1 (by omega)).mono ?_;rintro e wq ⟨rfl,rfl⟩;by_cases hri:bT s;rotate_left
 ·rw[decide_eq_false hri];go_wp2;go_ret;exact⟨rfl,S1.out.bel⟩
 rw[decide_eq_true hri];have HRI:=hid hri;clear hri;go_wp2_with fail;refine(sU l w1 (by unfold maxLen at hl;omega)).mono ?_;rintro e wq ⟨rfl,rfl⟩;by_cases hri2:bT l;rotate_left
 ·rw[decide_eq_false hri2];go_wp2;go_ret;exact⟨rfl,S1.out.bel⟩
 rw[decide_eq_true hri2];have HRI2:=hid hri2;clear hri2 c4';have NN:=wA alg a n c q f s key w1 S1.out.tur S1.out.bla S1.out.key HWR.out HQ.out;rw[←HTT.out]at NN;have NNH:=hid NN;have l1:=S1.out.get s0;clear NN;go_wp2_with fail;refine NNH.out.mono ?_;rintro e w2 ⟨h,rfl,hn,d2⟩;obtain⟨E,hE⟩: ∃E,E=uR alg key:=⟨_,rfl⟩;obtain⟨D,hD⟩: ∃D,D=uS alg key:=⟨_,rfl⟩;rw[←hE,←hD]at hn;have S2:=hid (S1.out.step d2);have N2:=hid hn;have OK:=hid hn.ok;clear hn d2 l1 NNH S1 c4 hE hD;have EN:=tP h q E D s f w2 N2.out HQ.out (by omega);rw[(sN s).2 HRI.out]at EN;have EN2:=fun w3 (N3:NsAt w3 h (q:Int) E D)=>tP h q E D l f w3 N3 HQ.out (by have:=HRI2.out.2.1;omega);simp only[(sN l).2 HRI2.out]at EN2;have hap:=Oi f OK.out HQ.out s l HRI.out HRI2.out;have hle:=Og f OK.out HQ.out s l HRI.out HRI2.out;obtain⟨X,hX⟩: ∃X,X=js E f s q:=⟨_,rfl⟩;obtain⟨Y,hY⟩: ∃Y,Y=js E f l q:=⟨_,rfl⟩;rw[←hX]at EN hap hle;rw[←hY]at hap hle;simp only[←hY]at EN2;have ENH:=hid EN;have EN2H:=hid EN2;have HAP:=hid hap;have HLE:=hid hle;have c3:=S2.out.cell T3.out;have c4:=S2.out.cell T4.out;clear EN EN2 hap hle hX hY;go_wp2_with fail;refine ENH.out.mono ?_;rintro e w3 ⟨rfl,d3⟩;have S3:=hid (S2.out.step d3);have N3:=hid (N2.out.below d3);have k3:=S3.out.cell T3.out;clear d3 ENH S2 N2 c3 c4;go_wp2_with fail;refine(EN2H.out w3 N3.out).mono ?_;rintro e w4 ⟨rfl,d4⟩;have S4:=hid (S3.out.step d4);have c4:=S4.out.cell T4.out;clear d4 EN2H S3 N3 k3;have hz1:=ee s;have hz2:=ee l
 have hz3:=ee X;have hz4:=ee Y;obtain⟨m1,hm1⟩: ∃m,m=s.length:=⟨_,rfl⟩;obtain⟨m2,hm2⟩: ∃m,m=l.length:=⟨_,rfl⟩;obtain⟨m3,hm3⟩: ∃m,m=X.length:=⟨_,rfl⟩;obtain⟨m4,hm4⟩: ∃m,m=Y.length:=⟨_,rfl⟩;have hle:=HLE.out;have b1:m1≤255:=by rw[hm1];exact HRI.out.2.1
 have b2:m2≤255:=by rw[hm2];exact HRI2.out.2.1
 rw[←hm1]at hz1 hle;rw[←hm2]at hz2 hle;rw[←hm3]at hz3 hle;rw[←hm4]at hz4 hle;obtain⟨A1,hA1⟩: ∃A,A=m1+q:=⟨_,rfl⟩;obtain⟨B1,hB1⟩: ∃B,B=m1+q-1:=⟨_,rfl⟩;obtain⟨C1,hC1⟩: ∃C,C=B1/q:=⟨_,rfl⟩;obtain⟨A2,hA2⟩: ∃A,A=m2+q:=⟨_,rfl⟩;obtain⟨B2,hB2⟩: ∃B,B=m2+q-1:=⟨_,rfl⟩;obtain⟨C2,hC2⟩: ∃C,C=B2/q:=⟨_,rfl⟩;have hp0:1≤q∧q≤64:=by rcases HQ.out with rfl|rfl|rfl<;>omega
 rw[←hB1,←hB2,←hC1,←hC2]at hle;have HLE2:=hid hle;have hCB1:C1≤B1:=by rw[hC1];exact Nat.div_le_self _ _
 have hCB2:C2≤B2:=by rw[hC2];exact Nat.div_le_self _ _
 have x1:(m1:Int)+(q:Int)=(A1:Int):=by omega
 have x2:IntKind.i64.wrap (A1:Int)=(A1:Int):=by rw[IntKind.wrap_i64];omega
 have x3:(A1:Int)-1=(B1:Int):=by omega
 have x4:IntKind.i64.wrap (B1:Int)=(B1:Int):=by rw[IntKind.wrap_i64];omega
 have x5:(B1:Int)/(q:Int)=(C1:Int):=by rw[hC1];exact(Int.natCast_ediv B1 q).symm
 have x5':Int.tdiv (B1:Int) (q:Int)=(C1:Int):=by rw[Int.tdiv_eq_ediv_of_nonneg (by omega)];exact x5
 have x6:IntKind.i64.wrap (C1:Int)=(C1:Int):=by rw[IntKind.wrap_i64];omega
 have y1:(m2:Int)+(q:Int)=(A2:Int):=by omega
 have y2:IntKind.i64.wrap (A2:Int)=(A2:Int):=by rw[IntKind.wrap_i64];omega
 have y3:(A2:Int)-1=(B2:Int):=by omega
 have y4:IntKind.i64.wrap (B2:Int)=(B2:Int):=by rw[IntKind.wrap_i64];omega
 have y5:(B2:Int)/(q:Int)=(C2:Int):=by rw[hC2];exact(Int.natCast_ediv B2 q).symm
 have y5':Int.tdiv (B2:Int) (q:Int)=(C2:Int):=by rw[Int.tdiv_eq_ediv_of_nonneg (by omega)];exact y5
 have y6:IntKind.i64.wrap (C2:Int)=(C2:Int):=by rw[IntKind.wrap_i64];omega
 have z1: ¬(q:Int)=0:=by omega
 have z2:((q:Int)==0)=false:=by simp;omega
 have z3: ¬q=0:=by omega
 clear hA1 hB1 hC1 hA2 hB2 hC2 hCB1 hCB2 hm1 hm2 hm3 hm4 HLE HAP hle hp0 b1 b2;go_upto_region 6 with fail;refine aw [0,5,0,0,5,0,0,0,5,0,0,0,0,5,0,0,0,5,0,0,0] (by kernel_rfl) (by kernel_rfl) (fun C0 hC0 hCb K' hK' => ?_);have Q1: ∀w1,C0 w1→w1.cell? ⟨w.heap.size,4,none⟩=some (.string (str s)):=fun w1 hw=>(S4.out.blk.drew.belowAll (hCb w1 hw)).cell 4|>.trans T4.out;have Q2: ∀w1,C0 w1→w1.cell? ⟨w.heap.size,2,none⟩=some (.int .i64 (q:Int)):=fun w1 hw=>(S4.out.blk.drew.belowAll (hCb w1 hw)).cell 2|>.trans T2.out;clear c4
 repeat (first|((with_reducible refine hq0 ?_);refine hq0a ?_)|((with_reducible refine hq5 ?_);refine hq5a ?_ (fun _ hcw=>by have f1:=Q1 _ hcw;have f2:=Q2 _ hcw;go_simp;(try go_bits);exact rfl))|((with_reducible refine hq1 ?_);refine hq1a ?_))
 refine aU [] rfl (by simp) (az (hK' _ _ ?_));clear Q1 Q2 hC0 hCb hK';clear C0 K';have S5:=hid (S4.out.step ((Below.refl w4.heap.size w4).drew));clear S4;by_cases hcc:C1=C2
 ·have hmm:=HLE2.out.2 hcc;subst hcc;subst hmm;clear HLE2;have AW:=hid (yy w4.drew S5.out.tur);have DN:=hid S5.out.bel;go_wp2_with fail;refine AW.out.mono ?_;rintro e wz ⟨rfl,dz⟩;have DZ:=hid (DN.out.trans (dz.mono DN.out.size));clear dz;go_wp2;go_ret;exact⟨rfl,DZ.out⟩
 ·have hmm: ¬m3=m4:=fun h=>hcc (HLE2.out.1 h);have e1:((C1:Int)==(C2:Int))=false:=by simp;omega
  have e2:((m3:Int)==(m4:Int))=false:=by simp;omega
  clear HLE2;have AW:=hid (yy w4.drew S5.out.tur);have DN:=hid S5.out.bel;go_wp2_with fail;refine AW.out.mono ?_;rintro e wz ⟨rfl,dz⟩;have DZ:=hid (DN.out.trans (dz.mono DN.out.size));clear dz;go_wp2;go_ret;exact⟨rfl,DZ.out⟩
end Go.Proofs.YtddkbkbpogcffaaGreatDoor
