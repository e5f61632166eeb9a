/-aes:Expand where there is no key;Rounds,At-/
import Derived.Test.YtlpkfdkhlffmlaaGreatDoorMAes3
import Derived.Test.YtlpkfdkhlffmlaaGreatDoorMGs
import Derived.Test.YtlpkfdkhlffmlaaGreatDoorMGb
namespace Go.Proofs.YtlpkfdkhlffmlaaGreatDoor
open Go.Proofs.Tryz
open Lib (hid)
set_option linter.unusedSimpArgs false
set_option linter.unusedVariables false
set_option maxRecDepth 100000
set_option maxHeartbeats 1600000
open Go.RowKit
theorem cG(L:Y8)(m j:Nat)(h:L.length=m*16)(hj:j<m):(cF L j).length=16:=by
 rw[cF,List.length_take,List.length_drop,h];omega
open Go.RowKit
def gx(L:Y8)(m:Nat):Y8:=(L.take ((m-1)*16)).drop 16
def encS(L:Y8)(m:Nat)(b:Y8):Y8:=jL (rnds (gx L m) (bG b (cF L 0)) (m-2)) (cF L (m-1))
theorem pk(k p m:Nat)(L b:Y8)(w:World)(h:KeyAt w k p m L)(hb16:b.length=16)(hm:3≤m)(hm2:m≤100):
  Calls prog 69 #[.pointer (some ⟨k,0,none⟩),.agg (A8 b)] w fun e w' =>e= .returned (.agg (A8 (encS L m b)))∧Below w.heap.size w w':=by
 obtain⟨W,hW⟩: ∃W,(w.alloc (.cells (A8 b) 154)).alloc (.cells (A8 (aa 8 16)) 154)=W:=⟨_,rfl⟩;obtain⟨b0,b1,hb,hz⟩:=new2 _ _ _ _ _ _ hW;have HH:=hid h;obtain⟨hT,g,c,h1,h2⟩:=h.below hb;have c2:W.cell? ⟨k,1,none⟩=some (.slice (some ⟨g,0,none⟩) m c):=h1.cell 1;have P0:=hid b0;have Z0:=hid b1;have B0:=hid hb;have T0:=hid hT;have K0:=hid h1;have R0:=hid h2;have hmc:=h2.2.1;have hcm:=h2.2.2.1;have hLl:=h2.1;obtain⟨I,hI⟩: ∃I,I=m-1:=⟨_,rfl⟩;have f1:(m:Int)-1=(I:Int):=by omega
 have f2:IntKind.i64.wrap (I:Int)=(I:Int):=by unfold maxLen at hcm;rw[IntKind.wrap_i64];omega
 have HI:=hid hI;have HLL:=hid hLl;clear b0 b1 hb hz hT h1 h2 h hI hLl;go_enter func69,ntmps69;go_upto_region 4 with fail;clear hW c2;have hI1:I-1=m-2:=by have:=HI.out;omega
 have i1:(1:Int)≤(I:Int):=by have:=HI.out;omega
 have i2:(I:Int)≤(c:Int):=by have:=HI.out;omega
 have i3: ¬c=1:=by omega
 have i4:0<m:=by omega
 have i5:(I:Int)<(m:Int):=by omega
 have i6:(0:Int)≤(I:Int):=by omega
 have hk0l:=cG L m 0 HLL.out (by omega);obtain⟨k0,hk0⟩: ∃k0,k0=cF L 0:=⟨_,rfl⟩;rw[←hk0]at hk0l;have HK0:=hid hk0;clear hk0;refine an [0,0,0,5,5,0,0,0,5,0,5,2,0,0,0,5,0,0,2,3] (by kernel_rfl) (by kernel_rfl) (fun C hC0 hCb K' hK' => ?_);have R1: ∀w1,C w1→w1.cell? ⟨k,0,none⟩=some (.pointer (some ⟨p,0,none⟩)):=fun w1 h=>(K0.out.drew.belowAll (hCb w1 h)).cell 0;have R2: ∀w1,C w1→w1.cell? ⟨k,1,none⟩=some (.slice (some ⟨g,0,none⟩) m c):=fun w1 h=>(K0.out.drew.belowAll (hCb w1 h)).cell 1;have R3: ∀w1,C w1→ar w1 w.heap.size=A8 b:=fun w1 h=>(P0.out.drew.belowAll (hCb w1 h)).row;have R4: ∀w1,C w1→(ce 154 (.pointer (some ⟨g,0,none⟩))).run prog w1= .ok (.agg (A8 k0)) w1:=fun w1 h=>by
  have c3:=(R0.out.drew.below (hCb w1 h)).row (t:=154) (isAgg154 _) (sizeOf154 _) 0 (by omega);rw[HK0.out];exact c3
 repeat (first|((with_reducible refine hq0 ?_);refine hq0a ?_)|((with_reducible refine hq5 ?_);refine hq5a ?_ (fun _ hcw=>by have f:=R1 _ hcw;have f':=R2 _ hcw;have f'':=R3 _ hcw;have f3:=R4 _ hcw;go_simp;(try go_bits);exact rfl))|((with_reducible refine hq1 ?_);refine hq1a ?_))
 refine hqc ?_;go_simp;refine ae ?_;refine(mM b k0 W.drew hb16 hk0l).mono ?_;rintro e w3 ⟨rfl,b3⟩;refine⟨_,rfl,b3,?_⟩
 try simp only[Act.put,zz1,zz2,zz3]
 repeat (first|((with_reducible refine hq0 ?_);refine hq0a ?_)|((with_reducible refine hq5 ?_);refine hq5a ?_ (fun _ hcw=>by have f:=R1 _ hcw;have f':=R2 _ hcw;have f'':=R3 _ hcw;have f3:=R4 _ hcw;go_simp;(try go_bits);exact rfl))|((with_reducible refine hq1 ?_);refine hq1a ?_))
 have rm:=(R0.out.drew.below b3).mid (j:=1) (k:=I) (c':=c-1) (by omega) (by omega) (by omega) (by omega);rw[Nat.zero_add,hI1,show 1*16=16 from rfl,show(L.take (I*16)).drop 16=gx L m by rw[HI.out];rfl]at rm;obtain⟨M,hM⟩: ∃M,M=gx L m:=⟨_,rfl⟩;rw[←hM]at rm;obtain⟨d,hd⟩: ∃d,d=bG b k0:=⟨_,rfl⟩;have hdl:d.length=16:=by rw[hd];exact aZ b k0
 rw[←hd];have HM:=hid hM;have HD:=hid hd;clear hM hd;refine hqc ?_;go_simp;refine ae ?_;refine(pj p d M g 16 (m-2) (c-1) w3 (T0.out.drew.below b3) hdl rm (by omega)).mono ?_;rintro e w4 ⟨rfl,b4⟩;refine⟨_,rfl,b4,?_⟩
 try simp only[Act.put,zz1,zz2,zz3]
 obtain⟨Y,hY⟩: ∃Y,Y=rnds M d (m-2):=⟨_,rfl⟩;rw[←hY];have hYl:Y.length=16:=by rw[hY];exact dr _ _ hdl _
 have HY:=hid hY;refine bJ [2] rfl (by simp) ?_;have b34:=b3.trans (b4.mono b3.size);refine am (P0.out.drew.belowAll b34) rfl rfl (by rw[au,au,hYl,hb16]) (aB _) (by rw[au,hYl];exact sizeOf154 _) (fun w5 k5 g5 s5=> ?_);refine ak (hK' _ _ ?_);have d4:=B0.out.drew.trans (b34.mono B0.out.size);have B5:=hid (d4.trans (ac g5 (Nat.le_refl _) d4.size));have Z5:=hid ((Z0.out.drew.belowAll b34).grown g5 (by simp));have P5:=hid k5;clear R1 R2 R3 R4 hC0 hCb hK' rm b3 b4 b34 k5 g5 s5 d4 hY;obtain⟨kl,hkl⟩: ∃kl,kl=cF L (m-1):=⟨_,rfl⟩;have hkll:kl.length=16:=by rw[hkl];exact cG L m _ HLL.out (by omega)
 have HKL:=hid hkl;have efin:jL Y kl=encS L m b:=by rw[HY.out,HM.out,HD.out,HK0.out,hkl];rfl
 obtain⟨U,hU⟩: ∃U,U=encS L m b:=⟨_,rfl⟩;have hUl:U.length=16:=by rw[hU];exact iw _ _
 rw[←hU]at efin;have EF:=hid efin;have HU:=hid hU;obtain⟨hT5,g6,c6,h6,r6⟩:=HH.out.below B5.out;have T5:=hid hT5;have K5:=hid h6;have R5:=hid r6;clear hkl efin hU hT5 h6 r6 P0 Z0 B0 T0 K0 R0;go_upto_region 5 with fail;refine an [0,0,0,5,5,0,0,0,5,0,0,5,2,3] (by kernel_rfl) (by kernel_rfl) (fun C hC0 hCb K' hK' => ?_);have R1: ∀w1,C w1→w1.cell? ⟨k,0,none⟩=some (.pointer (some ⟨p,0,none⟩)):=fun w1 h=>(K5.out.drew.belowAll (hCb w1 h)).cell 0;have R2: ∀w1,C w1→w1.cell? ⟨k,1,none⟩=some (.slice (some ⟨g6,0,none⟩) m c6):=fun w1 h=>(K5.out.drew.belowAll (hCb w1 h)).cell 1;have R3: ∀w1,C w1→ar w1 w.heap.size=A8 Y:=fun w1 h=>(P5.out.drew.belowAll (hCb w1 h)).row;have R4: ∀w1,C w1→(ce 154 (.pointer (some ⟨g6,I*16,none⟩))).run prog w1= .ok (.agg (A8 kl)) w1:=fun w1 h=>by
  have c3:=(R5.out.drew.below (hCb w1 h)).row (t:=154) (isAgg154 _) (sizeOf154 _) I (by have:=HI.out;omega);rw[Nat.zero_add]at c3;rw[HKL.out,←HI.out];exact c3
 repeat (first|((with_reducible refine hq0 ?_);refine hq0a ?_)|((with_reducible refine hq5 ?_);refine hq5a ?_ (fun _ hcw=>by have f:=R1 _ hcw;have f':=R2 _ hcw;have f'':=R3 _ hcw;have f3:=R4 _ hcw;go_simp;(try go_bits);exact rfl))|((with_reducible refine hq1 ?_);refine hq1a ?_))
 refine hqc ?_;go_simp;refine ae ?_;refine(tX p Y kl w5.drew T5.out.drew hYl hkll).mono ?_;rintro e w7 ⟨rfl,b7⟩;refine⟨_,rfl,b7,?_⟩
 try simp only[Act.put,zz1,zz2,zz3]
 rw[EF.out];refine bJ [2] rfl (by simp) ?_;refine am (Z5.out.drew.belowAll b7) rfl rfl (by rw[au,au,hUl,af]) (aB _) (by rw[au,hUl];exact sizeOf154 _) (fun w8 k8 g8 s8=> ?_);refine ak (hK' _ _ ?_);have r8:=k8.row;have d7:=B5.out.drew.trans (b7.mono B5.out.size);have B8:=d7.trans (ac g8 (by omega) d7.size);clear R1 R2 R3 R4 hC0 hCb hK' b7 g8 s8 d7;go_wp2;rw[←HU.out];refine ag (A8 U) rfl rfl rfl (isAgg154 _) (sizeOf154 _) (by rw[au];exact hUl) r8 ⟨rfl,B8⟩
open Go.RowKit
def cY(L:Y8)(m:Nat)(b:Y8):Nat→Y8
 |0=>ef b (cF L (m-1))
 |t+1=>dl (cY L m b t) (cF L (m-2-t))
def decS(L:Y8)(m:Nat)(b:Y8):Y8:=bG (cY L m b (m-2)) (cF L 0)
theorem eE(L:Y8)(m:Nat)(b:Y8): ∀t,(cY L m b t).length=16
 |0=>fJ _ _
 |_+1=>fE _ _
theorem ub(L:Y8)(m j:Nat)(hj:j+2<m)(hL:L.length=m*16):cF (gx L m) j=cF L (j+1):=by
 unfold cF gx;apply aD
 ·simp[hL];omega
 ·intro i hi;have hi16:i<16:=by simp at hi;omega
  rw[aJ _ _ _ hi16,bv,bv,aJ _ _ _ (by omega),aJ _ _ _ hi16,bv];congr 1;omega
theorem pm(L:Y8)(m:Nat)(b:Y8)(hb:b.length=16)(hL:L.length=m*16)(hm:3≤m): ∀t,t≤m-2→cY L m (encS L m b) t=rnds (gx L m) (bG b (cF L 0)) (m-2-t)
 |0,_=>by
  rw[cY,encS,oN _ _ (dr _ _ (aZ _ _) _),Nat.sub_zero]
 |t+1,h=>by
  rw[cY,pm L m b hb hL hm t (by omega),show m-2-t=(m-2-(t+1))+1 by omega,rnds,ub L m _ (by omega) hL];exact mr _ _ (dr _ _ (aZ _ _) _)
theorem po(L:Y8)(m:Nat)(b:Y8)(hb:b.length=16)(hL:L.length=m*16)(hm:3≤m):decS L m (encS L m b)=b:=by
 rw[decS,pm L m b hb hL hm (m-2) (Nat.le_refl _),Nat.sub_self,rnds,gW _ _ hb]
open Go.RowKit
theorem jQ(L:Y8)(m:Nat)(b:Y8):(encS L m b).length=16:=iw _ _
theorem pp(L:Y8)(m:Nat)(b:Y8):(decS L m b).length=16:=aZ _ _
open Go.RowKit
theorem pq(k p m:Nat)(L b:Y8)(w:World)(h:KeyAt w k p m L)(hb16:b.length=16)(hm:3≤m)(hm2:m≤100):
  Calls prog 228 #[.pointer (some ⟨k,0,none⟩),.agg (A8 b)] w fun e w' =>e= .returned (.agg (A8 (decS L m b)))∧Below w.heap.size w w':=by
 obtain⟨W,hW⟩: ∃W,(w.alloc (.cells (A8 b) 154)).alloc (.cells (A8 (aa 8 16)) 154)=W:=⟨_,rfl⟩;obtain⟨b0,b1,hb,hz⟩:=new2 _ _ _ _ _ _ hW;have HH:=hid h;obtain⟨hT,g,c,h1,h2⟩:=h.below hb;have c2:W.cell? ⟨k,1,none⟩=some (.slice (some ⟨g,0,none⟩) m c):=h1.cell 1;have P0:=hid b0;have Z0:=hid b1;have B0:=hid hb;have T0:=hid hT;have K0:=hid h1;have R0:=hid h2;have hcm:=h2.2.2.1;have hLl:=h2.1;obtain⟨I,hI⟩: ∃I,I=m-1:=⟨_,rfl⟩;have f1:(m:Int)-1=(I:Int):=by omega
 have f2:IntKind.i64.wrap (I:Int)=(I:Int):=by unfold maxLen at hcm;rw[IntKind.wrap_i64];omega
 have HI:=hid hI;have HLL:=hid hLl;clear b0 b1 hb hz hT h1 h2 h hI hLl;go_enter func228,ntmps228;go_upto_region 4 with fail;clear hW c2;have i5:(I:Int)<(m:Int):=by omega
 have i6:(0:Int)≤(I:Int):=by omega
 obtain⟨kl,hkl⟩: ∃kl,kl=cF L (m-1):=⟨_,rfl⟩;have hkll:kl.length=16:=by rw[hkl];exact cG L m _ HLL.out (by omega)
 have HKL:=hid hkl;clear hkl;refine an [0,0,0,5,5,0,0,0,5,0,0,5,2,3] (by kernel_rfl) (by kernel_rfl) (fun C hC0 hCb K' hK' => ?_);have R1: ∀w1,C w1→w1.cell? ⟨k,0,none⟩=some (.pointer (some ⟨p,0,none⟩)):=fun w1 h=>(K0.out.drew.belowAll (hCb w1 h)).cell 0;have R2: ∀w1,C w1→w1.cell? ⟨k,1,none⟩=some (.slice (some ⟨g,0,none⟩) m c):=fun w1 h=>(K0.out.drew.belowAll (hCb w1 h)).cell 1;have R3: ∀w1,C w1→ar w1 w.heap.size=A8 b:=fun w1 h=>(P0.out.drew.belowAll (hCb w1 h)).row;have R4: ∀w1,C w1→(ce 154 (.pointer (some ⟨g,I*16,none⟩))).run prog w1= .ok (.agg (A8 kl)) w1:=fun w1 h=>by
  have c3:=(R0.out.drew.below (hCb w1 h)).row (t:=154) (isAgg154 _) (sizeOf154 _) I (by have:=HI.out;omega);rw[Nat.zero_add]at c3;rw[HKL.out,←HI.out];exact c3
 repeat (first|((with_reducible refine hq0 ?_);refine hq0a ?_)|((with_reducible refine hq5 ?_);refine hq5a ?_ (fun _ hcw=>by have f:=R1 _ hcw;have f':=R2 _ hcw;have f'':=R3 _ hcw;have f3:=R4 _ hcw;go_simp;(try go_bits);exact rfl))|((with_reducible refine hq1 ?_);refine hq1a ?_))
 refine hqc ?_;go_simp;refine ae ?_;refine(oZ p b kl W.drew T0.out.drew hb16 hkll).mono ?_;rintro e w3 ⟨rfl,b3⟩;refine⟨_,rfl,b3,?_⟩
 try simp only[Act.put,zz1,zz2,zz3]
 obtain⟨Y,hY⟩: ∃Y,Y=ef b kl:=⟨_,rfl⟩;rw[←hY];have hYl:Y.length=16:=by rw[hY];exact fJ _ _
 have HY:=hid hY;refine bJ [2] rfl (by simp) ?_;refine am (P0.out.drew.belowAll b3) rfl rfl (by rw[au,au,hYl,hb16]) (aB _) (by rw[au,hYl];exact sizeOf154 _) (fun w5 k5 g5 s5=> ?_);refine ak (hK' _ _ ?_);have d4:=B0.out.drew.trans (b3.mono B0.out.size);have B5:=hid (d4.trans (ac g5 (Nat.le_refl _) d4.size));have Z5:=hid ((Z0.out.drew.belowAll b3).grown g5 (by simp));have P5:=hid k5;have HU0:cY L m b 0=Y:=by rw[cY,HY.out,HKL.out]
 clear R1 R2 R3 R4 hC0 hCb hK' b3 k5 g5 s5 d4 hY P0 Z0 B0 T0 K0 R0;go_wp2_with fail;go_loopw [5] (fun i wr=> ∃t J:Nat,t+2≤m∧J+t+1=m∧i= .int .i64 J∧Blk wr w.heap.size 154 (A8 (cY L m b t))∧Blk wr (w.heap.size+1) 154 (A8 (aa 8 16))∧Below w.heap.size w wr) (fun i _=>(intOf i).toNat)
 case atStart=>exact⟨0,I,by omega,by have:=HI.out;omega,rfl,by rw[HU0];exact P5.out,Z5.out,B5.out⟩
 case round=>
  obtain⟨t,J,ht,hJ,rfl,hP,hZ,hB⟩:=hrel;have P1:=hid hP;have Z1:=hid hZ;have B1:=hid hB;have HJ:=hid hJ;have HTT:=hid ht;have hJm:J≤99:=by omega
  obtain⟨hT1,g1,c1,h1,r1⟩:=HH.out.below hB;have T1:=hid hT1;have K1:=hid h1;have R1:=hid r1;clear hP hZ hB P5 Z5 B5 HU0 hT1 h1 r1 hJ f1 f2 i5 i6 ht hm hm2;by_cases hj1:1<J
  ·obtain⟨E,hE⟩: ∃E,E=J-1:=⟨_,rfl⟩;have f1:(J:Int)-1=(E:Int):=by omega
   have f2:IntKind.i64.wrap (E:Int)=(E:Int):=by rw[IntKind.wrap_i64];omega
   have i1:(1:Int)<(J:Int):=by omega
   have i5:(E:Int)<(m:Int):=by have:=HJ.out;omega
   have i6:(0:Int)≤(E:Int):=by omega
   have HE:=hid hE;clear hE hJm;obtain⟨x,hx⟩: ∃x,x=cY L m b t:=⟨_,rfl⟩;have hxl:x.length=16:=by rw[hx];exact eE _ _ _ _
   have HX:=hid hx;obtain⟨ke,hke⟩: ∃ke,ke=cF L E:=⟨_,rfl⟩;have hkel:ke.length=16:=by rw[hke];exact cG L m _ HLL.out (by omega)
   have HKE:=hid hke;clear hx hke;go_upto_region 7 with fail;refine an [0,0,0,5,5,0,0,0,5,0,0,5,2,3] (by kernel_rfl) (by kernel_rfl) (fun C hC0 hCb K' hK' => ?_);have q1: ∀w1,C w1→w1.cell? ⟨k,0,none⟩=some (.pointer (some ⟨p,0,none⟩)):=fun w1 h=>(K1.out.drew.belowAll (hCb w1 h)).cell 0;have q2: ∀w1,C w1→w1.cell? ⟨k,1,none⟩=some (.slice (some ⟨g1,0,none⟩) m c1):=fun w1 h=>(K1.out.drew.belowAll (hCb w1 h)).cell 1;have q3: ∀w1,C w1→ar w1 w.heap.size=A8 x:=fun w1 h=>by rw[HX.out];exact(P1.out.drew.belowAll (hCb w1 h)).row
   have q4: ∀w1,C w1→(ce 154 (.pointer (some ⟨g1,E*16,none⟩))).run prog w1= .ok (.agg (A8 ke)) w1:=fun w1 h=>by
    have c3:=(R1.out.drew.below (hCb w1 h)).row (t:=154) (isAgg154 _) (sizeOf154 _) E (by omega);rw[Nat.zero_add]at c3;rw[HKE.out];exact c3
   repeat (first|((with_reducible refine hq0 ?_);refine hq0a ?_)|((with_reducible refine hq5 ?_);refine hq5a ?_ (fun _ hcw=>by have f:=q1 _ hcw;have f':=q2 _ hcw;have f'':=q3 _ hcw;have f3:=q4 _ hcw;go_simp;(try go_bits);exact rfl))|((with_reducible refine hq1 ?_);refine hq1a ?_))
   refine hqc ?_;go_simp;refine ae ?_;refine(nO p x ke wr.drew T1.out.drew hxl hkel).mono ?_;rintro e w3 ⟨rfl,b3⟩;refine⟨_,rfl,b3,?_⟩
   try simp only[Act.put,zz1,zz2,zz3]
   obtain⟨Y,hY⟩: ∃Y,Y=dl x ke:=⟨_,rfl⟩;rw[←hY];have hYl:Y.length=16:=by rw[hY];exact fE _ _
   have HY:=hid hY;refine bJ [2] rfl (by simp) ?_;refine am (P1.out.drew.belowAll b3) rfl rfl (by rw[au,au,hYl,eE]) (aB _) (by rw[au,hYl];exact sizeOf154 _) (fun w5 k5 g5 s5=> ?_);refine ak (hK' _ _ ?_);have d4:=B1.out.drew.trans (b3.mono B1.out.size);have B5:=hid (d4.trans (ac g5 (Nat.le_refl _) d4.size));have Z5:=hid ((Z1.out.drew.belowAll b3).grown g5 (by simp));have P5:=hid k5;have HU1:cY L m b (t+1)=Y:=by rw[cY,HY.out,HKE.out,HX.out];congr 2;have:=HJ.out;have:=HE.out;omega
   clear q1 q2 q3 q4 hC0 hCb hK' b3 k5 g5 s5 d4 hY P1 Z1 B1;go_wp2;exact⟨⟨t+1,E,by have:=HJ.out;omega,by have:=HJ.out;have:=HE.out;omega,rfl,by rw[HU1];exact P5.out,Z5.out,B5.out⟩,by simp[intOf];have:=HE.out;omega⟩
  ·have i1: ¬(1:Int)<(J:Int):=by omega
   have i4:0<m:=by have:=HJ.out;omega
   obtain⟨x,hx⟩: ∃x,x=cY L m b t:=⟨_,rfl⟩;have hxl:x.length=16:=by rw[hx];exact eE _ _ _ _
   have HX:=hid hx;obtain⟨ke,hke⟩: ∃ke,ke=cF L 0:=⟨_,rfl⟩;have hkel:ke.length=16:=by rw[hke];exact cG L m _ HLL.out (by omega)
   have HKE:=hid hke;have EF:bG x ke=decS L m b:=by rw[decS,hx,hke];congr 2;have:=HJ.out;have:=HTT.out;omega
   obtain⟨U,hU⟩: ∃U,U=decS L m b:=⟨_,rfl⟩;have hUl:U.length=16:=by rw[hU];exact aZ _ _
   rw[←hU]at EF;have EF:=hid EF;have HU:=hid hU;clear hx hke hU hJm;go_upto_region 8 with fail;refine an [5,0,0,0,5,0,5,2,3] (by kernel_rfl) (by kernel_rfl) (fun C hC0 hCb K' hK' => ?_);have q2: ∀w1,C w1→w1.cell? ⟨k,1,none⟩=some (.slice (some ⟨g1,0,none⟩) m c1):=fun w1 h=>(K1.out.drew.belowAll (hCb w1 h)).cell 1;have q3: ∀w1,C w1→ar w1 w.heap.size=A8 x:=fun w1 h=>by rw[HX.out];exact(P1.out.drew.belowAll (hCb w1 h)).row
   have q4: ∀w1,C w1→(ce 154 (.pointer (some ⟨g1,0,none⟩))).run prog w1= .ok (.agg (A8 ke)) w1:=fun w1 h=>by
    have c3:=(R1.out.drew.below (hCb w1 h)).row (t:=154) (isAgg154 _) (sizeOf154 _) 0 (by omega);rw[HKE.out];exact c3
   repeat (first|((with_reducible refine hq0 ?_);refine hq0a ?_)|((with_reducible refine hq5 ?_);refine hq5a ?_ (fun _ hcw=>by have f':=q2 _ hcw;have f'':=q3 _ hcw;have f3:=q4 _ hcw;go_simp;(try go_bits);exact rfl))|((with_reducible refine hq1 ?_);refine hq1a ?_))
   refine hqc ?_;go_simp;refine ae ?_;refine(mM x ke wr.drew hxl hkel).mono ?_;rintro e w7 ⟨rfl,b7⟩;refine⟨_,rfl,b7,?_⟩
   try simp only[Act.put,zz1,zz2,zz3]
   rw[EF.out];refine bJ [2] rfl (by simp) ?_;refine am (Z1.out.drew.belowAll b7) rfl rfl (by rw[au,au,hUl,af]) (aB _) (by rw[au,hUl];exact sizeOf154 _) (fun w8 k8 g8 s8=> ?_);refine ak (hK' _ _ ?_);have r8:=k8.row;have d7:=B1.out.drew.trans (b7.mono B1.out.size);have B8:=d7.trans (ac g8 (by omega) d7.size);clear q2 q3 q4 hC0 hCb hK' b7 g8 s8 d7;go_wp2;rw[←HU.out];refine ag (A8 U) rfl rfl rfl (isAgg154 _) (sizeOf154 _) (by rw[au];exact hUl) r8 ⟨rfl,B8⟩
open Go.ChangeShapes Go.WideShapes Go.ChangeAt Go.RowKit
end Go.Proofs.YtlpkfdkhlffmlaaGreatDoor
