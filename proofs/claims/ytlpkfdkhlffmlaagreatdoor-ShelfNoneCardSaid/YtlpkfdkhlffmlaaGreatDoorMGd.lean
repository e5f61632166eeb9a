/-turn:Round-/
import Derived.Test.YtlpkfdkhlffmlaaGreatDoorMGc
namespace Go.Proofs.YtlpkfdkhlffmlaaGreatDoor
open Go.Proofs.Tryz
open Lib (hid)
set_option linter.unusedSimpArgs false
set_option linter.unusedVariables false
set_option maxRecDepth 100000
set_option maxHeartbeats 1600000
open Go.RowKit
theorem gY(r c F:Nat)(w:World)(hr:r<4)(hc:c<4)(hF:F=r+4*((c+r) %4)):
  Calls prog 137 #[.int .i64 r,.int .i64 c] w fun e w' =>e= .returned (.int .i64 (F:Int))∧w=w':=by
 subst hF;exact oW r c w hr hc
theorem le(x:BitVec 8):BitVec.ofNat 8 x.toNat=x:=by simp
theorem TabAt.mix {w:World} {p:Nat}(h:TabAt w p)(r:Nat)(x:BitVec 8)(hr:r<4):w.cell? ⟨p,1+r*256+x.toNat,none⟩=some (v32 (col mixM r (box x))):=by
 obtain⟨q,h1,h2⟩:=h;have hx:=x.isLt;rw[show 1+r*256+x.toNat=1+(256*r+x.toNat) by omega,h1.cell,qN _ _ _ (by rw[fK];omega),kX _ (by omega),oV r _ hr (by omega),le]
theorem TabAt.unmix {w:World} {p:Nat}(h:TabAt w p)(r:Nat)(x:BitVec 8)(hr:r<4):w.cell? ⟨p,1025+r*256+x.toNat,none⟩=some (v32 (col unmixM r x)):=by
 obtain⟨q,h1,h2⟩:=h;have hx:=x.isLt;rw[show 1025+r*256+x.toNat=1+(1024+(256*r+x.toNat)) by omega,h1.cell,qN _ _ _ (by rw[fK];omega),kX _ (by omega),kY r _ hr (by omega),le]
theorem qP(p:Nat)(b key:Y8)(w:World)(hT:TabAt w p)(hb16:b.length=16)(hk16:key.length=16):
  Calls prog 136 #[.pointer (some ⟨p,0,none⟩),.agg (A8 b),.agg (A8 key)] w fun e w' =>e= .returned (.agg (A8 (dJ b key)))∧Below w.heap.size w w':=by
 obtain⟨W,hW⟩: ∃W,(((w.alloc (.cells (A8 b) 154)).alloc (.cells (A8 key) 154)).alloc (.cells (A8 (aa 8 16)) 154)).alloc (.cells (A8 (aa 8 16)) 154)=W:=⟨_,rfl⟩;obtain⟨b0,b1,b2,b3,hb,hz⟩:=new4 _ _ _ _ _ _ _ _ _ _ hW;have T0:=hid hT;have P0:=hid b0;have Q0:=hid b1;have Z0:=hid b2;have O0:=hid b3;have B0:=hid hb;obtain⟨L,hL⟩: ∃L,L=dJ b key:=⟨_,rfl⟩;have hLl:L.length=16:=by rw[hL];simp
 have hcol: ∀c,c<4→le32 (dQ mixM (word key (4*c)) (fun r=>box (nth b (r+4*((c+r) %4)))) 4)=(L.drop (4*c)).take 4:=fun c hc=>by rw[hL];exact oX b key c hc
 rw[←hL];have HC:=hid hcol;have HL:=hid hLl;clear b0 b1 b2 b3 hb hz hT hL hcol hLl;go_enter func136,ntmps136;go_wp2_with fail;go_loopw [15] (fun i wr=> ∃c:Nat,c≤4∧i= .int .i64 c∧Blk wr w.heap.size 154 (A8 b)∧Blk wr (w.heap.size+1) 154 (A8 key)∧Blk wr (w.heap.size+2) 154 (A8 (aa 8 16))∧Blk wr (w.heap.size+3) 154 (A8 (cg 16 L (4*c)))∧Below w.heap.size w wr) (fun i _=>4-(intOf i).toNat)
 case atStart=>exact⟨0,by omega,rfl,P0.out,Q0.out,Z0.out,by rw[Nat.mul_zero,dL];exact O0.out,B0.out⟩
 case round=>
  obtain⟨c,hc,rfl,hP,hQ,hZ,hO,hB⟩:=hrel;have P1:=hid hP;have Q1:=hid hQ;have Z1:=hid hZ;have O1:=hid hO;have B1:=hid hB;clear hP hQ hZ hO hB P0 Q0 Z0 O0 B0 hW;by_cases hc4:c<4
  ·have j1:(c:Int)<4:=by omega
   have j0:(0:Int)≤(c:Int):=by omega
   obtain⟨E,hE⟩: ∃E,E=4*c:=⟨_,rfl⟩;have f1:(4:Int)*(c:Int)=(E:Int):=by omega
   have f2:IntKind.i64.wrap (E:Int)=(E:Int):=by rw[IntKind.wrap_i64];omega
   have HE:=hid hE;have rk:=Q1.out.rd8 16 (by omega) (by rw[hk16];unfold maxLen;omega);rw[List.take_of_length_le (by omega),hk16]at rk;have RK:=hid rk;clear hE rk;go_wp2_with fail;refine(bW key _ 16 16 (E:Int) wr RK.out (by omega) (by have:=HE.out;omega)).mono ?_;rintro e w1 ⟨rfl,hb1⟩;rw[Int.toNat_natCast];have P2:=hid (P1.out.belowAll hb1);have Q2:=hid (Q1.out.belowAll hb1);have Z2:=hid (Z1.out.belowAll hb1);have O2:=hid (O1.out.belowAll hb1);have B2:=hid (B1.out.trans (hb1.mono B1.out.size));have hz3:=O1.out.lt;clear hb1 P1 Q1 Z1 O1 B1 RK;go_wp2_with fail;go_loopw [9,22] (fun n i wx=> ∃r:Nat,r≤4∧i= .int .i64 r∧n=v32 (dQ mixM (word key E) (fun r=>box (nth b (r+4*((c+r) %4)))) r)∧Below w1.heap.size w1 wx) (fun _ i _=>4-(intOf i).toNat)
   case atStart=>exact⟨0,by omega,rfl,rfl,Below.refl _ _⟩
   case round=>
    obtain⟨r,hr,rfl,rfl,hB⟩:=hrel;have B3:=hid hB;clear hB;by_cases hr4:r<4
    ·have k1:(r:Int)<4:=by omega
     have k0:(0:Int)≤(r:Int):=by omega
     obtain⟨F,hF⟩: ∃F,F=r+4*((c+r) %4):=⟨_,rfl⟩;have hF16:F<16:=by omega
     have k3:(F:Int)<16:=by omega
     have k4:(0:Int)≤(F:Int):=by omega
     have c1:=(P2.out.belowAll B3.out).drew.cell8 hb16 F hF16;have c2:=((T0.out.below (B2.out.trans (B3.out.mono B2.out.size))).drew).mix r (nth b F) hr4;obtain⟨N,hN⟩: ∃N,N=dQ mixM (word key E) (fun r=>box (nth b (r+4*((c+r) %4)))) r:=⟨_,rfl⟩;rw[←hN];have HN:=hid hN;have HF:=hid hF;clear hN hF;go_upto_region 11 with fail;refine ao [0,0,0,0,0,3,0,1,0,0,0,0,1,0,0] (by kernel_rfl) (by kernel_rfl) (fun ops' K2 hK2=> ?_)
     repeat (first|((with_reducible refine zq0 ?_);refine zq0a ?_)|((with_reducible refine zq1 ?_);refine zq1a ?_))
     ((with_reducible refine lA (v:= ?_) (a':= ?_) rfl (fun _=> ?_) ?_ ?_);rotate_left;rotate_left)
     ·go_simp;refine cu ?_;exact gY r c F _ hr4 hc4 HF.out
     ·(simp only[Act.put,zz1,zz2,zz3,Act.eval,zz4,zz5,zz6,zz7,zz8];exact rfl)
     repeat (first|((with_reducible refine zq0 ?_);refine zq0a ?_)|((with_reducible refine zq1 ?_);refine zq1a ?_))
     refine ak (hK2 _ _ ?_);clear c1 c2 hK2;go_wp2;refine⟨⟨r+1,by omega,by go_num,?_,B3.out.drew⟩,by simp[intOf];omega⟩;rw[dQ,←HN.out,←HF.out]
    ·obtain rfl:r=4:=by omega
     have hcc:=HC.out c hc4;rw[←HE.out]at hcc;obtain⟨N,hN⟩: ∃N,N=dQ mixM (word key E) (fun r=>box (nth b (r+4*((c+r) %4)))) 4:=⟨_,rfl⟩;rw[←hN]at hcc⊢;have HCC:=hid hcc;clear hcc hN;go_wp2_with fail;refine(ei N _).mono ?_;rintro e w4 ⟨rfl,hb4⟩;have b14:=B3.out.trans (hb4.mono B3.out.size);have P4:=hid ((P2.out.belowAll b14).alloc (.cells (A8 (le32 N)) 75));have Q4:=hid ((Q2.out.belowAll b14).alloc (.cells (A8 (le32 N)) 75));have Z4:=hid ((Z2.out.belowAll b14).alloc (.cells (A8 (le32 N)) 75));have O4:=hid ((O2.out.belowAll b14).alloc (.cells (A8 (le32 N)) 75));have N4:=hid (Blk.new w4 75 (A8 (le32 N)));have d4:=B2.out.trans (b14.mono B2.out.size);have B4:=hid (d4.alloc d4.size (.cells (A8 (le32 N)) 75));have h14:=(O2.out.belowAll b14).lt;clear hb4 b14 d4 P2 Q2 Z2 O2 B2 B3;go_upto_region 14 with fail;generalize w4.alloc (.cells (A8 (le32 N)) 75)=W4 at*;generalize w4.heap.size=pN at*;have e1:(E:Int)≤16:=by have:=HE.out;omega
     have e0:(0:Int)≤(E:Int):=by omega
     have e2: ¬16=E:=by have:=HE.out;omega
     refine ao [0,0,0,0,2] (by kernel_rfl) (by kernel_rfl) (fun ops' K2 hK2=> ?_)
     repeat (first|((with_reducible refine zq0 ?_);refine zq0a ?_)|((with_reducible refine zq1 ?_);refine zq1a ?_))
     have rn:=N4.out.drew.rd8 4 (by simp) (by simp;unfold maxLen;omega);refine cH O4.out.drew rn rfl rfl underlying22 eo (by rw[ay];omega) (fun w5 v5 k5 g5 s5=> ?_);refine ak (hK2 _ _ ?_);have e5:splc (cg 16 L (4*c)) E (((le32 N).take 4).take (min 4 (16-E)))=cg 16 L (4*(c+1)):=by
      have hE:=HE.out;rw[List.take_of_length_le (l:=le32 N) (by simp),List.take_of_length_le (by simp;omega),HCC.out,hE];exact jr L HL.out c hc4
     rw[e5]at k5;have P5:=hid (P4.out.drew.grown g5 (by simp));have Q5:=hid (Q4.out.drew.grown g5 (by simp));have Z5:=hid (Z4.out.drew.grown g5 (by simp));have O5:=hid k5;have B5:=hid (B4.out.drew.trans (ac g5 (by omega) B4.out.size));clear k5 g5 s5 e5 rn hK2 P4 Q4 Z4 O4 N4 B4 e2;go_wp2;exact⟨⟨c+1,by omega,by go_num,P5.out,Q5.out,Z5.out,O5.out,B5.out⟩,by simp[intOf];omega⟩
  ·obtain rfl:c=4:=by omega
   have zz:=O1.out;rw[show 4*4=16 from rfl,dN 16 L HL.out]at zz;have r1:=zz.row;have r2:=Z1.out.row;have r3:=Z1.out.whole;have hl:=HL.out;clear zz;go_wp2;refine ag (A8 L) rfl rfl rfl (isAgg154 _) (sizeOf154 _) (by rw[au];exact hl) (ah _ r3) ⟨rfl,below_setRow B1.out (by omega) _⟩
open Go.RowKit
theorem vO(b:Y8)(c r:Nat)(hc:c<4)(hr:r<4):nth (cz (cP box b)) (4*c+r)=box (nth b (r+4*((c+r) %4))):=by
 rw[cz,br _ _ (by omega),cP,br _ _ (by unfold shp;omega),show shp (4*c+r)=r+4*((c+r) %4) by unfold shp;omega]
def unTo(b:Y8)(m:Nat):Y8:=r16 fun i=>if jK i<m then ed (nth b (jK i))else 0
@[simp] theorem dq(b:Y8)(m:Nat):(unTo b m).length=16:=by simp[unTo]
theorem tV(b:Y8):unTo b 0=aa 8 16:=by
 apply aD
 ·simp
 ·intro i hi;rw[dq]at hi;rw[unTo,br _ _ hi,cT];simp
theorem tW(b:Y8):unTo b 16=cP ed (bT b):=fc fun i hi=>by
 rw[if_pos (jk i hi).2.1,bT,br _ _ hi]
theorem vP(b:Y8)(m:Nat)(hm:m<16):(unTo b m).set (shp m) (ed (nth b m))=unTo b (m+1):=by
 apply aD
 ·simp
 ·intro i hi;rw[List.length_set,dq]at hi;rw[dg _ _ _ _ (by rw[dq];exact(jk m hm).1),unTo,br _ _ hi,unTo,br _ _ hi];by_cases h:shp m=i
  ·subst h;rw[if_pos rfl,(jk m hm).2.2.2,if_pos (by omega)]
  ·have hne:jK i≠m:=fun e=>h (by rw[←e];exact(jk i hi).2.2.1);rw[if_neg h];by_cases h2:jK i<m
   ·rw[if_pos h2,if_pos (by omega)]
   ·rw[if_neg h2,if_neg (by omega)]
theorem tX(p:Nat)(b key:Y8)(w:World)(hT:TabAt w p)(hb16:b.length=16)(hk16:key.length=16):
  Calls prog 105 #[.pointer (some ⟨p,0,none⟩),.agg (A8 b),.agg (A8 key)] w fun e w' =>e= .returned (.agg (A8 (jL b key)))∧Below w.heap.size w w':=by
 obtain⟨W,hW⟩: ∃W,(((w.alloc (.cells (A8 b) 154)).alloc (.cells (A8 key) 154)).alloc (.cells (A8 (aa 8 16)) 154)).alloc (.cells (A8 (aa 8 16)) 154)=W:=⟨_,rfl⟩;obtain⟨b0,b1,b2,b3,hb,hz⟩:=new4 _ _ _ _ _ _ _ _ _ _ hW;obtain⟨q,hT1,hT2⟩:=hT;have T0:=hid hT1;have X0:=hid hT2;have P0:=hid b0;have Q0:=hid b1;have Z0:=hid b2;have O0:=hid b3;have B0:=hid hb;obtain⟨L,hL⟩: ∃L,L=cz (cP box b):=⟨_,rfl⟩;have hLl:L.length=16:=by rw[hL];simp
 have hnth: ∀c r,c<4→r<4→box (nth b (r+4*((c+r) %4)))=nth L (4*c+r):=fun c r hc hr=>by rw[hL];exact(vO b c r hc hr).symm
 rw[show jL b key=bG L key by rw[hL];rfl];have HN:=hid hnth;have HL:=hid hLl;clear b0 b1 b2 b3 hb hz hT1 hT2 hL hnth hLl;go_enter func105,ntmps105;go_wp2_with fail;go_loopw [13] (fun i wr=> ∃c:Nat,c≤4∧i= .int .i64 c∧Blk wr w.heap.size 154 (A8 b)∧Blk wr (w.heap.size+1) 154 (A8 key)∧Blk wr (w.heap.size+2) 154 (A8 (aa 8 16))∧Blk wr (w.heap.size+3) 154 (A8 (cg 16 L (4*c)))∧Below w.heap.size w wr) (fun i _=>4-(intOf i).toNat)
 case atStart=>exact⟨0,by omega,rfl,P0.out,Q0.out,Z0.out,by rw[Nat.mul_zero,dL];exact O0.out,B0.out⟩
 case round=>
  obtain⟨c,hc,rfl,hP,hQ,hZ,hO,hB⟩:=hrel;have P1:=hid hP;have Q1:=hid hQ;have Z1:=hid hZ;have O1:=hid hO;have B1:=hid hB;clear hP hQ hZ hO hB P0 Q0 Z0 O0 B0 hW;by_cases hc4:c<4
  ·have j1:(c:Int)<4:=by omega
   have j0:(0:Int)≤(c:Int):=by omega
   obtain⟨E,hE⟩: ∃E,E=4*c:=⟨_,rfl⟩;have f1:(4:Int)*(c:Int)=(E:Int):=by omega
   have f2:IntKind.i64.wrap (E:Int)=(E:Int):=by rw[IntKind.wrap_i64];omega
   have HE:=hid hE;clear hE;go_wp2_with fail;go_loopw [16] (fun i wx=> ∃r:Nat,r≤4∧i= .int .i64 r∧Blk wx w.heap.size 154 (A8 b)∧Blk wx (w.heap.size+1) 154 (A8 key)∧Blk wx (w.heap.size+2) 154 (A8 (aa 8 16))∧Blk wx (w.heap.size+3) 154 (A8 (cg 16 L (4*c+r)))∧Below w.heap.size w wx) (fun i _=>4-(intOf i).toNat)
   case atStart=>exact⟨0,by omega,rfl,P1.out,Q1.out,Z1.out,O1.out,B1.out⟩
   case round=>
    obtain⟨r,hr,rfl,hP,hQ,hZ,hO,hB⟩:=hrel;have P2:=hid hP;have Q2:=hid hQ;have Z2:=hid hZ;have O2:=hid hO;have B2:=hid hB;clear hP hQ hZ hO hB P1 Q1 Z1 O1 B1;by_cases hr4:r<4
    ·have k1:(r:Int)<4:=by omega
     have k0:(0:Int)≤(r:Int):=by omega
     obtain⟨F,hF⟩: ∃F,F=r+4*((c+r) %4):=⟨_,rfl⟩;have hF16:F<16:=by omega
     have k3:(F:Int)<16:=by omega
     have k4:(0:Int)≤(F:Int):=by omega
     obtain⟨G,hG⟩: ∃G,G=4*c+r:=⟨_,rfl⟩;have hG16:G<16:=by omega
     have g1:(r:Int)+(E:Int)=(G:Int):=by have:=HE.out;omega
     have g2:IntKind.i64.wrap (G:Int)=(G:Int):=by rw[IntKind.wrap_i64];omega
     have g3:(G:Int)<16:=by omega
     have g4:(0:Int)≤(G:Int):=by omega
     have c1:=P2.out.drew.cell8 hb16 F hF16;have c2:=(T0.out.belowAll B2.out).drew.cell 0;rw[nN]at c2;have hnb:=HN.out c r hc4 hr4;rw[←hF,←hG]at hnb;rw[←hG]at O2;have HNB:=hid hnb;have HF:=hid hF;have HG:=hid hG;clear hF hG hnb;go_upto_region 10 with fail;refine ao [0,0,0,0,0,0,0,1,0,0,3,0,1,1,0,2] (by kernel_rfl) (by kernel_rfl) (fun ops' K2 hK2=> ?_)
     repeat (first|((with_reducible refine zq0 ?_);refine zq0a ?_)|((with_reducible refine zq1 ?_);refine zq1a ?_))
     ((with_reducible refine lA (v:= ?_) (a':= ?_) rfl (fun _=> ?_) ?_ ?_);rotate_left;rotate_left)
     ·go_simp;refine cu ?_;exact gY r c F _ hr4 hc4 HF.out
     ·(simp only[Act.put,zz1,zz2,zz3,Act.eval,zz4,zz5,zz6,zz7,zz8];exact rfl)
     repeat (first|((with_reducible refine zq0 ?_);refine zq0a ?_)|((with_reducible refine zq1 ?_);refine zq1a ?_))
     ((with_reducible refine nY (v:= ?_) (a':= ?_) rfl ?_ ?_ ?_);rotate_left;rotate_left)
     ·go_simp;refine cu ?_;exact qJ q (nth b F) _ (X0.out.belowAll B2.out).drew
     ·(simp only[Act.put,zz1,zz2,zz3,Act.eval,zz4,zz5,zz6,zz7,zz8];exact rfl)
     repeat (first|((with_reducible refine zq0 ?_);refine zq0a ?_)|((with_reducible refine zq1 ?_);refine zq1a ?_))
     refine eP O2.out.drew rfl rfl (by rw[ay];exact hG16) (sizeOf5 _) (fun w5 k5 g5 s5=> ?_);refine ak (hK2 _ _ ?_);rw[HNB.out,mI 16 L G hG16,HG.out]at k5;have P5:=hid (P2.out.drew.grown g5 (by simp));have Q5:=hid (Q2.out.drew.grown g5 (by simp));have Z5:=hid (Z2.out.drew.grown g5 (by simp));have O5:=hid k5;have B5:=hid (B2.out.drew.trans (ac g5 (by omega) B2.out.size));clear k5 g5 s5 c1 c2 hK2 P2 Q2 Z2 O2 B2;go_wp2;exact⟨⟨r+1,by omega,by go_num,P5.out,Q5.out,Z5.out,O5.out,B5.out⟩,by simp[intOf];omega⟩
    ·obtain rfl:r=4:=by omega
     have hO:=O2.out;rw[show 4*c+4=4*(c+1) by omega]at hO;have O3:=hid hO;clear hO O2;go_wp2;exact⟨⟨c+1,by omega,by go_num,P2.out,Q2.out,Z2.out,O3.out,B2.out⟩,by simp[intOf];omega⟩
  ·obtain rfl:c=4:=by omega
   have zz:=O1.out;rw[show 4*4=16 from rfl,dN 16 L HL.out]at zz;have hl:=HL.out;have r1:=zz.row;have r2:=Q1.out.row;clear zz;go_wp2_with fail;refine(jp L key wr hl hk16).mono ?_;rintro e w5 ⟨rfl,hb5⟩;have r3:=(Z1.out.belowAll hb5).whole;have r4:=(Z1.out.belowAll hb5).row;have B5:=B1.out.trans (hb5.mono B1.out.size);have hlx:=aZ L key;go_wp2;refine ag (A8 (bG L key)) rfl rfl rfl (isAgg154 _) (sizeOf154 _) (by rw[au];exact hlx) (ah _ r3) ⟨rfl,below_setRow B5 (by omega) _⟩
open Go.RowKit
theorem jP(p:Nat)(b:Y8)(w:World)(hT:TabAt w p)(hb16:b.length=16):
  Calls prog 243 #[.pointer (some ⟨p,0,none⟩),.agg (A8 b)] w fun e w' =>e= .returned (.agg (A8 (cP ed (bT b))))∧Below w.heap.size w w':=by
 obtain⟨W,hW⟩: ∃W,((w.alloc (.cells (A8 b) 154)).alloc (.cells (A8 (aa 8 16)) 154)).alloc (.cells (A8 (aa 8 16)) 154)=W:=⟨_,rfl⟩;obtain⟨b0,b1,b2,hb,hz⟩:=new3 _ _ _ _ _ _ _ _ hW;obtain⟨q,hT1,hT2⟩:=hT;have T0:=hid hT1;have X0:=hid hT2;have P0:=hid b0;have Z0:=hid b1;have O0:=hid b2;have B0:=hid hb;have huf:=tW b;rw[←huf];clear b0 b1 b2 hb hz hT1 hT2 huf;go_enter func243,ntmps243;go_wp2_with fail;go_loopw [8] (fun i wr=> ∃c:Nat,c≤4∧i= .int .i64 c∧Blk wr w.heap.size 154 (A8 b)∧Blk wr (w.heap.size+1) 154 (A8 (aa 8 16))∧Blk wr (w.heap.size+2) 154 (A8 (unTo b (4*c)))∧Below w.heap.size w wr) (fun i _=>4-(intOf i).toNat)
 case atStart=>exact⟨0,by omega,rfl,P0.out,Z0.out,by rw[Nat.mul_zero,tV];exact O0.out,B0.out⟩
 case round=>
  obtain⟨c,hc,rfl,hP,hZ,hO,hB⟩:=hrel;have P1:=hid hP;have Z1:=hid hZ;have O1:=hid hO;have B1:=hid hB;clear hP hZ hO hB P0 Z0 O0 B0 hW;by_cases hc4:c<4
  ·have j1:(c:Int)<4:=by omega
   have j0:(0:Int)≤(c:Int):=by omega
   obtain⟨E,hE⟩: ∃E,E=4*c:=⟨_,rfl⟩;have f1:(4:Int)*(c:Int)=(E:Int):=by omega
   have f2:IntKind.i64.wrap (E:Int)=(E:Int):=by rw[IntKind.wrap_i64];omega
   have HE:=hid hE;clear hE;go_wp2_with fail;go_loopw [11] (fun i wx=> ∃r:Nat,r≤4∧i= .int .i64 r∧Blk wx w.heap.size 154 (A8 b)∧Blk wx (w.heap.size+1) 154 (A8 (aa 8 16))∧Blk wx (w.heap.size+2) 154 (A8 (unTo b (4*c+r)))∧Below w.heap.size w wx) (fun i _=>4-(intOf i).toNat)
   case atStart=>exact⟨0,by omega,rfl,P1.out,Z1.out,O1.out,B1.out⟩
   case round=>
    obtain⟨r,hr,rfl,hP,hZ,hO,hB⟩:=hrel;have P2:=hid hP;have Z2:=hid hZ;have O2:=hid hO;have B2:=hid hB;clear hP hZ hO hB P1 Z1 O1 B1;by_cases hr4:r<4
    ·have k1:(r:Int)<4:=by omega
     have k0:(0:Int)≤(r:Int):=by omega
     obtain⟨F,hF⟩: ∃F,F=r+4*((c+r) %4):=⟨_,rfl⟩;have hF16:F<16:=by omega
     have k3:(F:Int)<16:=by omega
     have k4:(0:Int)≤(F:Int):=by omega
     obtain⟨G,hG⟩: ∃G,G=4*c+r:=⟨_,rfl⟩;have hG16:G<16:=by omega
     have g1:(r:Int)+(E:Int)=(G:Int):=by have:=HE.out;omega
     have g2:IntKind.i64.wrap (G:Int)=(G:Int):=by rw[IntKind.wrap_i64];omega
     have g3:(G:Int)<16:=by omega
     have g4:(0:Int)≤(G:Int):=by omega
     have c1:=P2.out.drew.cell8 hb16 G hG16;have c2:=(T0.out.belowAll B2.out).drew.cell 0;rw[nN]at c2;have hsp:shp G=F:=by rw[hG,hF];unfold shp;omega
     rw[←hG]at O2;have HSP:=hid hsp;have HF:=hid hF;have HG:=hid hG;clear hF hG hsp;go_upto_region 8 with fail;refine ao [0,0,3,0,0,0,1,0,0,0,0,0,1,1,0,2] (by kernel_rfl) (by kernel_rfl) (fun ops' K2 hK2=> ?_)
     repeat (first|((with_reducible refine zq0 ?_);refine zq0a ?_)|((with_reducible refine zq1 ?_);refine zq1a ?_))
     ((with_reducible refine lA (v:= ?_) (a':= ?_) rfl (fun _=> ?_) ?_ ?_);rotate_left;rotate_left)
     ·go_simp;refine cu ?_;exact gY r c F _ hr4 hc4 HF.out
     ·(simp only[Act.put,zz1,zz2,zz3,Act.eval,zz4,zz5,zz6,zz7,zz8];exact rfl)
     repeat (first|((with_reducible refine zq0 ?_);refine zq0a ?_)|((with_reducible refine zq1 ?_);refine zq1a ?_))
     ((with_reducible refine nY (v:= ?_) (a':= ?_) rfl ?_ ?_ ?_);rotate_left;rotate_left)
     ·go_simp;refine cu ?_;exact vG q (nth b G) _ (X0.out.belowAll B2.out).drew
     ·(simp only[Act.put,zz1,zz2,zz3,Act.eval,zz4,zz5,zz6,zz7,zz8];exact rfl)
     repeat (first|((with_reducible refine zq0 ?_);refine zq0a ?_)|((with_reducible refine zq1 ?_);refine zq1a ?_))
     refine eP O2.out.drew rfl rfl (by rw[dq];exact hF16) (sizeOf5 _) (fun w5 k5 g5 s5=> ?_);refine ak (hK2 _ _ ?_);rw[←HSP.out,vP b G hG16,HG.out]at k5;have P5:=hid (P2.out.drew.grown g5 (by simp));have Z5:=hid (Z2.out.drew.grown g5 (by simp));have O5:=hid k5;have B5:=hid (B2.out.drew.trans (ac g5 (by omega) B2.out.size));clear k5 g5 s5 c1 c2 hK2 P2 Z2 O2 B2;go_wp2;exact⟨⟨r+1,by omega,by go_num,P5.out,Z5.out,O5.out,B5.out⟩,by simp[intOf];omega⟩
    ·obtain rfl:r=4:=by omega
     have hO:=O2.out;rw[show 4*c+4=4*(c+1) by omega]at hO;have O3:=hid hO;clear hO O2;go_wp2;exact⟨⟨c+1,by omega,by go_num,P2.out,Z2.out,O3.out,B2.out⟩,by simp[intOf];omega⟩
  ·obtain rfl:c=4:=by omega
   have zz:=O1.out;rw[show 4*4=16 from rfl]at zz;have hl:=dq b 16;have r1:=zz.row;have r3:=Z1.out.whole;have r4:=Z1.out.row;clear zz;go_wp2;refine ag (A8 (unTo b 16)) rfl rfl rfl (isAgg154 _) (sizeOf154 _) (by rw[au];exact hl) (ah _ r3) ⟨rfl,below_setRow B1.out (by omega) _⟩
theorem oZ(p:Nat)(b key:Y8)(w:World)(hT:TabAt w p)(hb16:b.length=16)(hk16:key.length=16):
  Calls prog 234 #[.pointer (some ⟨p,0,none⟩),.agg (A8 b),.agg (A8 key)] w fun e w' =>e= .returned (.agg (A8 (ef b key)))∧Below w.heap.size w w':=by
 obtain⟨W,hW⟩: ∃W,((w.alloc (.cells (A8 b) 154)).alloc (.cells (A8 key) 154)).alloc (.cells (A8 (aa 8 16)) 154)=W:=⟨_,rfl⟩;obtain⟨b0,b1,b2,hb,hz⟩:=new3 _ _ _ _ _ _ _ _ hW;have T0:=hid (hT.below hb);have r0:=b0.row;have r1:=b1.row;have Z0:=hid b2;have B0:=hid hb;clear b0 b1 b2 hb hz;go_enter func234,ntmps234;go_wp2_with fail;refine(jp b key W hb16 hk16).mono ?_;rintro e w1 ⟨rfl,hb1⟩;have T1:=hid (T0.out.below hb1);have Z1:=hid (Z0.out.belowAll hb1);have B1:=hid (B0.out.trans (hb1.mono B0.out.size));clear hb1 hW r0 r1 T0 Z0 B0;go_wp2_with fail;refine(jP p (bG b key) w1 T1.out (aZ b key)).mono ?_;rintro e w2 ⟨rfl,hb2⟩;have r3:=(Z1.out.belowAll hb2).whole;have r4:=(Z1.out.belowAll hb2).row;have B2:=B1.out.trans (hb2.mono B1.out.size);have hl:=iv ed (bT (bG b key));go_wp2;refine ag (A8 (ef b key)) rfl rfl rfl (isAgg154 _) (sizeOf154 _) (by rw[au];exact hl) (ah _ r3) ⟨rfl,below_setRow B2 (by omega) _⟩
open Go.RowKit
theorem nO(p:Nat)(b key:Y8)(w:World)(hT:TabAt w p)(hb16:b.length=16)(hk16:key.length=16):
  Calls prog 235 #[.pointer (some ⟨p,0,none⟩),.agg (A8 b),.agg (A8 key)] w fun e w' =>e= .returned (.agg (A8 (dl b key)))∧Below w.heap.size w w':=by
 obtain⟨W,hW⟩: ∃W,(((w.alloc (.cells (A8 b) 154)).alloc (.cells (A8 key) 154)).alloc (.cells (A8 (aa 8 16)) 154)).alloc (.cells (A8 (aa 8 16)) 154)=W:=⟨_,rfl⟩;obtain⟨b0,b1,b2,b3,hb,hz⟩:=new4 _ _ _ _ _ _ _ _ _ _ hW;have T0:=hid hT;have P0:=hid b0;have r0:=b0.row;have r1:=b1.row;have Z0:=hid b2;have O0:=hid b3;have B0:=hid hb;obtain⟨d,hd⟩: ∃d,d=bG b key:=⟨_,rfl⟩;have hd16:d.length=16:=by rw[hd];simp
 obtain⟨L,hL⟩: ∃L,L=ee unmixM d:=⟨_,rfl⟩;have hLl:L.length=16:=by rw[hL];simp
 have hcol: ∀c,c<4→le32 (dQ unmixM 0#32 (fun r=>nth d (r+4*c)) 4)=(L.drop (4*c)).take 4:=fun c hc=>by rw[hL];exact oY d c hc
 rw[show dl b key=cP ed (bT L) by rw[hL,hd];rfl];have HC:=hid hcol;have HL:=hid hLl;have HD:=hid hd;have HDL:=hid hd16;clear b0 b1 b2 b3 hb hz hT hL hcol hLl hd hd16;go_enter func235,ntmps235;go_wp2_with fail;refine(jp b key W hb16 hk16).mono ?_;rintro e w1 ⟨rfl,hb1⟩;rw[←HD.out];have P1:=hid ((P0.out.belowAll hb1).put (A8 d));have Z1:=hid ((Z0.out.belowAll hb1).farRow (k:=w.heap.size) (by omega) (A8 d));have O1:=hid ((O0.out.belowAll hb1).farRow (k:=w.heap.size) (by omega) (A8 d));have B1:=hid (below_setRow (B0.out.trans (hb1.mono B0.out.size)) (Nat.le_refl _) (A8 d));have rr:=(P0.out.belowAll hb1).row;have rw1:=(P0.out.belowAll hb1).whole;have hdl:=HDL.out;clear hb1 hW r0 r1 P0 Z0 O0 B0;go_wp2_with fail;generalize w1.setRow w.heap.size (A8 d)=W1 at*;clear rr rw1 hdl;go_loopw [18] (fun i wr=> ∃c:Nat,c≤4∧i= .int .i64 c∧Blk wr w.heap.size 154 (A8 d)∧Blk wr (w.heap.size+2) 154 (A8 (aa 8 16))∧Blk wr (w.heap.size+3) 154 (A8 (cg 16 L (4*c)))∧Below w.heap.size w wr) (fun i _=>4-(intOf i).toNat)
 case atStart=>exact⟨0,by omega,rfl,P1.out,Z1.out,by rw[Nat.mul_zero,dL];exact O1.out,B1.out⟩
 case round=>
  obtain⟨c,hc,rfl,hP,hZ,hO,hB⟩:=hrel;have P2:=hid hP;have Z2:=hid hZ;have O2:=hid hO;have B2:=hid hB;clear hP hZ hO hB P1 Z1 O1 B1;by_cases hc4:c<4
  ·have j1:(c:Int)<4:=by omega
   have j0:(0:Int)≤(c:Int):=by omega
   obtain⟨E,hE⟩: ∃E,E=4*c:=⟨_,rfl⟩;have f1:(4:Int)*(c:Int)=(E:Int):=by omega
   have f2:IntKind.i64.wrap (E:Int)=(E:Int):=by rw[IntKind.wrap_i64];omega
   have HE:=hid hE;clear hE;go_wp2_with fail;go_loopw [9,21] (fun n i wx=> ∃r:Nat,r≤4∧i= .int .i64 r∧n=v32 (dQ unmixM 0#32 (fun r=>nth d (r+4*c)) r)∧Below wr.heap.size wr wx) (fun _ i _=>4-(intOf i).toNat)
   case atStart=>exact⟨0,by omega,rfl,rfl,Below.refl _ _⟩
   case round=>
    obtain⟨r,hr,rfl,rfl,hB⟩:=hrel;have B3:=hid hB;clear hB;by_cases hr4:r<4
    ·have k1:(r:Int)<4:=by omega
     have k0:(0:Int)≤(r:Int):=by omega
     obtain⟨G,hG⟩: ∃G,G=r+4*c:=⟨_,rfl⟩;have hG16:G<16:=by omega
     have g1:(r:Int)+(E:Int)=(G:Int):=by have:=HE.out;omega
     have g2:IntKind.i64.wrap (G:Int)=(G:Int):=by rw[IntKind.wrap_i64];omega
     have g3:(G:Int)<16:=by omega
     have g4:(0:Int)≤(G:Int):=by omega
     have c1:=(P2.out.belowAll B3.out).drew.cell8 HDL.out G hG16;have c2:=((T0.out.below (B2.out.trans (B3.out.mono B2.out.size))).drew).unmix r (nth d G) hr4;obtain⟨N,hN⟩: ∃N,N=dQ unmixM 0#32 (fun r=>nth d (r+4*c)) r:=⟨_,rfl⟩;rw[←hN];have HN:=hid hN;have HG:=hid hG;clear hN hG;go_upto_region 12 with fail;refine ao [0,0,0,0,0,0,0,0,1,0,0,0,0,1,0,0] (by kernel_rfl) (by kernel_rfl) (fun ops' K2 hK2=> ?_)
     repeat (first|((with_reducible refine zq0 ?_);refine zq0a ?_)|((with_reducible refine zq1 ?_);refine zq1a ?_))
     refine ak (hK2 _ _ ?_);clear c1 c2 hK2;go_wp2;refine⟨⟨r+1,by omega,by go_num,?_,B3.out.drew⟩,by simp[intOf];omega⟩;rw[dQ,←HN.out,←HG.out]
    ·obtain rfl:r=4:=by omega
     have hcc:=HC.out c hc4;obtain⟨N,hN⟩: ∃N,N=dQ unmixM 0#32 (fun r=>nth d (r+4*c)) 4:=⟨_,rfl⟩;rw[←hN]at hcc⊢;rw[←HE.out]at hcc;have HCC:=hid hcc;clear hcc hN;go_wp2_with fail;refine(ei N _).mono ?_;rintro e w4 ⟨rfl,hb4⟩;have b14:=B3.out.trans (hb4.mono B3.out.size);have P4:=hid ((P2.out.belowAll b14).alloc (.cells (A8 (le32 N)) 75));have Z4:=hid ((Z2.out.belowAll b14).alloc (.cells (A8 (le32 N)) 75));have O4:=hid ((O2.out.belowAll b14).alloc (.cells (A8 (le32 N)) 75));have N4:=hid (Blk.new w4 75 (A8 (le32 N)));have d4:=B2.out.trans (b14.mono B2.out.size);have B4:=hid (d4.alloc d4.size (.cells (A8 (le32 N)) 75));have h14:=(O2.out.belowAll b14).lt;clear hb4 b14 d4 P2 Z2 O2 B2 B3;go_upto_region 15 with fail;generalize w4.alloc (.cells (A8 (le32 N)) 75)=W4 at*;generalize w4.heap.size=pN at*;have e1:(E:Int)≤16:=by have:=HE.out;omega
     have e0:(0:Int)≤(E:Int):=by omega
     have e2: ¬16=E:=by have:=HE.out;omega
     refine ao [0,0,0,0,2] (by kernel_rfl) (by kernel_rfl) (fun ops' K2 hK2=> ?_)
     repeat (first|((with_reducible refine zq0 ?_);refine zq0a ?_)|((with_reducible refine zq1 ?_);refine zq1a ?_))
     have rn:=N4.out.drew.rd8 4 (by simp) (by simp;unfold maxLen;omega);refine cH O4.out.drew rn rfl rfl underlying22 eo (by rw[ay];omega) (fun w5 v5 k5 g5 s5=> ?_);refine ak (hK2 _ _ ?_);have e5:splc (cg 16 L (4*c)) E (((le32 N).take 4).take (min 4 (16-E)))=cg 16 L (4*(c+1)):=by
      have hE:=HE.out;rw[List.take_of_length_le (l:=le32 N) (by simp),List.take_of_length_le (by simp;omega),HCC.out,hE];exact jr L HL.out c hc4
     rw[e5]at k5;have P5:=hid (P4.out.drew.grown g5 (by simp));have Z5:=hid (Z4.out.drew.grown g5 (by simp));have O5:=hid k5;have B5:=hid (B4.out.drew.trans (ac g5 (by omega) B4.out.size));clear k5 g5 s5 e5 rn hK2 P4 Z4 O4 N4 B4 e2;go_wp2;exact⟨⟨c+1,by omega,by go_num,P5.out,Z5.out,O5.out,B5.out⟩,by simp[intOf];omega⟩
  ·obtain rfl:c=4:=by omega
   have zz:=O2.out;rw[show 4*4=16 from rfl,dN 16 L HL.out]at zz;have hl:=HL.out;have r1:=zz.row;have hT2:=T0.out.below B2.out;clear zz;go_wp2_with fail;refine(jP p L wr hT2 hl).mono ?_;rintro e w5 ⟨rfl,hb5⟩;have r3:=(Z2.out.belowAll hb5).whole;have r4:=(Z2.out.belowAll hb5).row;have B5:=B2.out.trans (hb5.mono B2.out.size);have hlx:=iv ed (bT L);go_wp2;refine ag (A8 (cP ed (bT L))) rfl rfl rfl (isAgg154 _) (sizeOf154 _) (by rw[au];exact hlx) (ah _ r3) ⟨rfl,below_setRow B5 (by omega) _⟩
end Go.Proofs.YtlpkfdkhlffmlaaGreatDoor
