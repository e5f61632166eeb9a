/-octet.Same-/
import Derived.Test.YtlpkfdkhlffmlaaGreatDoorMGe
import Derived.Test.YtlpkfdkhlffmlaaGreatDoorMGb
import Derived.Test.YtlpkfdkhlffmlaaGreatDoorMGw
import Derived.Test.YtlpkfdkhlffmlaaGreatDoorMRa
import Derived.Test.YtlpkfdkhlffmlaaGreatDoorMGm
namespace Go.Proofs.YtlpkfdkhlffmlaaGreatDoor
open Go.Proofs.Tryz
open Lib (hid)
set_option linter.unusedSimpArgs false
set_option linter.unusedVariables false
set_option maxRecDepth 100000
set_option maxHeartbeats 1600000
open Go.RowKit
def unl(x y:Y8):Nat→BitVec 8
 |0=>0#8
 |j+1=>unl x y j|||(nth x j^^^nth y j)
theorem yD(x y:Y8): ∀k,unl x y k=0#8↔ ∀i,i<k→nth x i=nth y i
 |0=>by simp[unl]
 |k+1=>by
  rw[unl,BitVec.or_eq_zero_iff,yD x y k,BitVec.xor_eq_zero_iff];constructor
  ·rintro⟨h1,h2⟩ i hi;by_cases e:i=k
   ·subst e;exact h2
   ·exact h1 i (by omega)
  ·exact fun h=>⟨fun i hi=>h i (by omega),h k (by omega)⟩
theorem wQ(x y:Y8)(a b:Option Addr)(n c m d:Nat)(w:World)(hx:Rd8 w a n c x)(hy:Rd8 w b m d y):
  Calls prog 75 #[.slice a n c,.slice b m d] w fun e w' =>e= .returned (.bool (decide (x=y)))∧Below w.heap.size w w':=by
 have hxl:=hx.1;have hyl:=hy.1;have hnb:n≤9223372036854775807:=by have h1:=hx.2.1;have h2:=hx.2.2.1;unfold maxLen at h2;omega
 have X0:=hid hx;have Y0:=hid hy;by_cases hnm:n=m;rotate_left
 ·have e1:((n:Int)==(m:Int))=false:=by simp;omega
  have e2:((n:Int) !=(m:Int))=true:=by simp;omega
  rw[decide_eq_false (fun e=>hnm (by rw[←hxl,e,hyl]))];clear hx hy;go_enter func75,ntmps75;go_wp2;go_ret;exact⟨rfl,Below.refl _ _⟩
 subst hnm;have hU:unl x y n=0#8↔x=y:=by
  rw[yD];constructor
  ·exact fun h=>aD (by rw[hxl,hyl]) (fun i hi=>h i (by omega))
  ·rintro rfl i _;rfl
 have HU:=hid hU;clear hx hy hU;go_enter func75,ntmps75;go_wp2_with fail;go_loopw [5,14] (fun u k wz=> ∃j:Nat,j≤n∧k= .int .i64 j∧u=v8 (unl x y j)∧Below w.heap.size w wz) (fun _ k _=>n-(intOf k).toNat)
 case atStart=>exact⟨0,Nat.zero_le _,rfl,rfl,Below.refl _ _⟩
 case round=>
  obtain⟨j,hj,rfl,rfl,hbel⟩:=hrel;have B2:=hid hbel;by_cases hjn:j<n
  ·obtain⟨ba,oa,rfl,hba,hca⟩:=X0.out.2.2.2 (by omega);obtain⟨bb,ob,rfl,hbb,hcb⟩:=Y0.out.2.2.2 (by omega);have ca:wr.cell? ⟨ba,oa+j,none⟩=some (v8 (nth x j)):=(hbel.cell (p:=⟨ba,oa+j,none⟩) hba).trans (hca j (by omega));have cb:wr.cell? ⟨bb,ob+j,none⟩=some (v8 (nth y j)):=(hbel.cell (p:=⟨bb,ob+j,none⟩) hbb).trans (hcb j (by omega));have la:ba<wr.heap.size:=Nat.lt_of_lt_of_le hba hbel.size;have lb:bb<wr.heap.size:=Nat.lt_of_lt_of_le hbb hbel.size;have j1:(j:Int)<(n:Int):=by omega
   have j0:(0:Int)≤(j:Int):=by omega
   obtain⟨U,hU⟩: ∃U,U=unl x y j:=⟨_,rfl⟩;obtain⟨V,hV⟩: ∃V,V=unl x y (j+1):=⟨_,rfl⟩;have hUV:U|||(nth x j^^^nth y j)=V:=by rw[hU,hV];rfl
   rw[←hU];have HV:=hid hV;clear hca hcb hbel hU hV hba hbb HU;go_upto_region 7 with fail;refine an [0,0,0,0,5,0,0,0,5,0,0,0] (by kernel_rfl) (by kernel_rfl) (fun C0 hC0 hCb K' hK' => ?_);have Q1: ∀w1,C0 w1→w1.cell? ⟨ba,oa+j,none⟩=some (v8 (nth x j)):=fun w1 hw=>((hCb w1 hw).cell (p:=⟨ba,oa+j,none⟩) la).trans ca;have Q2: ∀w1,C0 w1→w1.cell? ⟨bb,ob+j,none⟩=some (v8 (nth y j)):=fun w1 hw=>((hCb w1 hw).cell (p:=⟨bb,ob+j,none⟩) lb).trans cb
   repeat (first|((with_reducible refine hq0 ?_);refine hq0a ?_)|((with_reducible refine hq5 ?_);refine hq5a ?_ (fun _ hcw=>by have f1:=Q1 _ hcw;have f2:=Q2 _ hcw;go_simp;(try go_bits);exact rfl))|((with_reducible refine hq1 ?_);refine hq1a ?_))
   refine bJ [] rfl (by simp) (ak (hK' _ _ ?_));have D2:=hid (B2.out.drew);clear Q1 Q2 hC0 hCb hK' ca cb;go_wp2;exact⟨⟨j+1,by omega,by go_num,by rw[HV.out],D2.out⟩,by simp[intOf];omega⟩
  ·obtain rfl:j=n:=by omega
   obtain⟨U,hU⟩: ∃U,U=unl x y j:=⟨_,rfl⟩;have hU2:=HU.out;rw[←hU]at hU2⊢;clear hbel hU;go_wp2;go_ret;exact⟨by rw[show(U==0#8)=decide (x=y) from by rw[Bool.eq_iff_iff,beq_iff_eq,decide_eq_true_iff];exact hU2];rfl,B2.out⟩
open Go.RowKit
def XC(alg:Int)(x:Value):Array Value:= #[.int .i64 alg,x]
theorem wR(g:Nat)(alg:Int)(x:Value)(w:World)(hg:Blk w g 68 (XC alg x)):
  Calls prog 111 #[.pointer (some ⟨g,0,none⟩)] w fun e w' =>e= .returned (.int .i64 alg)∧w=w':=by
 have c0:w.cell? ⟨g,0,none⟩=some (.int .i64 alg):=by rw[hg.cell];rfl
 clear hg;go_enter func111,ntmps111;go_wp2;go_ret;exact⟨rfl,rfl⟩
open Go.RowKit
def CphT(w:World)(g:Nat)(E D:Y8→Y8→Y8):Prop:=
 (∃alg x,Blk w g 68 (XC alg x)∧alg≠3)∧
 ∀(w1:World) (T M:Y8) (a b:Option Addr) (n c len d:Nat),Below w.heap.size w w1→Rd8 w1 a n c T→n≤1000→Rd8 w1 b len d M→16≤len→len≤520→
  (Calls prog 91 #[.pointer (some ⟨g,0,none⟩),.slice a n c,.slice b len d] w1 fun e w' => ∃v,e= .returned (.tuple #[v,.int .i64 0])∧Own8 w' w1.heap.size 5 v (E T M)∧Below w1.heap.size w1 w')∧
  Calls prog 56 #[.pointer (some ⟨g,0,none⟩),.slice a n c,.slice b len d] w1 fun e w' => ∃v,e= .returned (.tuple #[v,.int .i64 0])∧Own8 w' w1.heap.size 5 v (D T M)∧Below w1.heap.size w1 w'
theorem CphT.below {w w':World} {g:Nat} {E D:Y8→Y8→Y8}(h:CphT w g E D)(hb:Below w.heap.size w w'):CphT w' g E D:=by
 obtain⟨⟨alg,x,h1,h2⟩,h3⟩:=h;exact⟨⟨alg,x,h1.belowAll hb,h2⟩,fun w1 T M a b n c len d k=>h3 w1 T M a b n c len d (hb.trans (k.mono hb.size))⟩
structure BoundT(w:World)(pc pt g:Nat)(W:Y8):Prop where
 c:Blk w pc 29 #[.pointer (some ⟨g,0,none⟩)]
 t: ∃a n k,Blk w pt 22 #[.slice a n k]∧Rd8 w a n k W
theorem BoundT.below {w w':World} {pc pt g:Nat} {W:Y8}(h:BoundT w pc pt g W)(hb:Below w.heap.size w w'):BoundT w' pc pt g W:=by
 obtain⟨h1,a,n,k,h2,h3⟩:=h;exact⟨h1.belowAll hb,a,n,k,h2.belowAll hb,h3.below hb⟩
@[reducible] def bndT(pc pt:Nat):Array Value:= #[.func (.func 118) #[] #[.pointer (some ⟨pc,0,none⟩),.pointer (some ⟨pt,0,none⟩)],.func (.func 119) #[] #[.pointer (some ⟨pc,0,none⟩),.pointer (some ⟨pt,0,none⟩)],.nilFunc]
theorem nu(g t:Nat)(ht:t≤16)(E D:Y8→Y8→Y8)(N:Y8)(Ad:List (Y8))(a ra:Option Addr)(n c m rc:Nat)(w:World)(hC:CphT w g E D)(hN:Rd8 w a n c N)(hr:RwAt w ra m rc Ad)(hn:n≤1000)(hm:m≤900)(hsz: ∀k,k<m→(Ad.getD k []).length≤60000)(hlen:(putV Ad).length≤60000):
  Calls prog 74 #[.pointer (some ⟨g,0,none⟩),.int .i64 t,.slice a n c,.slice ra m rc] w fun e w' => ∃pc pt,e= .returned (.tuple #[.agg (bndT pc pt),.int .i64 0])∧BoundT w' pc pt g (encV t N Ad)∧Below w.heap.size w w':=by
 obtain⟨⟨alg,x,hg,ha3⟩,hxx⟩:=hC;clear hxx;obtain⟨W,hW⟩: ∃W,((w.alloc (.cells #[.pointer (some ⟨g,0,none⟩)] 29)).alloc (.cells #[.int .i64 t] 3)).alloc (.cells #[.nilFunc,.nilFunc,.nilFunc] 167)=W:=⟨_,rfl⟩;obtain⟨b0,b1,b2,hb,hz⟩:=new3 _ _ _ _ _ _ _ _ hW;have N0:=hid (hN.below hb);have R0:=hid (hr.below hb);have G0:=hid (hg.belowAll hb);have P0:=hid b0;have T0:=hid b1;have Z0:=hid b2;have B0:=hid hb;have p0:W.cell? ⟨w.heap.size,0,none⟩=some (.pointer (some ⟨g,0,none⟩)):=by rw[b0.cell];rfl
 have t0:W.cell? ⟨w.heap.size+1,0,none⟩=some (.int .i64 t):=by rw[b1.cell];rfl
 have ne3:(alg==3)=false:=by simpa using ha3
 clear b0 b1 b2 hb hN hr hg ha3;go_enter func74,ntmps74;go_wp2_with fail;clear hW;refine(oH t ht N Ad a ra n c m rc W N0.out R0.out hn hm hsz).mono ?_;rintro e w1 ⟨v1,rfl,o1,d1⟩;obtain⟨a1,c1,rfl⟩:=o1.form;have p1:w1.cell? ⟨w.heap.size,0,none⟩=some (.pointer (some ⟨g,0,none⟩)):=by rw[(P0.out.belowAll d1).cell];rfl
 have t1:w1.cell? ⟨w.heap.size+1,0,none⟩=some (.int .i64 t):=by rw[(T0.out.belowAll d1).cell];rfl
 have l1:w.heap.size<w1.heap.size:=(P0.out.belowAll d1).lt;have l2:w.heap.size+1<w1.heap.size:=(T0.out.belowAll d1).lt;have l3:w.heap.size+2<w1.heap.size:=(Z0.out.belowAll d1).lt;obtain⟨L,hL⟩: ∃L,L=(strV t N Ad).length:=⟨_,rfl⟩;rw[←hL];obtain⟨w2,hw2⟩: ∃z,w1.alloc (.cells #[.slice a1 L c1] 129)=z:=⟨_,rfl⟩;obtain⟨n2,d2,z2⟩:=new1 _ _ _ _ hw2;have d12:=d1.trans (d2.mono d1.size);have D2:=hid d12;have P2:=hid (P0.out.belowAll d12);have T2:=hid (T0.out.belowAll d12);have Z2:=hid (Z0.out.belowAll d12);have p2:w2.cell? ⟨w.heap.size,0,none⟩=some (.pointer (some ⟨g,0,none⟩)):=by rw[P2.out.cell];rfl
 have t2:w2.cell? ⟨w.heap.size+1,0,none⟩=some (.int .i64 t):=by rw[T2.out.cell];rfl
 clear p0 t0 o1 d1 hL n2 d2 z2 d12;go_wp2_with fail;refine(wR g alg x w2 (G0.out.belowAll D2.out)).mono ?_;rintro e wq ⟨rfl,rfl⟩;clear p1 t1;go_wp2_with fail;refine(ql t ht N Ad a ra n c m rc w2 (N0.out.below D2.out) (R0.out.below D2.out) hn (by omega) hlen).mono ?_;rintro e w3 ⟨v3,rfl,o3,d3⟩;obtain⟨a3,c3,rfl,r3,q3⟩:=o3.rd;have l5:w.heap.size+2<w2.heap.size:=Z2.out.lt;have l6:w2.heap.size≤w3.heap.size:=d3.size;obtain⟨K,hK⟩: ∃K,K=(encV t N Ad).length:=⟨_,rfl⟩;rw[←hK]at r3⊢;obtain⟨w4,hw4⟩: ∃z,w3.alloc (.cells #[.slice a3 K c3] 22)=z:=⟨_,rfl⟩;obtain⟨n4,d4,z4⟩:=new1 _ _ _ _ hw4;have d34:=d3.trans (d4.mono d3.size);have d24:=D2.out.trans (d34.mono D2.out.size);have zr:ar w4 (w.heap.size+1+1)= #[.nilFunc,.nilFunc,.nilFunc]:=(Z2.out.belowAll d34).row;have zw:whole w4 (w.heap.size+1+1)=true:=(Z2.out.belowAll d34).whole;have Z4:=hid (Z2.out.belowAll d34);have BP:=hid (P2.out.belowAll d34);have BQ:=hid n4;have BR:=hid (r3.below d4);have BA:=hid q3;have D4:=hid (B0.out.trans (d24.mono B0.out.size));have hst:=aV (P:=prog) w4 167 (w.heap.size+1+1) (bndT w.heap.size w3.heap.size) (sizeOf167 _) (by rw[zr];rfl) (by simp[ones,Value.oneCell']) zw;clear p2 t2 o3 d3 hK n4 d4 z4 d34 d24 r3 q3 P2 T2 Z2;go_wp2;have hs4:w.heap.size+1+1<w4.heap.size:=Z4.out.lt;refine aY (p:=8) (u:=9) (bndT w.heap.size w3.heap.size) rfl rfl rfl (isAgg167 _) (sizeOf167 _) rfl (ah _ zw) ⟨_,_,rfl,?_,below_setRow D4.out (by omega) _⟩;have hgr:w4.grownBy (w4.setRow (w.heap.size+1+1) (bndT w.heap.size w3.heap.size)) (some (w.heap.size+1+1)):=aP _ _ _
 exact⟨BP.out.grown hgr (by simp<;>omega),a3,K,c3,BQ.out.grown hgr (by simp;omega),BR.out.grownNe hgr (fun h0 ad had e=>by
  have:=BA.out ad had;simp only[Option.some.injEq]at e;omega)⟩
theorem uQ(pc pt g:Nat)(E D:Y8→Y8→Y8)(W M:Y8)(b:Option Addr)(len d:Nat)(w:World)(hC:CphT w g E D)(hB:BoundT w pc pt g W)(hW:W.length≤1000)(hM:Rd8 w b len d M)(h16:16≤len)(hlen:len≤520):
  Calls prog 118 #[.slice b len d,.pointer (some ⟨pc,0,none⟩),.pointer (some ⟨pt,0,none⟩)] w fun e w' => ∃v,e= .returned (.tuple #[v,.int .i64 0])∧Own8 w' w.heap.size 5 v (E W M)∧Below w.heap.size w w':=by
 obtain⟨h1,a,n,k,h2,h3⟩:=hB;have p1:w.cell? ⟨pc,0,none⟩=some (.pointer (some ⟨g,0,none⟩)):=by rw[h1.cell];rfl
 have p2:w.cell? ⟨pt,0,none⟩=some (.slice a n k):=by rw[h2.cell];rfl
 have EC:=hid (hC.2 w W M a b n k len d (Below.refl _ _) h3 (by rw[←h3.1];exact hW) hM h16 hlen).1;clear hC h1 h2 h3 hM;go_enter func118,ntmps118;go_wp2_with fail;refine EC.out.mono ?_;rintro e w2 ⟨v2,rfl,o2,d2⟩;have O2:=hid o2;have D2:=hid d2;clear o2 d2;go_wp2;go_ret2;exact⟨_,rfl,O2.out,D2.out⟩
theorem uR(pc pt g:Nat)(E D:Y8→Y8→Y8)(W M:Y8)(b:Option Addr)(len d:Nat)(w:World)(hC:CphT w g E D)(hB:BoundT w pc pt g W)(hW:W.length≤1000)(hM:Rd8 w b len d M)(h16:16≤len)(hlen:len≤520):
  Calls prog 119 #[.slice b len d,.pointer (some ⟨pc,0,none⟩),.pointer (some ⟨pt,0,none⟩)] w fun e w' => ∃v,e= .returned (.tuple #[v,.int .i64 0])∧Own8 w' w.heap.size 5 v (D W M)∧Below w.heap.size w w':=by
 obtain⟨h1,a,n,k,h2,h3⟩:=hB;have p1:w.cell? ⟨pc,0,none⟩=some (.pointer (some ⟨g,0,none⟩)):=by rw[h1.cell];rfl
 have p2:w.cell? ⟨pt,0,none⟩=some (.slice a n k):=by rw[h2.cell];rfl
 have EC:=hid (hC.2 w W M a b n k len d (Below.refl _ _) h3 (by rw[←h3.1];exact hW) hM h16 hlen).2;clear hC h1 h2 h3 hM;go_enter func119,ntmps119;go_wp2_with fail;refine EC.out.mono ?_;rintro e w2 ⟨v2,rfl,o2,d2⟩;have O2:=hid o2;have D2:=hid d2;clear o2 d2;go_wp2;go_ret2;exact⟨_,rfl,O2.out,D2.out⟩
open Go.RowKit
theorem Rd8.preC {w:World} {a:Option Addr} {n c:Nat} {l:Y8}(h:Rd8 w a n c l) {j:Nat}(hj:j≤n):Rd8 w a j j (l.take j):=
 ⟨(h.pre hj).1,Nat.le_refl _,by have:=h.2.1;have:=h.2.2.1;omega,(h.pre hj).2.2.2⟩
theorem uS(g t:Nat)(ht:t≤16)(E D:Y8→Y8→Y8)(N M:Y8)(Ad:List (Y8))(a ra b:Option Addr)(n c m rc len d:Nat)(w:World)(hC:CphT w g E D)(hN:Rd8 w a n c N)(hr:RwAt w ra m rc Ad)(hn:n≤500)(hm:m≤900)(hsz: ∀k,k<m→(Ad.getD k []).length≤60000)(hlen:(putV Ad).length≤400)
  (hM:Rd8 w b len d M) (h16:16≤len+t) (hl:len+t≤520):
  Calls prog 61 #[.pointer (some ⟨g,0,none⟩),.int .i64 t,.slice a n c,.slice ra m rc,.slice b len d] w fun e w' => ∃v,e= .returned (.tuple #[v,.int .i64 0])∧Own8 w' w.heap.size 5 v (E (encV t N Ad) (M++aa 8 t))∧Below w.heap.size w w':=by
 have BD:=hid (nu g t ht E D N Ad a ra n c m rc w hC hN hr (by omega) hm hsz (by omega));have C0_:=hid hC;have M0:=hid hM;have hMl:=hM.1;have hWl:(encV t N Ad).length≤1000:=by
  have:=hN.1;simp[encV,putV,le64]at*;omega
 obtain⟨W,hW⟩: ∃W,W=encV t N Ad:=⟨_,rfl⟩;rw[←hW]at BD hWl⊢;clear hC hN hr hM hW hsz hlen;go_enter func61,ntmps61;go_wp2_with fail;refine BD.out.mono ?_;rintro e w1 ⟨pc,pt,rfl,b1,d1⟩;have hst:=aV (P:=prog) (w1.alloc (.cells #[.nilFunc,.nilFunc,.nilFunc] 167)) 167 w1.heap.size (bndT pc pt) (sizeOf167 _) (by rw[(Blk.new w1 _ _).row];rfl) (by simp[ones,Value.oneCell']) (Blk.new w1 _ _).whole;rw[dw _ _ _ _ _ rfl]at hst;obtain⟨w2,hw2⟩: ∃z,w1.alloc (.cells (bndT pc pt) 167)=z:=⟨_,rfl⟩;obtain⟨n2,d2,z2⟩:=new1 _ _ _ _ hw2;obtain⟨gb,hgb⟩: ∃z,w1.heap.size=z:=⟨_,rfl⟩;rw[hgb]at n2 hst;have f0:w2.cell? ⟨gb,0,none⟩=some (.func (.func 118) #[] #[.pointer (some ⟨pc,0,none⟩),.pointer (some ⟨pt,0,none⟩)]):=by rw[n2.cell];rfl
 have f2:w2.cell? ⟨gb,2,none⟩=some .nilFunc:=by rw[n2.cell];rfl
 have d12:=d1.trans (d2.mono d1.size);have N2:=hid n2;have BB:=hid (b1.below d2);have C2:=hid (C0_.out.below d12);have M2:=hid (M0.out.below d12);have D2:=hid d12;clear BD b1 d1 n2 d2 z2 d12 C0_ M0;have hnf: ∀w:World,(binOp .neq 165 .nilFunc .nilFunc).run prog w= .ok (.bool false) w:=fun w=>by kernel_rfl
 obtain⟨Z,hZ⟩: ∃Z,((len:Int)==0)=Z:=⟨_,rfl⟩;go_upto_region 6 with fail
 all_goals
  clear hst hw2 hgb f2;refine an [0,5,0,0,2,2,2,2,0,0,0,0] (by kernel_rfl) (by kernel_rfl) (fun C0 hC0 hCb K' hK' => ?_);have Q1: ∀w1,C0 w1→w1.cell? ⟨gb,0,none⟩=some (.func (.func 118) #[] #[.pointer (some ⟨pc,0,none⟩),.pointer (some ⟨pt,0,none⟩)]):=fun w1 hw=>by rw[(N2.out.drew.belowAll (hCb w1 hw)).cell];rfl
  repeat (first|((with_reducible refine hq0 ?_);refine hq0a ?_)|((with_reducible refine hq5 ?_);refine hq5a ?_ (fun _ hcw=>by have f1:=Q1 _ hcw;go_simp;(try go_bits);exact rfl))|((with_reducible refine hq1 ?_);refine hq1a ?_))
  refine nP rfl rfl (by omega) underlying22 bQ (fun w3 a3 r3 d3=> ?_);simp only[Act.put,zz1,zz2,zz3];refine zJ (x:= .slice b len d) (y:= .slice a3 t t) (z:= .slice none 0 0) (size:=1) (bytes:=24) rfl rfl rfl rfl (by omega) (by omega) underlying129 ft (fun w4 g4 k4 d4=> ?_);simp only[Act.put,zz1,zz2,zz3];have d34:=d3.trans (d4.mono d3.size);refine hqc ?_;go_simp;refine ae ?_;refine(ie g4 _ [M,aa 8 t] 2 w4 k4 (sls2 (M2.out.drew.below d34) (r3.below d4)) rfl (by omega) (by simp;omega)).mono ?_;rintro e w5 ⟨v5,rfl,o5,d5⟩;refine⟨_,rfl,d5,?_⟩
  try simp only[Act.put,zz1,zz2,zz3]
  rw[show [M,aa 8 t].flatten=M++aa 8 t by simp]at o5;obtain⟨a5,c5,rfl,r5,_⟩:=o5.rd;rw[show(M++aa 8 t).length=len+t by rw[List.length_append,af,hMl]]at r5⊢;have d35:=d34.trans (d5.mono d34.size);have e35:=((Below.refl w2.heap.size w2).drew).trans d35;refine hqc ?_;go_simp;refine ae ?_;refine(uQ pc pt g E D W (M++aa 8 t) a5 (len+t) c5 w5 (C2.out.below e35) (BB.out.below e35) hWl r5 h16 hl).mono ?_;rintro e w6 ⟨v6,rfl,o6,d6⟩;refine⟨_,rfl,d6,?_⟩
  try simp only[Act.put,zz1,zz2,zz3]
  repeat (first|((with_reducible refine hq0 ?_);refine hq0a ?_)|((with_reducible refine hq5 ?_);refine hq5a ?_)|((with_reducible refine hq1 ?_);refine hq1a ?_))
  refine bJ [] rfl (by simp) (ak (hK' _ _ ?_));have d26:=e35.trans (d6.mono e35.size);have D6:=hid (D2.out.trans (d26.mono D2.out.size));have O6:=hid (o6.base (Nat.le_trans D2.out.size e35.size));clear hK' hC0 hCb Q1 d3 d4 d34 d35 e35 d5 o5 r5 o6 d6 d26 k4 r3;go_wp2;go_ret2;exact⟨_,rfl,O6.out,D6.out⟩
theorem uT(g t:Nat)(ht:t≤16)(E D:Y8→Y8→Y8)(N B:Y8)(Ad:List (Y8))(a ra b:Option Addr)(n c m rc len d:Nat)(w:World)(hC:CphT w g E D)(hN:Rd8 w a n c N)(hr:RwAt w ra m rc Ad)(hn:n≤500)(hm:m≤900)(hsz: ∀k,k<m→(Ad.getD k []).length≤60000)(hlen:(putV Ad).length≤400)
  (hM:Rd8 w b len d B) (htl:t≤len) (h16:16≤len) (hl:len≤520) (X:Y8) (hX:D (encV t N Ad) B=X) (hXl:X.length=len):
  Calls prog 51 #[.pointer (some ⟨g,0,none⟩),.int .i64 t,.slice a n c,.slice ra m rc,.slice b len d] w fun e w' =>(X.drop (len-t)=aa 8 t→ ∃a',e= .returned (.tuple #[.slice a' (len-t) (len-t),.int .i64 0])∧Rd8 w' a' (len-t) (len-t) (X.take (len-t))∧(∀ad,a' =some ad→w.heap.size≤ad.block))∧(X.drop (len-t)≠aa 8 t→e= .returned (.tuple #[.slice none 0 0,.int .i64 9]))∧Below w.heap.size w w':=by
 have BD:=hid (nu g t ht E D N Ad a ra n c m rc w hC hN hr (by omega) hm hsz (by omega));have C0_:=hid hC;have M0:=hid hM;have hMl:=hM.1;have hWl:(encV t N Ad).length≤1000:=by
  have:=hN.1;simp[encV,putV,le64]at*;omega
 obtain⟨W,hW⟩: ∃W,W=encV t N Ad:=⟨_,rfl⟩;rw[←hW]at BD hWl hX;obtain⟨J,hJ⟩: ∃J,J=len-t:=⟨_,rfl⟩;rw[←hJ];have j1:(len:Int)-(t:Int)=(J:Int):=by omega
 have j2:IntKind.i64.wrap (J:Int)=(J:Int):=by rw[IntKind.wrap_i64];omega
 have j3: ¬(J:Int)<0:=by omega
 have j0:(0:Int)≤(J:Int):=by omega
 have j4:(J:Int)≤(len:Int):=by omega
 have hJt:len-J=t:=by omega
 have hJl:J≤len:=by omega
 have HX:=hid hX;clear hC hN hr hM hW hsz hlen hJ hX;go_enter func51,ntmps51;go_wp2_with fail;refine aQ 0 (fun a' w' =>(∃u:Nat→Value,a' ={tmps:= #[u 0,u 1,u 2,u 3,u 4,u 5,u 6,u 7,u 8,u 9,u 10,u 11,u 12,u 13,u 14,u 15,u 16,u 17,u 18,u 19,u 20,u 21,u 22,u 23,u 24,u 25,u 26,u 27,u 28,u 29,u 30,u 31,u 32,u 33,u 34,u 35,u 36,u 37,u 38,u 39,u 40,u 41,u 42,u 43,u 44,u 45,u 46,u 47,u 48,u 49,u 50,u 51,u 52,u 53,u 54,u 55,u 56,u 57,u 58,u 59,u 60,u 61,u 62,u 63,u 64,u 65,u 66,u 67],defers:=[]})∧X.drop J≠aa 8 t∧Below w.heap.size w w') (fun _ _=>0) rfl (fun _=> ?_) ?_;rotate_left
 ·rintro a9 w9 ⟨⟨u,rfl⟩,hne,hb⟩;clear BD C0_ M0 HX;go_wp2;simp only[Exit.jump];go_ret2;exact⟨fun h=>absurd h hne,fun _=>rfl,hb⟩
 go_wp2_with fail;refine BD.out.mono ?_;rintro e w1 ⟨pc,pt,rfl,b1,d1⟩;have hst:=aV (P:=prog) (w1.alloc (.cells #[.nilFunc,.nilFunc,.nilFunc] 167)) 167 w1.heap.size (bndT pc pt) (sizeOf167 _) (by rw[(Blk.new w1 _ _).row];rfl) (by simp[ones,Value.oneCell']) (Blk.new w1 _ _).whole;rw[dw _ _ _ _ _ rfl]at hst;obtain⟨w2,hw2⟩: ∃z,w1.alloc (.cells (bndT pc pt) 167)=z:=⟨_,rfl⟩;obtain⟨n2,d2,z2⟩:=new1 _ _ _ _ hw2;obtain⟨gb,hgb⟩: ∃z,w1.heap.size=z:=⟨_,rfl⟩;rw[hgb]at n2 hst;have f1:w2.cell? ⟨gb,1,none⟩=some (.func (.func 119) #[] #[.pointer (some ⟨pc,0,none⟩),.pointer (some ⟨pt,0,none⟩)]):=by rw[n2.cell];rfl
 have f2:w2.cell? ⟨gb,2,none⟩=some .nilFunc:=by rw[n2.cell];rfl
 have d12:=d1.trans (d2.mono d1.size);have BB:=hid (b1.below d2);have C2:=hid (C0_.out.below d12);have M2:=hid (M0.out.below d12);have D2:=hid d12;clear BD b1 d1 n2 d2 z2 d12 C0_ M0;have hnf: ∀w:World,(binOp .neq 165 .nilFunc .nilFunc).run prog w= .ok (.bool false) w:=fun w=>by kernel_rfl
 obtain⟨Z,hZ⟩: ∃Z,((J:Int)==0)=Z:=⟨_,rfl⟩;go_wp2_with fail
 all_goals
  clear hst hw2 hgb f1 f2;refine(uR pc pt g E D W B b len d w2 C2.out BB.out hWl M2.out h16 hl).mono ?_;rintro e w3 ⟨v3,rfl,o3,d3⟩;rw[HX.out]at o3;obtain⟨a3,c3,rfl,r3,q3⟩:=o3.rd;rw[hXl]at r3⊢;obtain⟨bk,bo,rfl,hlt,_⟩:=r3.2.2.2 (by omega);obtain⟨bA,eA⟩: ∃z,(if c3=J then some (⟨bk,bo,none⟩:Addr)else some ⟨bk,bo+J,none⟩)=z:=⟨_,rfl⟩;have mc:=r3.cut (j:=J) (k:=len) hJl (Nat.le_refl _);simp only[Option.map_some,Addr.add_lit]at mc;rw[eA,List.take_of_length_le (by omega),hJt]at mc;have hlc:=r3.2.1;have j5:(J:Int)≤(c3:Int):=by omega
  have q4:=q3 _ rfl;have MC:=hid mc;have R3:=hid r3;have D3:=hid (D2.out.trans (d3.mono D2.out.size));have B4:=hid q4;clear o3 r3 d3 mc q3 q4 C2 BB M2 HX;go_upto_region 11 with fail;refine an [0,0,0,0,0,0,0,2,2,0,0] (by kernel_rfl) (by kernel_rfl) (fun C0 hC0 hCb K' hK' => ?_)
  repeat (first|((with_reducible refine hq0 ?_);refine hq0a ?_)|((with_reducible refine hq5 ?_);refine hq5a ?_)|((with_reducible refine hq1 ?_);refine hq1a ?_))
  refine vS rfl rfl rfl (by omega) underlying22 bQ (fun w4 a4 r4 d4=> ?_);simp only[Act.put,zz1,zz2,zz3];refine hqc ?_;go_simp;refine ae ?_;refine(wQ (X.drop J) (aa 8 t) bA a4 t (c3-J) t t w4 (MC.out.drew.below d4) r4).mono ?_;rintro e w5 ⟨rfl,d5⟩;refine⟨_,rfl,d5,?_⟩
  try simp only[Act.put,zz1,zz2,zz3]
  repeat (first|((with_reducible refine hq0 ?_);refine hq0a ?_)|((with_reducible refine hq5 ?_);refine hq5a ?_)|((with_reducible refine hq1 ?_);refine hq1a ?_))
  refine bJ [] rfl (by simp) (ak (hK' _ _ ?_));have e5:=((Below.refl w3.heap.size w3).drew).trans (d4.trans (d5.mono d4.size));have D5:=hid (D3.out.trans (e5.mono D3.out.size));have R5:=hid (R3.out.below e5);clear hK' hC0 hCb d4 d5 e5 r4 MC R3;by_cases hz:X.drop J=aa 8 t
  ·rw[decide_eq_true hz];go_wp2;simp only[Exit.jump];go_ret2;exact⟨fun _=>⟨_,rfl,R5.out.preC hJl,fun ad e=>by cases e;exact Nat.le_trans D2.out.size B4.out⟩,fun h=>absurd hz h,D5.out⟩
  ·rw[decide_eq_false hz];go_wp2;go_step3
   first|exact⟨rfl,aI _ rfl,hz,D5.out⟩|exact⟨aI _ rfl,hz,D5.out⟩|trace_state
end Go.Proofs.YtlpkfdkhlffmlaaGreatDoor
