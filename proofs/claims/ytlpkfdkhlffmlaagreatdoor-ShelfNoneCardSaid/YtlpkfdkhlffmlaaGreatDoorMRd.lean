/-shelf:look,find-/
import Derived.Test.YtlpkfdkhlffmlaaGreatDoorMRc
namespace Go.Proofs.YtlpkfdkhlffmlaaGreatDoor
open Go.Proofs.Tryz
open Lib (hid)
set_option linter.unusedSimpArgs false
set_option linter.unusedVariables false
set_option maxRecDepth 100000
set_option maxHeartbeats 1600000
open Go.RowKit
def NmE(w0:World)(h:Nat)(en:BitVec 64→Y8→Y8):Prop:= ∀(w1:World) (x:BitVec 64) (l:Y8),Below w0.heap.size w0 w1→aH l→
 Calls prog 62 #[.pointer (some ⟨h,0,none⟩),v64 x,.string (str l)] w1 fun e w' =>e= .returned (.tuple #[.string (str (en x l)),.int .i64 0])∧Below w1.heap.size w1 w'
@[reducible] def AtC(n:Int)(f:Nat)(T:ByteArray)(p:Nat)(is:Bool):Array Value:= #[.int .i64 n,.pointer (some ⟨f,0,none⟩),.string T,.int .i64 p,.bool is]
theorem yd(n:Int)(f:Nat)(T:ByteArray)(p:Int)(is:Bool)(w:World):(kK 83 (.int .i64 n) (.pointer (some ⟨f,0,none⟩)) (.string T) (.int .i64 p) (.bool is)).run prog w= .ok (.agg #[.int .i64 n,.pointer (some ⟨f,0,none⟩),.string T,.int .i64 p,.bool is]) w:=by kernel_rfl
theorem mm(s g h r f B:Nat)(made n ab:Int)(L:List (Int×Nat×Nat))(en:BitVec 64→Y8→Y8)(es:List (ByteArray×Int×Value))(v:Value)(l T:Y8)(w0 w:World)(hw:Below w0.heap.size w0 w)(K:NmE w0 h en)(S:SfAt w s g h r made L)(hL:getF L n=some f)(F:Blk w f 59 (FoC ab v))(O:OwnE w B v es)(hl:aH l)(hlen:es.length≤1000)(hT:en (BitVec.ofInt 64 n) l=T)
  (hmono: ∀i j,i≤j→j<es.length→cmpS (entD es j).1 (str T)<0→cmpS (entD es i).1 (str T)<0):
  Calls prog 39 #[.pointer (some ⟨s,0,none⟩),.int .i64 n,.string (str l)] w fun e w' => ∃p:Nat,p≤es.length∧(∀k,k<p→cmpS (entD es k).1 (str T)<0)∧(∀k,p≤k→k<es.length→0≤cmpS (entD es k).1 (str T))∧e= .returned (.tuple #[.agg (AtC n f (str T) p (decide (p<es.length∧cmpS (entD es p).1 (str T)=0))),.int .i64 0])∧Below w.heap.size w w':=by
 obtain⟨W,hW⟩: ∃W,w.alloc (.cells at0 83)=W:=⟨_,rfl⟩;obtain⟨b0,d0,z0⟩:=new1 _ _ _ _ hW;obtain⟨a,c,rfl,hform⟩:=O.form;obtain⟨X,hX⟩: ∃X,BitVec.ofInt 64 n=X:=⟨_,rfl⟩;have c1:W.cell? ⟨s,1,none⟩=some (.pointer (some ⟨h,0,none⟩)):=by rw[(S.blk.belowAll d0).cell];rfl
 have EN:=K W X l (hw.trans (d0.mono hw.size)) hl;rw[←hX,hT]at EN;have ENH:=hid EN;have S0:=hid (S.below d0);have F0:=hid (F.belowAll d0);have O0:=hid (O.below d0);have Z0:=hid b0;have D0:=hid d0;have HM:=hid hmono;obtain⟨m,hm⟩: ∃m,es.length=m:=⟨_,rfl⟩;rw[hm]at hlen⊢;have HMl:=hid hm;clear EN b0 d0 z0 S F O hmono K hT hform hw hX hm;go_enter func39,ntmps39;go_wp2_with fail;refine ENH.out.mono ?_;rintro e w1 ⟨rfl,d1⟩;have hm:=HMl.out;have c2:w1.cell? ⟨s,2,none⟩=some (.map (some r)):=by rw[((S0.out.below d1).blk).cell];rfl
 have hlk:=gl w1 r L n (S0.out.below d1).map;rw[hL,ptrF]at hlk;have c3:w1.cell? ⟨f,1,none⟩=some (.slice a m c):=by rw[(F0.out.belowAll d1).cell,←hm];rfl
 have hbs:=qo es B m c a (str T) w1 (O0.out.below d1) hm hlen (fun i j h1 h2=>HM.out i j h1 (by omega));have BSH:=hid hbs;have D1:=hid (D0.out.trans (d1.mono D0.out.size));have Z1:=hid (Z0.out.belowAll d1);clear d1 hbs hm c1 ENH D0 Z0;go_wp2_with fail;refine BSH.out.mono ?_;rintro e w2 ⟨p,hp,q1,q2,rfl,d2⟩;obtain⟨is,his⟩: ∃is,decide (p<m∧cmpS (entD es p).1 (str T)=0)=is:=⟨_,rfl⟩;rw[his];have HIS:=hid his;have Q1:=hid q1;have Q2:=hid q2;have D2:=hid (D1.out.trans (d2.mono D1.out.size));have Z2:=Z1.out.belowAll d2;have zr:=Z2.row;have zw:=Z2.whole;have hst:=aV (P:=prog) w2 83 w.heap.size (AtC n f (str T) p is) (sizeOf83 _) (by rw[zr];rfl) (by simp[ones,Value.oneCell']) zw;have hlt:=Z2.lt;have hbd:=yd n f (str T) (p:Int) is;clear d2 q1 q2 his BSH c2 c3 hlk Z2;go_wp2;exact aY (p:=6) (u:=7) (AtC n f (str T) p is) rfl rfl rfl (isAgg83 _) (sizeOf83 _) rfl (ah _ zw) ⟨p,hp,Q1.out,Q2.out,by rw[HIS.out];rfl,below_setRow D2.out (by omega) _⟩
theorem jh(s g h r f B:Nat)(made n ab:Int)(L:List (Int×Nat×Nat))(en:BitVec 64→Y8→Y8)(es:List (ByteArray×Int×Value))(v:Value)(l T:Y8)(w0 w:World)(hw:Below w0.heap.size w0 w)(K:NmE w0 h en)(S:SfAt w s g h r made L)(hL:getF L n=some f)(F:Blk w f 59 (FoC ab v))(O:OwnE w B v es)(hl:aH l)(hlen:es.length≤1000)(hT:en (BitVec.ofInt 64 n) l=T)
  (hmono: ∀i j,i≤j→j<es.length→cmpS (entD es j).1 (str T)<0→cmpS (entD es i).1 (str T)<0):
  Calls prog 25 #[.pointer (some ⟨s,0,none⟩),.int .i64 n,.string (str l)] w fun e w' => ∃p:Nat,p≤es.length∧(∀k,k<p→cmpS (entD es k).1 (str T)<0)∧(∀k,p≤k→k<es.length→0≤cmpS (entD es k).1 (str T))∧e= .returned (.tuple #[.agg (AtC n f (str T) p (decide (p<es.length∧cmpS (entD es p).1 (str T)=0))),.int .i64 0])∧Below w.heap.size w w':=by
 have LK:=hid (fun w1 (hb:Below w.heap.size w w1)=>mm s g h r f B made n ab L en es v l T w0 w1 (hw.trans (hb.mono hw.size)) K (S.below hb) hL (F.belowAll hb) (O.below hb) hl hlen hT hmono);have S0:=hid S;clear hw K S F O hmono;go_enter func25,ntmps25;go_upto_region 1 with fail;obtain⟨W,hW⟩: ∃W,w.alloc (.cells at0 83)=W:=⟨_,rfl⟩;obtain⟨b0,d0,z0⟩:=new1 _ _ _ _ hW;rw[hW];refine aq [0,0,2,2,0] rfl (fun ops' K2 hK2=> ?_)
 repeat (first|((with_reducible refine zq0 ?_);refine zq0a ?_)|((with_reducible refine zq1 ?_);refine zq1a ?_))
 refine jH (x:= .int .i64 n) (z0:= .int .i64 0) (size:=1) (bytes:=8) rfl rfl (by omega) (by omega) underlying130 gG (fun w1 g1 k1 d1=> ?_);simp only[Act.put,zz1,zz2,zz3]
 repeat (first|((with_reducible refine zq0 ?_);refine zq0a ?_)|((with_reducible refine zq1 ?_);refine zq1a ?_))
 have d01:=d0.trans (d1.mono d0.size)
 (with_reducible refine aM rfl ?_)
 go_simp;refine ae ?_;refine(qm s g h r g1 1 1 made L _ w1 (S0.out.below d01) k1 (by omega) (fun k hk=>⟨n,f,(show k=0 by omega)▸rfl,hL⟩)).mono ?_;rintro e w2 ⟨rfl,rfl⟩;refine⟨_,rfl,?_⟩
 try simp only[Act.put,zz1,zz2,zz3]
 repeat (first|((with_reducible refine zq0 ?_);refine zq0a ?_)|((with_reducible refine zq1 ?_);refine zq1a ?_))
 refine ak (hK2 _ _ ?_);have B1:=hid (b0.belowAll d1);have D1:=hid d01;clear d0 d1 d01 b0 k1 hK2 hW;go_wp2_with fail;refine(LK.out w1 D1.out).mono ?_;rintro e w2 ⟨p,hp,q1,q2,rfl,d2⟩;obtain⟨is,his⟩: ∃is,decide (p<es.length∧cmpS (entD es p).1 (str T)=0)=is:=⟨_,rfl⟩;rw[his];have HIS:=hid his;have Q1:=hid q1;have Q2:=hid q2;have D2:=hid (D1.out.trans (d2.mono D1.out.size));have Z2:=B1.out.belowAll d2;have zr:=Z2.row;have zw:=Z2.whole;have hst:=aV (P:=prog) w2 83 w.heap.size (AtC n f (str T) p is) (sizeOf83 _) (by rw[zr];rfl) (by simp[ones,Value.oneCell']) zw;have hlt:=Z2.lt;clear d2 q1 q2 his LK Z2;go_wp2;exact aY (p:=6) (u:=7) (AtC n f (str T) p is) rfl rfl rfl (isAgg83 _) (sizeOf83 _) rfl (ah _ zw) ⟨p,hp,Q1.out,Q2.out,by rw[HIS.out];rfl,below_setRow D2.out (by omega) _⟩
open Go.RowKit
theorem qp(f n c:Nat)(a:Option Addr)(ab:Int)(w:World)(F:Blk w f 59 (FoC ab (.slice a n c))):
  Calls prog 26 #[.pointer (some ⟨f,0,none⟩)] w fun e w' =>e= .returned (.bool (decide (64≤n)))∧w=w':=by
 have c1:w.cell? ⟨f,1,none⟩=some (.slice a n c):=by rw[F.cell];rfl
 clear F;go_enter func26,ntmps26;go_wp2;go_ret;exact⟨by simp<;>omega,rfl⟩
theorem ny(n:Int)(w:World):
  Calls prog 52 #[.int .i64 n] w fun e w' => ∃g,e= .returned (.slice (some ⟨g,0,none⟩) 8 8)∧Rd8 w' (some ⟨g,0,none⟩) 8 8 (le64 (BitVec.ofInt 64 n))∧Below w.heap.size w w':=by
 obtain⟨X,hX⟩: ∃X,BitVec.ofInt 64 n=X:=⟨_,rfl⟩;rw[hX];go_enter func52,ntmps52;go_wp2_with fail;refine(aw X w).mono ?_;rintro e w1 ⟨rfl,d1⟩;obtain⟨L,hL⟩: ∃L,L=le64 X:=⟨_,rfl⟩;have hLl:L.length=8:=by rw[hL];rfl
 rw[←hL];have HL:=hid hL;clear hL;have q1:=(Blk.new w1 171 (A8 (aa 8 8))).row;have q3:=(Blk.new w1 171 (A8 (aa 8 8))).whole;obtain⟨w2,hw2⟩: ∃z,w1.alloc (.cells (A8 L) 171)=z:=⟨_,rfl⟩;obtain⟨n2,d2,z2⟩:=new1 _ _ _ _ hw2;have n4:=n2.rd8 8 (by omega) (by rw[hLl];unfold maxLen;omega);rw[List.take_of_length_le (by omega),hLl]at n4;have N4:=hid n4;have D2:=hid (d1.trans (d2.mono d1.size));clear d1 n2 d2 z2 n4 hX;go_wp2;go_ret;exact⟨_,rfl,HL.out▸N4.out,D2.out⟩
theorem kM(f B n c p:Nat)(a:Option Addr)(ab m:Int)(T:ByteArray)(is:Bool)(es:List (ByteArray×Int×Value))(w:World)(F:Blk w f 59 (FoC ab (.slice a n c)))(O:OwnE w B (.slice a es.length c) es)(hn:es.length=n)(hp:p<n)(hsl: ∃a n c,(entD es p).2.2= .slice a n c):
  Calls prog 37 #[.agg (AtC m f T p is)] w fun e w' =>e= .returned (.agg (entC (entD es p)))∧Below w.heap.size w w':=by
 obtain⟨W,hW⟩: ∃W,(w.alloc (.cells (AtC m f T p is) 83)).alloc (.cells #[.string ⟨#[]⟩,.int .i64 0,.slice none 0 0] 89)=W:=⟨_,rfl⟩;obtain⟨b0,b1,hb,hz⟩:=new2 _ _ _ _ _ _ hW;obtain⟨g,rfl,hg1,hg2⟩: ∃g,a=some ⟨g,0,none⟩∧B≤g∧g<w.heap.size:=by
  obtain⟨a2,c2,e,h⟩:=O.form;cases e;exact h (by omega)
 obtain⟨E,hE⟩: ∃E,entD es p=E:=⟨_,rfl⟩;rw[hE]at hsl⊢;obtain⟨a9,n9,c9,h9⟩:=hsl;have hget: ∀w1,Below W.drew.heap.size W.drew w1→(ce 89 (.pointer (some ⟨g,p*3,none⟩))).run prog w1= .ok (.agg (entC E)) w1:=fun w1 h1=>by
  have:=((O.below hb).below (((Below.refl _ W).drew).trans h1)).get p (by omega);rw[ml,hE]at this;exact this
 have i0:(0:Int)≤(p:Int):=by omega
 have i1:(p:Int)<(n:Int):=by omega
 have F0:=hid (F.belowAll hb);have A0:=hid b0;have R0:=hid b1;have B0:=hid hb;clear F O b0 b1 hb hz;go_enter func37,ntmps37;go_upto_region 1 with fail
 try rw[hW]
 clear hW;refine an [0,5,0,0,5,0,5,0,5,3] (by kernel_rfl) (by kernel_rfl) (fun C0 hC0 hCb K' hK' => ?_);have Q1: ∀w1,C0 w1→w1.cell? ⟨w.heap.size,1,none⟩=some (.pointer (some ⟨f,0,none⟩)):=fun w1 hw=>by rw[(A0.out.drew.belowAll (hCb w1 hw)).cell];rfl
 have Q2: ∀w1,C0 w1→w1.cell? ⟨w.heap.size,3,none⟩=some (.int .i64 p):=fun w1 hw=>by rw[(A0.out.drew.belowAll (hCb w1 hw)).cell];rfl
 have Q3: ∀w1,C0 w1→w1.cell? ⟨f,1,none⟩=some (.slice (some ⟨g,0,none⟩) n c):=fun w1 hw=>by rw[(F0.out.drew.belowAll (hCb w1 hw)).cell];rfl
 repeat (first|((with_reducible refine hq0 ?_);refine hq0a ?_)|((with_reducible refine hq5 ?_);refine hq5a ?_ (fun _ hcw=>by have f1:=Q1 _ hcw;have f2:=Q2 _ hcw;have f3:=Q3 _ hcw;have f4:=hget _ (hCb _ hcw);go_simp;(try go_bits);exact rfl))|((with_reducible refine hq1 ?_);refine hq1a ?_))
 refine bJ [2] rfl (by simp) ?_;refine am R0.out.drew rfl rfl rfl (by simp[ones,entC,Value.oneCell',h9]) (sizeOf89 _) (fun w3 k3 g3 s3=> ?_);refine ak (hK' _ _ ?_);have B3:=hid ((B0.out.drew).trans (ac g3 (by omega) B0.out.drew.size));have kr:=k3.row;clear Q1 Q2 Q3 hC0 hCb hK' hget g3 s3;go_wp2;exact ag (entC E) rfl rfl rfl (isAgg89 _) (sizeOf89 _) rfl kr ⟨rfl,B3.out⟩
end Go.Proofs.YtlpkfdkhlffmlaaGreatDoor
