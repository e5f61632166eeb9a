/-shelf:Get of the one entry of a folder-/
import Derived.Test.YtlpkfdkhlffmlaaGreatDoorMRf
namespace Go.Proofs.YtlpkfdkhlffmlaaGreatDoor
open Go.Proofs.Tryz
open Lib (hid)
set_option linter.unusedSimpArgs false
set_option linter.unusedVariables false
set_option maxRecDepth 100000
set_option maxHeartbeats 1600000
open Go.RowKit
theorem Rd8.neS {w:World} {a x:Option Addr} {n c g y z:Nat} {t:TypeId} {l:Y8}(h:Rd8 w a n c l)(hb:Blk w g t #[.slice x y z]):0<n→ ∀ad,a=some ad→some g≠some ad.block:=fun h0 ad had e=>by
 obtain⟨b,o,e1,_,hc⟩:=h.2.2.2 h0;have h1:=hc 0 h0;rw[had]at e1;cases e1;cases e;rw[hb.cell]at h1;cases o with
 |zero=>cases h1
 |succ o=>simp at h1
theorem wT(x:ByteArray)(m:Int)(a:Option Addr)(n c:Nat)(w:World):(Instr.field 89 (.agg #[.string x,.int .i64 m,.slice a n c]) 1).run prog w= .ok (.int .i64 m) w:=by kernel_rfl
theorem jI {T:ByteArray} {m:Int} {v:Value} {p:Nat}(hp:p≤ [(T,m,v)].length)(h1: ∀k,k<p→cmpS (entD [(T,m,v)] k).1 T<0):p=0∧decide (p< [(T,m,v)].length∧cmpS (entD [(T,m,v)] p).1 T=0)=true:=by
 have hz:cmpS (entD [(T,m,v)] 0).1 T=0:=(wS T T).2 rfl;have h0:p=0:=by
  refine Decidable.byContradiction fun h=> ?_;have:=h1 0 (by omega);omega
 subst h0;exact⟨rfl,by simp[hz]⟩
theorem uZ {T T':ByteArray} {m:Int} {v:Value} {p:Nat}(h:T≠T'):decide (p< [(T,m,v)].length∧cmpS (entD [(T,m,v)] p).1 T' =0)=false:=by
 simp only[decide_eq_false_iff_not];rintro⟨h1,h2⟩;obtain rfl:p=0:=by simpa using h1
 exact h ((wS T T').1 h2)
theorem wU(s g h r f B nS cS cE J q1 q2:Nat)(made n ab:Int)(L:List (Int×Nat×Nat))(E D:Y8→Y8→Y8)(T Bs X:Y8)(aS aE:Option Addr)(w:World)(S:SfAt w s g h r made L)(hC:CphT w g E D)(hT:T.length≤390)(F:Blk w f 59 (FoC ab (.slice aE 1 cE)))(O:OwnE w B (.slice aE 1 cE) [(str T,0,.slice aS nS cS)])(hR:Rd8 w aS nS cS Bs)(h16:16≤nS)(hl:nS≤520)
  (hX:D (encV 16 (le64 (BitVec.ofInt 64 n)) [T]) Bs=X) (hXl:X.length=nS) (hy:X.drop (nS-16)=aa 8 16) (hJ:nS-16=J) (b1:Blk w q1 25 #[.pointer (some ⟨s,0,none⟩)]) (b2:Blk w q2 22 #[.slice none 0 0]):
  Calls prog 30 #[.agg (AtC n f (str T) 0 true),.pointer (some ⟨q1,0,none⟩),.pointer (some ⟨q2,0,none⟩)] w fun e w' =>e= .returned (.int .i64 0)∧ ∃q,Blk w' q2 22 #[.slice q J J]∧Rd8 w' q J J (X.take J)∧w.grownBy w' (some q2):=by
 obtain⟨W,hW⟩: ∃W,w.alloc (.cells (AtC n f (str T) 0 true) 83)=W:=⟨_,rfl⟩;obtain⟨b0,d0,z0⟩:=new1 _ _ _ _ hW;have OP:=hid (sA s g h r f B nS cS 1 cE J 0 made n ab L true E D T Bs X [(str T,0,.slice aS nS cS)] aS aE W (S.below d0) (hC.below d0) hT (F.belowAll d0) (O.below d0) rfl (by omega) rfl (hR.below d0) h16 hl hX hXl hy hJ);have k1:W.cell? ⟨q1,0,none⟩=some (.pointer (some ⟨s,0,none⟩)):=by rw[(b1.belowAll d0).cell];rfl
 have hga:=ip b0 rfl;have Q2:=hid (b2.belowAll d0);have D0:=hid d0;clear S hC F O hR b1 b2 b0 d0 z0 hX hXl hy;go_enter func30,ntmps30;go_wp2_with fail;refine OP.out.mono ?_;rintro e w1 ⟨q,rfl,r1,d1⟩;have c2:w1.cell? ⟨q2,0,none⟩=some (.slice none 0 0):=by rw[(Q2.out.belowAll d1).cell];rfl
 have fz:=(Q2.out.belowAll d1).frozen 0;have g2:=aC w1 q2 0 (.slice q J J);have K2:=hid (show Blk (w1.setCell ⟨q2,0,none⟩ (.slice q J J)) q2 22 #[.slice q J J] from(Q2.out.belowAll d1).set_ 0 _);have R2:=hid (r1.grownNe g2 (r1.neS (Q2.out.belowAll d1)));have G2:=hid (av (aW (D0.out.trans (d1.mono D0.out.size)) (some q2)) g2);clear OP r1 d1 g2 k1 hga hW;go_wp2;go_ret;exact⟨rfl,q,K2.out,R2.out,G2.out⟩
theorem vb(s g h r f B nS cS cE J q1 q2:Nat)(made n ab:Int)(L:List (Int×Nat×Nat))(en:BitVec 64→Y8→Y8)(E D:Y8→Y8→Y8)(l T Bs X:Y8)(aS aE:Option Addr)(w0 w:World)(hw:Below w0.heap.size w0 w)(K:NmE w0 h en)(S:SfAt w s g h r made L)(hL:getF L n=some f)(hC:CphT w g E D)(hT2:T.length≤390)(F:Blk w f 59 (FoC ab (.slice aE 1 cE)))(O:OwnE w B (.slice aE 1 cE) [(str T,0,.slice aS nS cS)])(hl:aH l)(hT:en (BitVec.ofInt 64 n) l=T)(hR:Rd8 w aS nS cS Bs)(h16:16≤nS)(hln:nS≤520)
  (hX:D (encV 16 (le64 (BitVec.ofInt 64 n)) [T]) Bs=X) (hXl:X.length=nS) (hy:X.drop (nS-16)=aa 8 16) (hJ:nS-16=J) (b1:Blk w q1 25 #[.pointer (some ⟨s,0,none⟩)]) (b2:Blk w q2 22 #[.slice none 0 0]):
  Calls prog 29 #[.pointer (some ⟨s,0,none⟩),.int .i64 n,.string (str l),.func (.func 30) #[] #[.pointer (some ⟨q1,0,none⟩),.pointer (some ⟨q2,0,none⟩)]] w fun e w' =>e= .returned (.int .i64 0)∧ ∃q,Blk w' q2 22 #[.slice q J J]∧Rd8 w' q J J (X.take J)∧w.grownBy w' (some q2):=by
 have FI:=hid (jh s g h r f B made n ab L en [(str T,0,.slice aS nS cS)] (.slice aE 1 cE) l T w0 w hw K S hL F O hl (by simp) hT (fun i j h1 h2 h3=>by
  obtain rfl:j=0:=by simpa using h2
  obtain rfl:i=0:=by omega
  exact h3))
 have G1:=hid (fun w1 (hb:Below w.heap.size w w1)=>wU s g h r f B nS cS cE J q1 q2 made n ab L E D T Bs X aS aE w1 (S.below hb) (hC.below hb) hT2 (F.belowAll hb) (O.below hb) (hR.below hb) h16 hln hX hXl hy hJ (b1.belowAll hb) (b2.belowAll hb));have OW:=hid (fun w1 (hb:Below w.heap.size w w1)=>kM f B 1 cE 0 aE ab n (str T) true [(str T,0,.slice aS nS cS)] w1 (F.belowAll hb) (O.below hb) rfl (by omega) ⟨aS,nS,cS,rfl⟩);clear hw K S hC F O hT hR hX hXl hy b1 b2;go_enter func29,ntmps29;go_wp2_with fail;refine FI.out.mono ?_;rintro e w1 ⟨p,hp,hp1,_,rfl,d1⟩;obtain⟨rfl,hdec⟩:=jI hp hp1;rw[hdec];have hst:=eC w1 83 at0 (AtC n f (str T) 0 true) (sizeOf83 _) rfl (by simp[ones,Value.oneCell']);obtain⟨w2,hw2⟩: ∃z,w1.alloc (.cells (AtC n f (str T) 0 true) 83)=z:=⟨_,rfl⟩;obtain⟨n2,d2,z2⟩:=new1 _ _ _ _ hw2;obtain⟨gA,hgA⟩: ∃z,w1.heap.size=z:=⟨_,rfl⟩;rw[hgA]at n2 hst;have d12:=d1.trans (d2.mono d1.size);have k4:w2.cell? ⟨gA,4,none⟩=some (.bool true):=by rw[n2.cell];rfl
 have hga:=ip n2 rfl;have N2:=hid n2;have D2:=hid d12;clear FI d1 n2 d2 z2 d12 hp hp1 hdec;go_wp2_with fail;refine(OW.out w2 D2.out).mono ?_;rintro e w3 ⟨rfl,d3⟩;have hga3:=ip (N2.out.belowAll d3) rfl;have D3:=hid (D2.out.trans (d3.mono D2.out.size));have hfe:(entC (entD [(str T,0,.slice aS nS cS)] 0))= #[.string (str T),.int .i64 0,.slice aS nS cS]:=rfl;rw[hfe];have hfd:=wT (str T) 0 aS nS cS w3;clear hst hw2 hgA k4 hga N2 d3 hfe OW;go_wp2_with fail;refine(G1.out w3 D3.out).mono ?_;rintro e w4 ⟨rfl,q,k4,r4,g4⟩;have K4:=hid k4;have R4:=hid r4;have G4:=hid (av (aW D3.out (some q2)) g4);clear k4 r4 g4 hga3;go_wp2;go_ret;exact⟨rfl,q,K4.out,R4.out,G4.out⟩
open Go.RowKit
theorem twoF {n m:Int} {f f2:Nat} {L:List (Int×Nat×Nat)}(h1:getF L n=some f)(h2:getF L m=some f2): ∀k,k<2→ ∃q x,((Value.int .i64 n).cells++(Value.int .i64 m).cells)[k]? =some (.int .i64 q)∧getF L q=some x:=fun k hk=>by
 have:k=0∨k=1:=by omega
 rcases this with rfl|rfl
 ·exact⟨n,f,rfl,h1⟩
 ·exact⟨m,f2,rfl,h2⟩
theorem vc(s g h r f B nS cS cE J:Nat)(made n ab:Int)(L:List (Int×Nat×Nat))(en:BitVec 64→Y8→Y8)(E D:Y8→Y8→Y8)(l T Bs X:Y8)(aS aE:Option Addr)(w0 w:World)(hw:Below w0.heap.size w0 w)(K:NmE w0 h en)(S:SfAt w s g h r made L)(hL:getF L n=some f)(hC:CphT w g E D)(hT2:T.length≤390)(F:Blk w f 59 (FoC ab (.slice aE 1 cE)))(O:OwnE w B (.slice aE 1 cE) [(str T,0,.slice aS nS cS)])(hl:aH l)(hT:en (BitVec.ofInt 64 n) l=T)(hR:Rd8 w aS nS cS Bs)(h16:16≤nS)(hln:nS≤520)
  (hX:D (encV 16 (le64 (BitVec.ofInt 64 n)) [T]) Bs=X) (hXl:X.length=nS) (hy:X.drop (nS-16)=aa 8 16) (hJ:nS-16=J):
  Calls prog 10 #[.pointer (some ⟨s,0,none⟩),.int .i64 n,.string (str l)] w fun e w' => ∃q,e= .returned (.tuple #[.slice q J J,.int .i64 0])∧Rd8 w' q J J (X.take J)∧Below w.heap.size w w':=by
 obtain⟨W,hW⟩: ∃W,(w.alloc (.cells #[.pointer (some ⟨s,0,none⟩)] 25)).alloc (.cells #[.slice none 0 0] 22)=W:=⟨_,rfl⟩;obtain⟨b0,b1,hb,hz⟩:=new2 _ _ _ _ _ _ hW;have c0:W.cell? ⟨w.heap.size,0,none⟩=some (.pointer (some ⟨s,0,none⟩)):=by rw[b0.cell];rfl
 have WI:=hid (vb s g h r f B nS cS cE J w.heap.size (w.heap.size+1) made n ab L en E D l T Bs X aS aE w0 W (hw.trans (hb.mono hw.size)) K (S.below hb) hL (hC.below hb) hT2 (F.belowAll hb) (O.below hb) hl hT (hR.below hb) h16 hln hX hXl hy hJ b0 b1);have B0:=hid hb;clear hw K S hC F O hT hR hX hXl hy b0 b1 hb hz;go_enter func10,ntmps10;go_wp2_with fail;refine WI.out.mono ?_;rintro e w1 ⟨rfl,q,k1,r1,g1⟩;have c1:w1.cell? ⟨w.heap.size+1,0,none⟩=some (.slice q J J):=by rw[k1.cell];rfl
 have R1:=hid r1;have D1:=hid (B0.out.grown g1 B0.out.size (fun k e=>by cases e;omega));clear k1 r1 g1 WI hW c0;go_wp2;go_ret2;exact⟨q,rfl,R1.out,D1.out⟩
theorem sB(s:Nat)(n:Int)(w:World):Calls prog 40 #[.pointer (some ⟨s,0,none⟩),.int .i64 n,.int .i64 n] w fun e w' =>e= .returned (.bool true)∧w=w':=by
 go_enter func40,ntmps40;go_wp2_with fail;refine aQ 0 (fun a' w' =>(∃u:Nat→Value,a' ={tmps:= #[.pointer (some ⟨s,0,none⟩),.int .i64 n,.int .i64 n,u 3,u 4,u 5,u 6,u 7,u 8,u 9,u 10,u 11,u 12,u 13,u 14,u 15,u 16,u 17,u 18,u 19,u 20],defers:=[]})∧w=w') (fun _ _=>0) rfl (fun hrest=> ?_) ?_
 ·go_wp2;go_step3;refine ‹∀(a:Act) (w_1:World),Code.wp _ _ _ a w_1→_› _ _ (hrest _ _ ?_);exact⟨aI _ rfl,rfl⟩
 ·rintro a9 w9 ⟨⟨u,rfl⟩,rfl⟩;go_wp2;simp only[Exit.jump];go_ret;exact⟨rfl,rfl⟩
theorem sC(s g h r f f2 B cE n2 c2:Nat)(made n m ab ab2:Int)(L:List (Int×Nat×Nat))(en:BitVec 64→Y8→Y8)(l T:Y8)(aE a2:Option Addr)(w0 w:World)(hw:Below w0.heap.size w0 w)(K:NmE w0 h en)(S:SfAt w s g h r made L)(hL:getF L n=some f)(hL2:getF L m=some f2)(hm:m≠0)(F:Blk w f 59 (FoC ab (.slice aE 1 cE)))(O:OwnE w B (.slice aE 1 cE) [(str T,m,.slice none 0 0)])(F2:Blk w f2 59 (FoC ab2 (.slice a2 n2 c2)))(hn2:0<n2)(hl:aH l)(hT:en (BitVec.ofInt 64 n) l=T):
  Calls prog 15 #[.pointer (some ⟨s,0,none⟩),.int .i64 n,.string (str l)] w fun e w' =>e= .returned (.int .i64 18)∧Below w.heap.size w w':=by
 have FI:=hid (jh s g h r f B made n ab L en [(str T,m,.slice none 0 0)] (.slice aE 1 cE) l T w0 w hw K S hL F O hl (by simp) hT (fun i j h1 h2 h3=>by
  obtain rfl:j=0:=by simpa using h2
  obtain rfl:i=0:=by omega
  exact h3))
 have OW:=hid (fun w1 (hb:Below w.heap.size w w1)=>kM f B 1 cE 0 aE ab n (str T) true [(str T,m,.slice none 0 0)] w1 (F.belowAll hb) (O.below hb) rfl (by omega) ⟨none,0,0,rfl⟩);have S0:=hid S;have F0:=hid F2;have hm2:(m !=0)=true:=by simpa using hm
 have hn3:(0:Int)<(n2:Int):=by omega
 clear hw K S F O hT F2 hm;go_enter func15,ntmps15;go_wp2_with fail;refine FI.out.mono ?_;rintro e w1 ⟨p,hp,hp1,_,rfl,d1⟩;obtain⟨rfl,hdec⟩:=jI hp hp1;rw[hdec];have hst:=eC w1 83 at0 (AtC n f (str T) 0 true) (sizeOf83 _) rfl (by simp[ones,Value.oneCell']);obtain⟨w2,hw2⟩: ∃z,w1.alloc (.cells (AtC n f (str T) 0 true) 83)=z:=⟨_,rfl⟩;obtain⟨n2',d2,z2⟩:=new1 _ _ _ _ hw2;obtain⟨gA,hgA⟩: ∃z,w1.heap.size=z:=⟨_,rfl⟩;rw[hgA]at n2' hst;have d12:=d1.trans (d2.mono d1.size);have k4:w2.cell? ⟨gA,4,none⟩=some (.bool true):=by rw[n2'.cell];rfl
 have hga:=ip n2' rfl;have D2:=hid d12;clear FI d1 n2' d2 z2 d12 hp hp1 hdec;go_wp2_with fail;refine(OW.out w2 D2.out).mono ?_;rintro e w3 ⟨rfl,d3⟩;have D3:=hid (D2.out.trans (d3.mono D2.out.size));have hfe:(entC (entD [(str T,m,.slice none 0 0)] 0))= #[.string (str T),.int .i64 m,.slice none 0 0]:=rfl;rw[hfe];have hfd:=wT (str T) m none 0 0 w3;have c2':w3.cell? ⟨s,2,none⟩=some (.map (some r)):=by rw[((S0.out.below D3.out).blk).cell];rfl
 have hlk:=gl w3 r L m (S0.out.below D3.out).map;rw[hL2,ptrF]at hlk;have c3:w3.cell? ⟨f2,1,none⟩=some (.slice a2 n2 c2):=by rw[(F0.out.belowAll D3.out).cell];rfl
 clear hst hw2 hgA k4 hga d3 hfe OW S0 F0;go_wp2;go_ret;exact⟨rfl,D3.out⟩
theorem wV(s g h r f f2 B cE c2:Nat)(made n m ab ab2:Int)(L:List (Int×Nat×Nat))(en:BitVec 64→Y8→Y8)(l l2 T T2 T3:Y8)(aE a2:Option Addr)(sv:Value)(w0 w:World)(hw:Below w0.heap.size w0 w)(K:NmE w0 h en)(S:SfAt w s g h r made L)(hL:getF L n=some f)(hL2:getF L m=some f2)(hm:m≠0)(F:Blk w f 59 (FoC ab (.slice aE 1 cE)))(O:OwnE w B (.slice aE 1 cE) [(str T,m,.slice none 0 0)])(F2:Blk w f2 59 (FoC ab2 (.slice a2 1 c2)))(O2:OwnE w B (.slice a2 1 c2) [(str T2,0,sv)])(hl:aH l)(hT:en (BitVec.ofInt 64 n) l=T)(hl2:aH l2)(hT3:en (BitVec.ofInt 64 m) l2=T3)(hne:T2≠T3):
  Calls prog 14 #[.pointer (some ⟨s,0,none⟩),.int .i64 n,.string (str l),.int .i64 m,.string (str l2)] w fun e w' =>e= .returned (.int .i64 21)∧Below w.heap.size w w':=by
 have mono1: ∀(y:ByteArray) (e:ByteArray×Int×Value) (i j:Nat),i≤j→j< [e].length→cmpS (entD [e] j).1 y<0→cmpS (entD [e] i).1 y<0:=fun y e i j h1 h2 h3=>by
  obtain rfl:j=0:=by simpa using h2
  obtain rfl:i=0:=by omega
  exact h3
 have LK:=hid (fun w1 (hb:Below w.heap.size w w1)=>mm s g h r f B made n ab L en [(str T,m,.slice none 0 0)] (.slice aE 1 cE) l T w0 w1 (hw.trans (hb.mono hw.size)) K (S.below hb) hL (F.belowAll hb) (O.below hb) hl (by simp) hT (mono1 _ _));have LK2:=hid (fun w1 (hb:Below w.heap.size w w1)=>mm s g h r f2 B made m ab2 L en [(str T2,0,sv)] (.slice a2 1 c2) l2 T3 w0 w1 (hw.trans (hb.mono hw.size)) K (S.below hb) hL2 (F2.belowAll hb) (O2.below hb) hl2 (by simp) hT3 (mono1 _ _));have OW:=hid (fun w1 (hb:Below w.heap.size w w1)=>kM f B 1 cE 0 aE ab n (str T) true [(str T,m,.slice none 0 0)] w1 (F.belowAll hb) (O.below hb) rfl (by omega) ⟨none,0,0,rfl⟩);have S0:=hid S;have NE:=hid hne;have hm2:(m !=0)=true:=by simpa using hm
 clear hw K S F O hT F2 O2 hT3 hm mono1 hne;go_enter func14,ntmps14;go_upto_region 1 with fail;refine aq [0,0,0,2,2,0] rfl (fun ops' K2 hK2=> ?_)
 repeat (first|((with_reducible refine zq0 ?_);refine zq0a ?_)|((with_reducible refine zq1 ?_);refine zq1a ?_))
 refine wN (x:= .int .i64 n) (y:= .int .i64 m) (z:= .int .i64 0) (size:=1) (bytes:=8) rfl rfl rfl rfl (by omega) (by omega) underlying130 gG (fun w1 g1 k1 d1=> ?_);simp only[Act.put,zz1,zz2,zz3]
 repeat (first|((with_reducible refine zq0 ?_);refine zq0a ?_)|((with_reducible refine zq1 ?_);refine zq1a ?_))
 (with_reducible refine aM rfl ?_)
 go_simp;refine ae ?_;refine(qm s g h r g1 2 2 made L _ w1 (S0.out.below d1) k1 (by omega) (twoF hL hL2)).mono ?_;rintro e w2 ⟨rfl,rfl⟩;refine⟨_,rfl,?_⟩
 try simp only[Act.put,zz1,zz2,zz3]
 repeat (first|((with_reducible refine zq0 ?_);refine zq0a ?_)|((with_reducible refine zq1 ?_);refine zq1a ?_))
 refine ak (hK2 _ _ ?_);have D1:=hid d1;clear d1 k1 hK2;go_wp2_with fail;refine(LK.out w1 D1.out).mono ?_;rintro e w2 ⟨p,hp,hp1,_,rfl,d2⟩;obtain⟨rfl,hdec⟩:=jI hp hp1;rw[hdec];have hst:=eC w2 83 at0 (AtC n f (str T) 0 true) (sizeOf83 _) rfl (by simp[ones,Value.oneCell']);obtain⟨w3,hw3⟩: ∃z,w2.alloc (.cells (AtC n f (str T) 0 true) 83)=z:=⟨_,rfl⟩;obtain⟨b3,d3,z3⟩:=new1 _ _ _ _ hw3;obtain⟨gA,hgA⟩: ∃z,w2.heap.size=z:=⟨_,rfl⟩;rw[hgA]at b3 hst;have D3:=hid (D1.out.trans ((d2.trans (d3.mono d2.size)).mono D1.out.size));have B3:=hid b3;clear LK d2 b3 d3 z3 hp hp1 hdec;go_wp2_with fail;refine(LK2.out w3 D3.out).mono ?_;rintro e w4 ⟨p,hp,_,_,rfl,d4⟩;rw[uZ (fun e=>NE.out (xA e))];clear hst;have hst:=eC w4 83 at0 (AtC m f2 (str T3) p false) (sizeOf83 _) rfl (by simp[ones,Value.oneCell']);obtain⟨w5,hw5⟩: ∃z,w4.alloc (.cells (AtC m f2 (str T3) p false) 83)=z:=⟨_,rfl⟩;obtain⟨b5,d5,z5⟩:=new1 _ _ _ _ hw5;obtain⟨gB,hgB⟩: ∃z,w4.heap.size=z:=⟨_,rfl⟩;rw[hgB]at b5 hst;have d45:=d4.trans (d5.mono d4.size);have k3:w5.cell? ⟨gA,4,none⟩=some (.bool true):=by rw[(B3.out.belowAll d45).cell];rfl
 have k5:w5.cell? ⟨gB,4,none⟩=some (.bool false):=by rw[b5.cell];rfl
 have hga:=ip (B3.out.belowAll d45) rfl;have D5:=hid (D3.out.trans (d45.mono D3.out.size));clear LK2 d4 b5 d5 z5 d45 hp hw3 hgA;go_wp2_with fail;refine(OW.out w5 D5.out).mono ?_;rintro e w6 ⟨rfl,d6⟩;have D6:=hid (D5.out.trans (d6.mono D5.out.size));rw[show(entC (entD [(str T,m,.slice none 0 0)] 0))= #[.string (str T),.int .i64 m,.slice none 0 0] from rfl];clear hst;have hst:=eC w6 89 #[.string ⟨#[]⟩,.int .i64 0,.slice none 0 0] #[.string (str T),.int .i64 m,.slice none 0 0] (sizeOf89 _) rfl (by simp[ones,Value.oneCell']);obtain⟨w7,hw7⟩: ∃z,w6.alloc (.cells #[.string (str T),.int .i64 m,.slice none 0 0] 89)=z:=⟨_,rfl⟩;obtain⟨b7,d7,z7⟩:=new1 _ _ _ _ hw7;obtain⟨gE,hgE⟩: ∃z,w6.heap.size=z:=⟨_,rfl⟩;rw[hgE]at b7 hst;have k7:w7.cell? ⟨gE,1,none⟩=some (.int .i64 m):=by rw[b7.cell];rfl
 have D7:=hid (D6.out.trans (d7.mono D6.out.size));clear d6 b7 d7 z7 k3 k5 hga hw5 hgB OW;go_wp2_with fail;refine(sB s m w7).mono ?_;rintro e w8 ⟨rfl,rfl⟩;go_wp2;go_ret;exact⟨rfl,D7.out⟩
end Go.Proofs.YtlpkfdkhlffmlaaGreatDoor
