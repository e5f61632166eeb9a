/-shelf:slices.Insert onto nothing,put,add-/
import Derived.Test.YtlpkfdkhlffmlaaGreatDoorMRe
namespace Go.Proofs.YtlpkfdkhlffmlaaGreatDoor
open Go.Proofs.Tryz
open Lib (hid)
set_option linter.unusedSimpArgs false
set_option linter.unusedVariables false
set_option maxRecDepth 100000
set_option maxHeartbeats 1600000
open Go.RowKit
theorem tv:(prog.info? 89).map (fun i=>(i.zero,i.size,i.bytes))=some (some (.agg #[.string ⟨#[]⟩,.int .i64 0,.slice none 0 0]),3,48):=by kernel_rfl
theorem zP {w:World} {g:Nat} {cs:Array Value}(h:Blk w g 89 cs)(hs:cs.size=3):(ce 89 (.pointer (some ⟨g,0,none⟩))).run prog w= .ok (.agg cs) w:=by
 have r:=h.row;rw[cB w _ _ _ (isAgg89 _) (sizeOf89 _) (by rw[r,hs,fD];omega),r,fD];exact congrArg (fun z=>Result.ok (Value.agg z) w) (show cs.extract 0 3=cs by rw[←hs];simp)
section
variable {ops:Array Oper} {K:Act→World→Prop} {ks:List Nat} {l:List Oper} {a:Act} {w:World}
theorem uW {d:Option Tmp} {x y:Operand} {t ty:TypeId} {pos:String} {after:Array Edge} {B g c:Nat} {v:Value} {es:List (ByteArray×Int×Value)} {z:ByteArray×Int×Value}(hown:OwnE w B v es)(hb:Blk w g 89 (entC z))(hz2: ∃a n c,z.2.2= .slice a n c)
  (hx:a.eval x=v) (hy:a.eval y= .slice (some ⟨g,0,none⟩) 1 c) (ht:prog.underlying t=some (.slice 89)) (hL:es.length≤1000) (hB:B≤w.heap.size)
  (h: ∀w1 v1,OwnE w1 B v1 (es++ [z])→w.grownBy w1 v.ownBlock→Below B w w1→wpZ prog ops K ks l (a.put d v1) w1):
  wpZ prog ops K (2::ks) (⟨d,.call {callee:= .builtin .append,args:= #[x,y],argTypes:= #[t,t]},ty,pos,after,none⟩::l) a w:=by
 obtain⟨i,hi,hz,hs,hby⟩:=info_parts tv;obtain⟨a9,n9,c9,h9⟩:=hz2;have hbel: ∀w',w.grownBy w' v.ownBlock→Below B w w':=fun w' hg=>(Below.refl B w).grown hg hB (fun k hk=>(World.ownsRow.lt hown k hk).1);obtain⟨v1,w1,hrun,hown',hg,hor⟩:=fG (P:=prog) w B t ty 89 i (.agg #[.string ⟨#[]⟩,.int .i64 0,.slice none 0 0]) 3 48 ht hi hz hs hby rfl (by omega) v es.length (gU es) hown ⟨g,0,none⟩ 1 c (entC z).toList rfl
  (fun j u hu=>by
   rw[Addr.add_lit,Nat.zero_add,hb.cell];simpa using hu)
  (fun u hu=>by
   simp[entC]at hu;rcases hu with rfl|rfl|rfl
   ·rfl
   ·rfl
   ·rw[h9];rfl) (by unfold maxLen;omega) (by omega) hB
 have hr':(execOp a.eval ⟨d,.call {callee:= .builtin .append,args:= #[x,y],argTypes:= #[t,t]},ty,pos,after,none⟩).run prog w= .ok (.value v1) w1:=by
  rw[BigFrame.execOp_builtin];simp only[BigFrame.builtin_append,List.map_toArray,List.map_cons,List.map_nil,hx,hy,Sem.run_bind,hrun,Result.andThen_ok,Sem.run_pure]
 refine kR rfl hr' (h _ _ ?_ hg (hbel _ hg));unfold OwnE;rw[List.length_append,show gU (es++ [z])=gU es++(entC z).toList by simp[gU]];exact hown'
end
theorem mD(g c:Nat)(z:ByteArray×Int×Value)(w:World)(hb:Blk w g 89 (entC z))(hz2: ∃a n c,z.2.2= .slice a n c):
  Calls prog 50 #[.slice none 0 0,.int .i64 0,.slice (some ⟨g,0,none⟩) 1 c] w fun e w' => ∃v,e= .returned v∧OwnE w' w.heap.size v [z]∧Below w.heap.size w w':=by
 have B0:=hid hb;clear hb;go_enter func50,ntmps50;go_upto_region 7 with fail;refine aq [0,0,2,0] rfl (fun ops' K2 hK2=> ?_)
 repeat (first|((with_reducible refine zq0 ?_);refine zq0a ?_)|((with_reducible refine zq1 ?_);refine zq1a ?_))
 refine uW (es:=[]) (World.ownsRow_nil w w.heap.size _ 3) B0.out hz2 rfl rfl underlying57 (by simp) (Nat.le_refl _) (fun w1 v1 o1 g1 d1=> ?_);simp only[Act.put,zz1,zz2,zz3]
 repeat (first|((with_reducible refine zq0 ?_);refine zq0a ?_)|((with_reducible refine zq1 ?_);refine zq1a ?_))
 refine ak (hK2 _ _ ?_);clear hK2 g1;go_wp2;go_ret;exact⟨_,rfl,o1,d1⟩
theorem nA(f nS cS:Nat)(n ab m:Int)(T s0:ByteArray)(aS:Option Addr)(w:World)(F:Blk w f 59 (FoC ab (.slice none 0 0))):
  Calls prog 28 #[.agg (AtC n f T 0 false),.agg #[.string s0,.int .i64 m,.slice aS nS cS]] w fun e w' =>e= .returned (.tuple #[])∧ ∃v,Blk w' f 59 (FoC ab v)∧OwnE w' w.heap.size v [(T,m,.slice aS nS cS)]∧w.grownBy w' (some f):=by
 go_enter func28,ntmps28;go_upto_region 4 with fail;obtain⟨W,hW⟩: ∃W,((w.alloc (.cells (AtC n f T 0 false) 83)).alloc (.cells #[.string T,.int .i64 m,.slice aS nS cS] 89))=W:=⟨_,rfl⟩;obtain⟨b0,b1,hb,hz⟩:=new2 _ _ _ _ _ _ hW;have A0:=hid b0;have E0:=hid b1;have F0:=hid (F.belowAll hb);have B0:=hid hb;have hfl:=F.lt;rw[hW];clear b0 b1 hb hz hW F;refine an [0,5,0,5,0,0,5,0,5,5,2,2,0,0,3] (by kernel_rfl) (by kernel_rfl) (fun C0 hC0 hCb K' hK' => ?_);have Q1: ∀w1,C0 w1→w1.cell? ⟨w.heap.size,1,none⟩=some (.pointer (some ⟨f,0,none⟩)):=fun w1 hw=>by rw[(A0.out.drew.belowAll (hCb w1 hw)).cell];rfl
 have Q2: ∀w1,C0 w1→w1.cell? ⟨w.heap.size,3,none⟩=some (.int .i64 0):=fun w1 hw=>by rw[(A0.out.drew.belowAll (hCb w1 hw)).cell];rfl
 have Q3: ∀w1,C0 w1→w1.cell? ⟨f,1,none⟩=some (.slice none 0 0):=fun w1 hw=>by rw[(F0.out.drew.belowAll (hCb w1 hw)).cell];rfl
 have Q4: ∀w1,C0 w1→(ce 89 (.pointer (some ⟨w.heap.size+1,0,none⟩))).run prog w1= .ok (.agg #[.string T,.int .i64 m,.slice aS nS cS]) w1:=fun w1 hw=>zP (E0.out.drew.belowAll (hCb w1 hw)) rfl
 repeat (first|((with_reducible refine hq0 ?_);refine hq0a ?_)|((with_reducible refine hq5 ?_);refine hq5a ?_ (fun _ hcw=>by have f1:=Q1 _ hcw;have f2:=Q2 _ hcw;have f3:=Q3 _ hcw;have f4:=Q4 _ hcw;go_simp;(try go_bits);exact rfl))|((with_reducible refine hq1 ?_);refine hq1a ?_))
 refine sy (x:= .agg #[.string T,.int .i64 m,.slice aS nS cS]) (z0:= .agg #[.string ⟨#[]⟩,.int .i64 0,.slice none 0 0]) (size:=3) (bytes:=48) rfl rfl (by omega) (by omega) underlying57 tv (fun w1 g1 k1 d1=> ?_);simp only[Act.put,zz1,zz2,zz3];refine hqc ?_;go_simp;refine ae ?_;refine(mD g1 1 (T,m,.slice aS nS cS) w1 k1 ⟨_,_,_,rfl⟩).mono ?_;rintro e w2 ⟨v2,rfl,o2,d2⟩;refine⟨_,rfl,d2,?_⟩
 try simp only[Act.put,zz1,zz2,zz3]
 repeat (first|((with_reducible refine hq0 ?_);refine hq0a ?_)|((with_reducible refine hq5 ?_);refine hq5a ?_)|((with_reducible refine hq1 ?_);refine hq1a ?_))
 refine bJ [2] rfl (by simp) ?_;obtain⟨a2,c2,rfl,_⟩:=o2.form;have d12:=d1.trans (d2.mono d1.size);refine iG (F0.out.drew.belowAll d12) rfl rfl rfl (sizeOf57 _) (fun w3 k3 g3 s3=> ?_);refine ak (hK' _ _ ?_);have hW1:W.heap.size≤w1.heap.size:=d1.size;have hW0:=B0.out.size;have e2:=(B0.out.drew).trans (d12.mono B0.out.drew.size);have O3:=hid (show OwnE w3 w.heap.size (.slice a2 1 c2) [(T,m,.slice aS nS cS)] from by
  have h1:=World.ownsRow.kept o2 g3 (by
   cases a2 with
   |none=>exact .inl rfl
   |some ad=>
    refine .inr fun e=> ?_;have:=(World.ownsRow.lt o2 ad.block rfl).1;simp only[Value.ownBlock,Option.some.injEq]at e;omega)
  exact⟨h1.1,h1.2.imp id fun⟨g,cap,cur,h3,h4,h5⟩=>⟨g,cap,cur,h3,by omega,h5⟩⟩)
 have K3:=hid k3;have G3:=hid (av (aW e2 (some f)) g3);clear Q1 Q2 Q3 Q4 hC0 hCb hK' d1 d2 d12 k1 o2 k3 g3 s3 e2;go_wp2;go_end0;exact⟨rfl,_,K3.out,O3.out,G3.out⟩
theorem ye(s g h r:Nat)(made n ab:Int)(L:List (Int×Nat×Nat))(w:World)(S:SfAt w s g h r made L)(hn:getF L n=none):
  Calls prog 27 #[.pointer (some ⟨s,0,none⟩),.int .i64 n,.int .i64 ab] w fun e w' =>e= .returned (.tuple #[])∧ ∃b,MapAt w' r (L++ [(n,w.heap.size,b)])∧Blk w' w.heap.size 59 (FoC ab (.slice none 0 0))∧w.grownBy w' (some r):=by
 have hrl:=S.map.lt;obtain⟨W,hW⟩: ∃W,w.alloc (.cells (FoC ab (.slice none 0 0)) 59)=W:=⟨_,rfl⟩;obtain⟨b0,d0,z0⟩:=new1 _ _ _ _ hW;have c2:w.cell? ⟨s,2,none⟩=some (.map (some r)):=by rw[S.blk.cell];rfl
 obtain⟨w',b,hu,h1,h2,h3⟩:=kv W r L n w.heap.size (S.map.below d0) hn;have hbd: ∀w1:World,(dB 59 (.int .i64 ab)).run prog w1= .ok (.agg (FoC ab (.slice none 0 0))) w1:=fun w1=>by kernel_rfl
 have hsz:(FoC ab (.slice none 0 0)).size=2:=rfl;have H1:=hid h1;have HB:=hid (b0.grown h2 (by simp;omega));have HG:=hid (av (aW d0 (some r)) h2);clear b0 d0 z0 S h1 h2 h3;go_enter func27,ntmps27;go_wp2;go_end0;exact⟨rfl,b,H1.out,HB.out,HG.out⟩
open Go.RowKit
theorem Blk.neT {w:World} {a b:Nat} {t u:TypeId} {c d:Array Value}(h:Blk w a t c)(k:Blk w b u d)(hne:t≠u):a≠b:=by
 rintro rfl;unfold Blk at h k;rw[h]at k;cases k;exact hne rfl
theorem MapAt.neB {w:World} {r b:Nat} {L:List (Int×Nat×Nat)} {u:TypeId} {d:Array Value}(h:MapAt w r L)(k:Blk w b u d):r≠b:=by
 rintro rfl;obtain⟨c,h⟩:=h;unfold Blk at k;rw[h]at k;cases k
theorem ip {w:World} {g:Nat} {cs:Array Value}(h:Blk w g 83 cs)(hs:cs.size=5):(ce 83 (.pointer (some ⟨g,0,none⟩))).run prog w= .ok (.agg cs) w:=by
 have r:=h.row;have e:prog.cellsOf 83=5:=by kernel_rfl
 rw[cB w _ _ _ (isAgg83 _) (sizeOf83 _) (by rw[r,hs,e];exact Nat.le_refl _),r,e];exact congrArg (fun z=>Result.ok (Value.agg z) w) (show cs.extract 0 5=cs by rw[←hs];simp)
theorem uX(s g h r f made:Nat)(n ab:Int)(L:List (Int×Nat×Nat))(en:BitVec 64→Y8→Y8)(l T:Y8)(w0 w:World)(hw:Below w0.heap.size w0 w)(K:NmE w0 h en)(S:SfAt w s g h r (made:Int) L)(hL:getF L n=some f)(F:Blk w f 59 (FoC ab (.slice none 0 0)))(hl:aH l)(hT:en (BitVec.ofInt 64 n) l=T)
  (hm:made<64) (hn:getF L ((made+1:Nat):Int)=none) (hs0:w0.heap.size≤s) (hr0:w0.heap.size≤r) (hf0:w0.heap.size≤f):
  Calls prog 9 #[.pointer (some ⟨s,0,none⟩),.int .i64 n,.string (str l)] w fun e w' =>e= .returned (.tuple #[.int .i64 ((made+1:Nat):Int),.int .i64 0])∧ ∃v b f2,SfAt w' s g h r ((made+1:Nat):Int) (L++ [(((made+1:Nat):Int),f2,b)])∧Blk w' f2 59 (FoC n (.slice none 0 0))∧Blk w' f 59 (FoC ab v)∧OwnE w' w.heap.size v [(str T,((made+1:Nat):Int),.slice none 0 0)]∧w.heap.size≤f2∧Below w0.heap.size w0 w':=by
 have FI:=hid (jh s g h r f w.heap.size (made:Int) n ab L en [] (.slice none 0 0) l T w0 w hw K S hL F (World.ownsRow_nil w w.heap.size _ 3) hl (by simp) hT (by simp));obtain⟨M,hM⟩: ∃M,made+1=M:=⟨_,rfl⟩;rw[hM]at hn⊢;have m1:(made:Int)+1=(M:Int):=by omega
 have m2:IntKind.i64.wrap (M:Int)=(M:Int):=by rw[IntKind.wrap_i64];omega
 have m3: ¬(64:Int)≤(made:Int):=by omega
 have S0:=hid S;have F0:=hid F;have W0:=hid hw;clear hM hw K S F hT;go_enter func9,ntmps9;go_wp2_with fail;refine FI.out.mono ?_;rintro e w1 ⟨p,hp,_,_,rfl,d1⟩;obtain rfl:p=0:=by simpa using hp
 rw[show decide (0<([]:List (ByteArray×Int×Value)).length∧cmpS (entD [] 0).1 (str T)=0)=false by simp];have hst:=eC w1 83 at0 (AtC n f (str T) 0 false) (sizeOf83 _) rfl (by simp[ones,Value.oneCell']);obtain⟨w2,hw2⟩: ∃z,w1.alloc (.cells (AtC n f (str T) 0 false) 83)=z:=⟨_,rfl⟩;obtain⟨n2,d2,z2⟩:=new1 _ _ _ _ hw2;obtain⟨gA,hgA⟩: ∃z,w1.heap.size=z:=⟨_,rfl⟩;rw[hgA]at n2 hst;have d12:=d1.trans (d2.mono d1.size);have k4:w2.cell? ⟨gA,4,none⟩=some (.bool false):=by rw[n2.cell];rfl
 have k1:w2.cell? ⟨gA,1,none⟩=some (.pointer (some ⟨f,0,none⟩)):=by rw[n2.cell];rfl
 have s3:w2.cell? ⟨s,3,none⟩=some (.int .i64 (made:Int)):=by rw[(S0.out.blk.belowAll d12).cell];rfl
 have fz:w2.frozen? ⟨s,3,none⟩=false:=(S0.out.blk.belowAll d12).frozen 3;have FU:=hid (qp f 0 0 none ab w2 (F0.out.belowAll d12));have N2:=hid n2;have D2:=hid d12;clear FI d1 n2 d2 z2 d12;go_wp2_with fail;refine FU.out.mono ?_;rintro e wq ⟨rfl,rfl⟩;rw[show decide (64≤0)=false by decide];clear FU;go_wp2_with fail;have S2:=S0.out.below D2.out;have g3:=aC w2 s 3 (.int .i64 (M:Int));have B3:Blk (w2.setCell ⟨s,3,none⟩ (.int .i64 (M:Int))) s 62 (ShC g h r (M:Int)):=S2.blk.set_ 3 _;obtain⟨w3,hw3⟩: ∃z,w2.setCell ⟨s,3,none⟩ (.int .i64 (M:Int))=z:=⟨_,rfl⟩;rw[hw3]at g3 B3⊢;have S3:=hid (show SfAt w3 s g h r (M:Int) L from⟨B3,S2.map.grown g3 (by simpa using S2.map.neB S2.blk)⟩);have F3:=hid ((F0.out.belowAll D2.out).grown g3 (by simpa using(F0.out.belowAll D2.out).neT S2.blk (by decide)));have N3:=hid (N2.out.grown g3 (by simpa using N2.out.neT S2.blk (by decide)));have W2:=W0.out.trans (D2.out.mono W0.out.size);have W3:=hid (W2.grown g3 W2.size (fun k e=>by cases e;exact hs0));have hsz3:w.heap.size≤w3.heap.size:=Nat.le_trans D2.out.size g3.size;clear S2 B3 g3 hw3 s3 fz k4 k1 W2 hst hw2;refine(ye s g h r (M:Int) (M:Int) n L w3 S3.out hn).mono ?_;rintro e w4 ⟨rfl,b,hm4,hf4,g4⟩;have S4:=hid (S3.out.blk.grown g4 (by simpa using fun e=>S3.out.map.neB S3.out.blk e.symm));have F4:=hid (F3.out.grown g4 (by simpa using fun e=>S3.out.map.neB F3.out e.symm));have N4:=hid (N3.out.grown g4 (by simpa using fun e=>S3.out.map.neB N3.out e.symm));have M4:=hid hm4;have P4:=hid hf4;have W4:=hid (W3.out.grown g4 W3.out.size (fun k e=>by cases e;exact hr0))
 have hne:f≠w3.heap.size:=by have:=F3.out.lt;omega
 obtain⟨f2,hf2⟩: ∃f2,w3.heap.size=f2:=⟨_,rfl⟩;rw[hf2]at M4 P4 hne hsz3;have hsz4:w.heap.size≤w4.heap.size:=by have:=g4.size;omega
 clear hm4 hf4 g4 S3 F3 N3 W3 hf2;go_upto_region 10 with fail;have hbd: ∀w1:World,(Instr.build 89 #[(1,.int .i64 (M:Int))]).run prog w1= .ok (.agg #[.string ⟨#[]⟩,.int .i64 (M:Int),.slice none 0 0]) w1:=fun w1=>by kernel_rfl
 refine an [5,0,0,0,5,0,3] (by kernel_rfl) (by kernel_rfl) (fun C0 hC0 hCb K' hK' => ?_);have Q1: ∀w1,C0 w1→(ce 83 (.pointer (some ⟨gA,0,none⟩))).run prog w1= .ok (.agg (AtC n f (str T) 0 false)) w1:=fun w1 hw=>ip (N4.out.drew.belowAll (hCb w1 hw)) rfl;have Q2: ∀w1,C0 w1→w1.cell? ⟨s,3,none⟩=some (.int .i64 (M:Int)):=fun w1 hw=>by rw[(S4.out.drew.belowAll (hCb w1 hw)).cell];rfl
 repeat (first|((with_reducible refine hq0 ?_);refine hq0a ?_)|((with_reducible refine hq5 ?_);refine hq5a ?_ (fun _ hcw=>by have f1:=Q1 _ hcw;have f2:=Q2 _ hcw;go_simp;(try go_bits);exact rfl))|((with_reducible refine hq1 ?_);refine hq1a ?_))
 refine bJ [2] rfl (by simp) ?_
 (with_reducible refine aM rfl ?_)
 go_simp;refine ae ?_;refine(nA f 0 0 n ab (M:Int) (str T) ⟨#[]⟩ none w4.drew F4.out.drew).mono ?_;rintro e w5 ⟨rfl,v5,k5,o5,g5⟩;refine⟨_,rfl,?_⟩
 try simp only[Act.put,zz1,zz2,zz3]
 refine ak (hK' _ _ ?_);have S5:=hid (S4.out.drew.grown g5 (by simpa using fun e=>F4.out.neT S4.out (by decide) e.symm));have M5:=hid ((show MapAt w4.drew r _ from M4.out).grown g5 (by simpa using MapAt.neB M4.out F4.out));have P5:=hid (P4.out.drew.grown g5 (by simpa using fun e=>hne e.symm));have K5:=hid k5;have O5:=hid (show OwnE w5 w.heap.size v5 _ from⟨o5.1,o5.2.imp id fun⟨g,cap,cur,h3,h4,h5⟩=>⟨g,cap,cur,h3,Nat.le_trans hsz4 h4,h5⟩⟩);have W5:=hid (W4.out.drew.grown g5 W4.out.drew.size (fun k e=>by cases e;exact hf0));have s5:w5.cell? ⟨s,3,none⟩=some (.int .i64 (M:Int)):=by rw[S5.out.cell];rfl
 clear Q1 Q2 hC0 hCb hK' k5 o5 g5 hbd S4 F4 N4 M4 P4 W4;go_wp2;go_ret2;exact⟨rfl,v5,b,f2,⟨S5.out,M5.out⟩,P5.out,K5.out,O5.out,hsz3,W5.out⟩
theorem uY(s g h r f len dM:Nat)(made n ab:Int)(L:List (Int×Nat×Nat))(en:BitVec 64→Y8→Y8)(E D:Y8→Y8→Y8)(l T B:Y8)(bM:Option Addr)(w0 w:World)(hw:Below w0.heap.size w0 w)(K:NmE w0 h en)(hC:CphT w0 g E D)(S:SfAt w s g h r made L)(hL:getF L n=some f)(F:Blk w f 59 (FoC ab (.slice none 0 0)))(hl:aH l)(hT:en (BitVec.ofInt 64 n) l=T)
  (hT2:T.length≤390) (hM:Rd8 w bM len dM B) (hln:len≤500) (hf0:w0.heap.size≤f) (Z:Y8) (hZ:E (encV 16 (le64 (BitVec.ofInt 64 n)) [T]) (B++aa 8 16)=Z):
  Calls prog 13 #[.pointer (some ⟨s,0,none⟩),.int .i64 n,.string (str l),.slice bM len dM] w fun e w' =>e= .returned (.int .i64 0)∧ ∃v aS cS,SfAt w' s g h r made L∧Blk w' f 59 (FoC ab v)∧OwnE w' w.heap.size v [(str T,0,.slice aS Z.length cS)]∧Rd8 w' aS Z.length cS Z∧w.grownBy w' (some f)∧Below w0.heap.size w0 w':=by
 have FI:=hid (jh s g h r f w.heap.size made n ab L en [] (.slice none 0 0) l T w0 w hw K S hL F (World.ownsRow_nil w w.heap.size _ 3) hl (by simp) hT (by simp));have m3: ¬(65536:Int)<(len:Int):=by omega
 have S0:=hid S;have F0:=hid F;have W0:=hid hw;have M0:=hid hM;have C0_:=hid (hC.below hw);have HZ:=hid hZ;clear hw K S F hT hM hC hZ;go_enter func13,ntmps13;go_wp2_with fail;refine FI.out.mono ?_;rintro e w1 ⟨p,hp,_,_,rfl,d1⟩;obtain rfl:p=0:=by simpa using hp
 rw[show decide (0<([]:List (ByteArray×Int×Value)).length∧cmpS (entD [] 0).1 (str T)=0)=false by simp];have hst:=eC w1 83 at0 (AtC n f (str T) 0 false) (sizeOf83 _) rfl (by simp[ones,Value.oneCell']);obtain⟨w2,hw2⟩: ∃z,w1.alloc (.cells (AtC n f (str T) 0 false) 83)=z:=⟨_,rfl⟩;obtain⟨n2,d2,z2⟩:=new1 _ _ _ _ hw2;obtain⟨gA,hgA⟩: ∃z,w1.heap.size=z:=⟨_,rfl⟩;rw[hgA]at n2 hst;have d12:=d1.trans (d2.mono d1.size);have k4:w2.cell? ⟨gA,4,none⟩=some (.bool false):=by rw[n2.cell];rfl
 have k1:w2.cell? ⟨gA,1,none⟩=some (.pointer (some ⟨f,0,none⟩)):=by rw[n2.cell];rfl
 have FU:=hid (qp f 0 0 none ab w2 (F0.out.belowAll d12));have N2:=hid n2;have D2:=hid d12;clear FI d1 n2 d2 z2 d12;go_wp2_with fail;refine FU.out.mono ?_;rintro e wq ⟨rfl,rfl⟩;rw[show decide (64≤0)=false by decide];clear FU;go_upto_region 10 with fail;have hbd: ∀(a:Option Addr) (n c:Nat) (w1:World),(Instr.build 89 #[(2,.slice a n c)]).run prog w1= .ok (.agg #[.string ⟨#[]⟩,.int .i64 0,.slice a n c]) w1:=fun a n c w1=>by kernel_rfl
 clear k4 k1 hst hw2 hgA;refine an [5,0,5,0,2,0,3] (by kernel_rfl) (by kernel_rfl) (fun C0 hC0 hCb K' hK' => ?_);have Q1: ∀w1,C0 w1→(ce 83 (.pointer (some ⟨gA,0,none⟩))).run prog w1= .ok (.agg (AtC n f (str T) 0 false)) w1:=fun w1 hw=>ip (N2.out.drew.belowAll (hCb w1 hw)) rfl
 repeat (first|((with_reducible refine hq0 ?_);refine hq0a ?_)|((with_reducible refine hq5 ?_);refine hq5a ?_ (fun _ hcw=>by have f1:=Q1 _ hcw;go_simp;(try go_bits);exact rfl))|((with_reducible refine hq1 ?_);refine hq1a ?_))
 have e2:=D2.out.drew;refine hqc ?_;go_simp;refine ae ?_;refine(sz s g h r f len dM made n 0 L false E D T B bM w2.drew (S0.out.below e2) (C0_.out.below e2) hT2 (M0.out.below e2) hln).mono ?_;rintro e w3 ⟨v3,rfl,o3,d3⟩;refine⟨_,rfl,d3,?_⟩
 try simp only[Act.put,zz1,zz2,zz3]
 rw[HZ.out]at o3;obtain⟨aS,cS,rfl,rS,qS⟩:=o3.rd
 repeat (first|((with_reducible refine hq0 ?_);refine hq0a ?_)|((with_reducible refine hq5 ?_);refine hq5a ?_)|((with_reducible refine hq1 ?_);refine hq1a ?_))
 refine bJ [2] rfl (by simp) ?_;have e3:=e2.trans (d3.mono e2.size);have F3:=F0.out.belowAll e3
 (with_reducible refine aM rfl ?_)
 go_simp;refine ae ?_;refine(nA f Z.length cS n ab 0 (str T) ⟨#[]⟩ aS w3 F3).mono ?_;rintro e w4 ⟨rfl,v4,k4,o4,g4⟩;refine⟨_,rfl,?_⟩
 try simp only[Act.put,zz1,zz2,zz3]
 refine ak (hK' _ _ ?_);have hfl:=F0.out.lt;have S3:=S0.out.below e3;have S4:=hid (show SfAt w4 s g h r made L from⟨S3.blk.grown g4 (by simpa using fun e=>F3.neT S3.blk (by decide) e.symm),S3.map.grown g4 (by simpa using S3.map.neB F3)⟩);have K4:=hid k4;have O4:=hid (show OwnE w4 w.heap.size v4 _ from⟨o4.1,o4.2.imp id fun⟨g,cap,cur,h3,h4,h5⟩=>⟨g,cap,cur,h3,Nat.le_trans e3.size h4,h5⟩⟩);have R4:=hid (rS.grownNe g4 (fun _ ad had e=>by
  have h1:=qS ad had;have h2:=e2.size;simp only[Option.some.injEq]at e;omega))
 have G4:=hid (av (aW e3 (some f)) g4);have W3:=W0.out.trans (e3.mono W0.out.size);have W4:=hid (W3.grown g4 W3.size (fun k e=>by cases e;exact hf0));clear Q1 hC0 hCb hK' d3 e2 e3 F3 S3 W3 k4 o4 g4 o3 rS qS hbd;go_wp2;go_ret;exact⟨rfl,v4,aS,cS,S4.out,K4.out,O4.out,R4.out,G4.out,W4.out⟩
end Go.Proofs.YtlpkfdkhlffmlaaGreatDoor
