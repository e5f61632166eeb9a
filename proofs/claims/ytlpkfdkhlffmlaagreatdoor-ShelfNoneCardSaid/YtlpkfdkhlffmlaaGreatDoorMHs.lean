/-poly:a Sum's block:the key,the value,what is left,how many bytes that is-/
import Derived.Test.YtlpkfdkhlffmlaaGreatDoorMHp
import Derived.Test.YtlpkfdkhlffmlaaGreatDoorMGb
import Derived.Test.YtlpkfdkhlffmlaaGreatDoorMGm
namespace Go.Proofs.YtlpkfdkhlffmlaaGreatDoor
open Go.Proofs.Tryz
open Lib (hid)
set_option linter.unusedSimpArgs false
set_option linter.unusedVariables false
set_option maxRecDepth 100000
set_option maxHeartbeats 1600000
open Go.RowKit
section
variable {P:Program}
def layC(cs:Array Value)(o:Nat)(x:List Value):Array Value:=(cs.toList.take o++x++cs.toList.drop (o+x.length)).toArray
theorem wH(cs:Array Value)(o:Nat):layC cs o []=cs:=by simp[layC]
theorem uy(w:World)(dT sT ty elem:TypeId)(g o dLen dCap:Nat)(a:Option Addr)(sLen sCap:Nat)(cs:Array Value)(l:Y8)(hu:P.underlying dT=some (.slice elem))(hs:(P.info? elem).map (·.size)=some 1)
  (hw:whole w g=true) (hr:ar w g=cs) (hl:Rd8 w a sLen sCap l) (hfit:o+min sLen dLen≤cs.size):
  (Builtin.copy_ #[dT,sT] ty #[.slice (some ⟨g,o,none⟩) dLen dCap,.slice a sLen sCap]).run P w= .ok (goInt (min sLen dLen)) (w.setRow g (layC cs o ((l.take (min sLen dLen)).map v8))):=by
 obtain⟨cur,e,hg⟩:=cV hw;have hcur:cur=cs:=by rw[←hr];unfold ar;rw[hg]
 subst hcur;by_cases hn:min sLen dLen=0
 ·rw[hn,List.take_zero,List.map_nil,wH,oQ hw hr];have hn':Nat.min sLen dLen=0:=hn;have hz:min (sLen:Int) (dLen:Int)=0:=by omega
  cases hq:P.info? elem with
  |none=>simp[hq]at hs
  |some i=>
   cases a with
   |none=>simp[Builtin.copy_,run_underlying hu,Builtin.lenOf,Builtin.firstCells,sizeOf,typeInfo,hq,storeCells,hn',hz]
   |some x=>simp[Builtin.copy_,run_underlying hu,Builtin.lenOf,Builtin.firstCells,sizeOf,typeInfo,hq,storeCells,hn',hz,loadCells,loadCellsFrom]
 ·obtain⟨ad,rfl,hc⟩:=hl.cells (by omega);have hlen:(l.take (min sLen dLen)).length=min sLen dLen:=by rw[List.length_take,hl.1];omega
  have h:=run_copy_row (P:=P) w dT sT ty elem g o dLen dCap ad sLen sCap cur e ((l.take (min sLen dLen)).map v8) hu hs hg (by rw[List.length_map,hlen]) (fun j v hj=>by
   refine hc j v ?_;rw[List.map_take,List.getElem?_take]at hj
   split at hj
   ·exact hj
   ·cases hj) (by rw[List.length_map,hlen];exact hfit) (fun v hv=>by
    obtain⟨x,_,rfl⟩:=List.mem_map.1 hv;rfl)
  rw[h,List.length_map,hlen];have hg':goInt ((min sLen dLen:Nat):Int)=goInt (min (sLen:Int) (dLen:Int)):=by congr 1;omega
  have hrow:(cur.toList.take o++(l.take (min sLen dLen)).map v8++cur.toList.drop (o+min sLen dLen)).toArray=layC cur o ((l.take (min sLen dLen)).map v8):=by
   rw[layC,List.length_map,hlen]
  rw[hrow,hg']
end
def PS(ky va:List (BitVec 32))(re:Y8)(many:Nat):Array Value:=(ky.map v32++(va.map v32++(re.map v8++ [Value.int .i64 many]))).toArray
structure PSok(ky va:List (BitVec 32))(re:Y8):Prop where
 k:ky.length=5
 v:va.length=5
 r:re.length=16
theorem fx {ky va:List (BitVec 32)} {re:Y8}(h:PSok ky va re)(many:Nat):(PS ky va re many).size=27:=by
 simp[PS,h.k,h.v,h.r]
theorem BK {ky va:List (BitVec 32)} {re:Y8}(h:PSok ky va re)(many:Nat):(PS ky va re many).extract 0 5=A32 ky:=by
 have hk:(ky.map v32).length=5:=by rw[List.length_map,h.k]
 simp only[PS,List.extract_toArray,List.extract_eq_take_drop,List.drop_zero,Nat.sub_zero];rw[List.take_left' hk];rfl
theorem wI {ky va:List (BitVec 32)} {re:Y8}(h:PSok ky va re)(many:Nat):(PS ky va re many).extract 5 10=A32 va:=by
 have hk:(ky.map v32).length=5:=by rw[List.length_map,h.k]
 have hv:(va.map v32).length=5:=by rw[List.length_map,h.v]
 simp only[PS,List.extract_toArray,List.extract_eq_take_drop];rw[List.drop_left' hk,List.take_left' hv];rfl
theorem BL {ky va:List (BitVec 32)} {re:Y8}(h:PSok ky va re)(many:Nat):(PS ky va re many).extract 10 26=A8 re:=by
 have hk:(ky.map v32).length=5:=by rw[List.length_map,h.k]
 have hv:(va.map v32).length=5:=by rw[List.length_map,h.v]
 have hr:(re.map v8).length=16:=by rw[List.length_map,h.r]
 simp only[PS,List.extract_toArray,List.extract_eq_take_drop];rw[←List.append_assoc,List.drop_left' (by rw[List.length_append];omega),List.take_left' hr];rfl
theorem ez {ky va:List (BitVec 32)} {re:Y8}(h:PSok ky va re)(many:Nat):(PS ky va re many)[26]? =some (.int .i64 many):=by
 simp[PS,h.k,h.v,h.r]
theorem xP {ky va:List (BitVec 32)} {re:Y8}(h:PSok ky va re)(many i:Nat)(hi:i<16):(PS ky va re many)[10+i]? =some (v8 (nth re i)):=by
 have hr:=h.r;simp only[PS,List.getElem?_toArray];rw[List.getElem?_append_right (by rw[List.length_map,h.k];omega),List.getElem?_append_right (by rw[List.length_map,List.length_map,h.k,h.v];omega),List.getElem?_append_left (by rw[List.length_map,List.length_map,List.length_map,h.k,h.v,hr];omega),List.length_map,List.length_map,h.k,h.v,show 10+i-5-5=i by omega,List.getElem?_map,dv (by omega)];rfl
theorem uz {ky va:List (BitVec 32)} {re:Y8}(h:PSok ky va re)(many:Nat)(v:List (BitVec 32))(hv:v.length=5):layC (PS ky va re many) 5 (v.map v32)=PS ky v re many:=by
 have hk:(ky.map v32).length=5:=by rw[List.length_map,h.k]
 have hva:(va.map v32).length=5:=by rw[List.length_map,h.v]
 simp only[layC,PS,List.length_map,hv];congr 1;rw[List.take_left' hk,show 5+5=10 from rfl,←List.append_assoc (ky.map v32),List.drop_left' (by rw[List.length_append];omega),List.append_assoc]
theorem sk {ky va:List (BitVec 32)} {re:Y8}(h:PSok ky va re)(many k:Nat)(x:Y8)(hx:k+x.length≤16):layC (PS ky va re many) (10+k) (x.map v8)=PS ky va (splc re k x) many:=by
 have hk:(ky.map v32).length=5:=by rw[List.length_map,h.k]
 have hva:(va.map v32).length=5:=by rw[List.length_map,h.v]
 have hre:(re.map v8).length=16:=by rw[List.length_map,h.r]
 have hkv:(ky.map v32++va.map v32).length=10:=by rw[List.length_append];omega
 have hd:(ky.map v32++va.map v32).drop (10+k+x.length)=[]:=List.drop_eq_nil_of_le (by omega);simp only[layC,PS,List.length_map];congr 1;rw[←List.append_assoc (ky.map v32),List.take_append,List.take_of_length_le (l:=ky.map v32++va.map v32) (by omega),hkv,show 10+k-10=k by omega,List.drop_append,hd,hkv,show 10+k+x.length-10=k+x.length by omega,List.nil_append];rw[List.take_append_of_le_length (by omega),List.drop_append_of_le_length (by omega)];simp only[splc,List.map_append,List.map_take,List.map_drop,List.append_assoc]
theorem lX {ky va:List (BitVec 32)} {re:Y8}(h:PSok ky va re)(many m:Nat):(PS ky va re many).setIfInBounds 26 (.int .i64 m)=PS ky va re m:=by
 have hk:(ky.map v32).length=5:=by rw[List.length_map,h.k]
 have hva:(va.map v32).length=5:=by rw[List.length_map,h.v]
 have hre:(re.map v8).length=16:=by rw[List.length_map,h.r]
 simp only[PS,List.setIfInBounds_toArray];congr 1;rw[List.set_append_right _ _ (by omega),List.set_append_right _ _ (by omega),List.set_append_right _ _ (by omega),hk,hva,hre];rfl
section
variable {P:Program} {ops:Array Oper} {ks:List Nat} {l:List Oper} {a:Act}
theorem lY(w:World)(e t:TypeId)(g:Nat) {ky va:List (BitVec 32)} {re:Y8}(h:PSok ky va re)(many:Nat)(v:List (BitVec 32))(hv:v.length=5)(hb:Blk w g t (PS ky va re many))(h2:(sizeOf e).run P w= .ok 5 w):
  (bL e (.pointer (some ⟨g,5,none⟩)) (.agg (A32 v))).run P w= .ok () (w.setRow g (PS ky v re many)):=by
 have hg:w.heap[g]? =some (.cells (PS ky va re many) t (0,0)):=hb;have hst:=run_storeCells_at (P:=P) g 5 t (A32 v).toList 0 (PS ky va re many) w hg (by rw[Array.length_toList,bI,fx h,hv];omega) (fun x hx=>by
  have:=Array.all_eq_true'.1 (vx v) x (by simpa using hx);exact this)
 have e1:((PS ky va re many).toList.take (5+0)++(A32 v).toList++(PS ky va re many).toList.drop (5+0+(A32 v).toList.length)).toArray=PS ky v re many:=by
  have:=uz h many v hv;rw[layC]at this;rw[qC];exact this
 rw[e1]at hst;have h2':(sizeOf e).run P w= .ok (A32 v).size w:=by rw[bI,hv];exact h2
 simp only[bL,Instr.storeAt,Instr.sureAddr,storeVar,Sem.run_bind,Sem.run_pure,Result.andThen_ok,h2',Value.cells,ne_eq,not_true_eq_false,if_false,hst]
theorem uA {K:Act→World→Prop} {w:World} {e:TypeId} {p x:Operand} {ty:TypeId} {pos:String} {after:Array Edge} {g:Nat} {t:TypeId} {ky va v:List (BitVec 32)} {re:Y8} {many:Nat}(hok:PSok ky va re)(hb:Blk w g t (PS ky va re many))(hp:a.eval p= .pointer (some ⟨g,5,none⟩))(hv:a.eval x= .agg (A32 v))(hl:v.length=5)
  (hsz:(sizeOf e).run P w= .ok 5 w) (h: ∀w1,Blk w1 g t (PS ky v re many)→w.grownBy w1 (some g)→w1.heap.size=w.heap.size→wpZ P ops K ks l a w1):wpZ P ops K (2::ks) (⟨none,.store e p x,ty,pos,after,none⟩::l) a w:=by
 have hr:(execOp a.eval ⟨none,.store e p x,ty,pos,after,none⟩).run P w= .ok .skip (w.setRow g (PS ky v re many)):=by
  rw[bD,hp,hv,lY w e t g hok many v hl hb hsz];simp
 refine yw rfl (fun K' hK' => ?_);unfold Oper.wp;rw[hr];exact hK' _ _ (h _ (hb.put _) (aP w g _) (by simp))
end
theorem pV(g:Nat)(ky va:List (BitVec 32))(re:Y8)(many:Nat)(n:List (BitVec 32))(w:World)(hok:PSok ky va re)(hn:n.length=5)(hk:Blk w g 345 (PS ky va re many)):
  Calls prog 246 #[.pointer (some ⟨g,0,none⟩),.agg (A32 n)] w fun e w' =>e= .returned (.tuple #[])∧Blk w' g 345 (PS ky (db (eY va n) ky) re many)∧w.grownBy w' (some g):=by
 obtain⟨W,hW⟩: ∃W,(w.alloc (.cells (A32 n) 342))=W:=⟨_,rfl⟩;obtain⟨b0,hb,hz⟩:=new1 _ _ _ _ hW;have P0:=hid b0;have K0:=hid (hk.belowAll hb);have B0:=hid hb;have eva:=wI hok many;have eky:=BK hok many;have hsz:=fx hok many;have hpl:(eY va n).length=5:=iZ va n;obtain⟨pl,hplE⟩: ∃z,z=eY va n:=⟨_,rfl⟩;rw[←hplE]at hpl⊢;have htl:(db pl ky).length=5:=bU pl ky;obtain⟨tm,htmE⟩: ∃z,z=db pl ky:=⟨_,rfl⟩;rw[←htmE]at htl⊢;have HPL:=hid hplE;have HTM:=hid htmE;have HGL:=hk.lt;clear b0 hb hz hk hplE htmE;go_enter func246,ntmps246;go_upto_region 1 with fail;clear hW;refine an [0,0,0,0,5,5,2,0,0,0,5,2,0,0,3] (by kernel_rfl) (by kernel_rfl) (fun C hC0 hCb K' hK' => ?_);have R0: ∀w1,C w1→ar w1 w.heap.size=A32 n:=fun w1 hw=>(P0.out.drew.belowAll (hCb w1 hw)).row;have R1: ∀w1,C w1→ar w1 g=PS ky va re many:=fun w1 hw=>(K0.out.drew.belowAll (hCb w1 hw)).row
 repeat (first|((with_reducible refine hq0 ?_);refine hq0a ?_)|((with_reducible refine hq5 ?_);refine hq5a ?_ (fun _ hcw=>by have f:=R0 _ hcw;have f2:=R1 _ hcw;go_simp;(try go_bits);exact rfl))|((with_reducible refine hq1 ?_);refine hq1a ?_))
 refine hqc ?_;go_simp;refine ae ?_;refine(ux va n W.drew hok.v hn).mono ?_;rintro e w1 ⟨rfl,d1⟩;refine⟨_,rfl,d1,?_⟩
 try simp only[Act.put,zz1,zz2,zz3]
 rw[show eY va n=pl from HPL.out.symm]
 repeat (first|((with_reducible refine hq0 ?_);refine hq0a ?_)|((with_reducible refine hq5 ?_);refine hq5a ?_ (fun _ hcw=>by have f:=R0 _ hcw;have f2:=R1 _ hcw;go_simp;(try go_bits);exact rfl))|((with_reducible refine hq1 ?_);refine hq1a ?_))
 refine hqc ?_;go_simp;refine ae ?_;refine(sj pl ky w1 hpl hok.k).mono ?_;rintro e w2 ⟨rfl,d2⟩;refine⟨_,rfl,d2,?_⟩
 try simp only[Act.put,zz1,zz2,zz3]
 rw[show db pl ky=tm from HTM.out.symm];have d12:=d1.trans (d2.mono d1.size)
 repeat (first|((with_reducible refine hq0 ?_);refine hq0a ?_)|((with_reducible refine hq5 ?_);refine hq5a ?_)|((with_reducible refine hq1 ?_);refine hq1a ?_))
 refine bJ [2] rfl (by simp) ?_;refine uA hok (K0.out.drew.belowAll d12) rfl rfl htl (sizeOf342 _) (fun w3 k3 g3 s3=> ?_);refine ak (hK' _ _ ?_);have G3:=hid (av (aW (B0.out.drew.trans (d12.mono B0.out.size)) (some g)) g3);have K3:=hid k3;clear R0 R1 hC0 hCb hK' d1 d2 d12 g3 s3 k3;go_wp2;refine bodyPost_end (results_none rfl _ _ _) rfl ?_;exact⟨rfl,K3.out,G3.out⟩
open Go.RowKit
def clT(o:Nat)(m:BitVec 8)(l:Y8):Nat→Y8
 |0=>l
 |j+1=>(clT o m l j).set (o+4*j) (nth (clT o m l j) (o+4*j)&&&m)
theorem dY(o:Nat)(m:BitVec 8)(l:Y8): ∀j,(clT o m l j).length=l.length
 |0=>rfl
 |j+1=>by rw[clT,List.length_set,dY o m l j]
def dZ(l:Y8):Y8:=clT 4 252#8 (clT 3 15#8 l 4) 3
theorem gS(l:Y8):(dZ l).length=l.length:=by rw[dZ,dY,dY]
theorem uB(l:Y8)(w:World)(hl:l.length=16):
  Calls prog 245 #[.agg (A8 l)] w fun e w' =>e= .returned (.agg (A8 (dZ l)))∧Below w.heap.size w w':=by
 obtain⟨W,hW⟩: ∃W,(w.alloc (.cells (A8 l) 154)).alloc (.cells (A8 (aa 8 16)) 154)=W:=⟨_,rfl⟩;obtain⟨b0,b1,hb,hz⟩:=new2 _ _ _ _ _ _ hW;have P0:=hid b0;have Z0:=hid b1;have B0:=hid hb;clear b0 b1 hb hz;go_enter func245,ntmps245;go_wp2_with fail;go_loopw [3] (fun i wr=> ∃j:Nat,j≤4∧i= .int .i64 ((3+4*j:Nat):Int)∧Blk wr w.heap.size 154 (A8 (clT 3 15#8 l j))∧Blk wr (w.heap.size+1) 154 (A8 (aa 8 16))∧Below w.heap.size w wr) (fun i _=>30-(intOf i).toNat)
 case atStart=>exact⟨0,by omega,rfl,P0.out,Z0.out,B0.out⟩
 case round=>
  obtain⟨j,hj,rfl,hP,hZ,hB⟩:=hrel;have P1:=hid hP;have Z1:=hid hZ;have B1:=hid hB;clear hP hZ hB P0 Z0 B0 hW;obtain⟨p,hp⟩: ∃p,p=3+4*j:=⟨_,rfl⟩;rw[←hp];have hcl:=dY 3 15#8 l j;rw[hl]at hcl;by_cases hj4:j<4
  ·have p1:(p:Int)<16:=by omega
   have p0:(0:Int)≤(p:Int):=by omega
   obtain⟨q,hq⟩: ∃q,q=3+4*(j+1):=⟨_,rfl⟩;have f1:(p:Int)+4=(q:Int):=by omega
   have f2:IntKind.i64.wrap (q:Int)=(q:Int):=by rw[IntKind.wrap_i64];omega
   have c1:=P1.out.cell8 hcl p (by omega);have fo:=P1.out.frozen p;obtain⟨A,hA⟩: ∃A,A=nth (clT 3 15#8 l j) p:=⟨_,rfl⟩;rw[←hA]at c1;obtain⟨M,hM⟩: ∃M,M=A&&&15#8:=⟨_,rfl⟩;have g1: ∀t,binOp .and t (v8 A) (.int .u8 15)=pure (v8 M):=fun t=>by rw[hM];exact vq t A 15#8
   have kk:=P1.out.set_ p (v8 M);rw[fd,show(clT 3 15#8 l j).set p M=clT 3 15#8 l (j+1) by rw[clT,hM,hA,hp]]at kk;have P2:=hid kk;have Z2:=hid (Z1.out.far (p:=⟨w.heap.size,p,none⟩) (by simp) (v8 M));have B2:=hid (B1.out.setCell (p:=⟨w.heap.size,p,none⟩) (by simp) (v8 M));have HQ:=hid hq;have HP:=hid hp;clear hA hM kk P1 Z1 B1 hq hp;go_wp2;exact⟨⟨j+1,by omega,by rw[HQ.out],P2.out,Z2.out,B2.out⟩,by have:=HQ.out;have:=HP.out;simp[intOf];omega⟩
  ·obtain rfl:j=4:=by omega
   have p1: ¬(p:Int)<16:=by omega
   have hdl:(clT 3 15#8 l 4).length=16:=hcl;have hRl:=gS l;obtain⟨D,hD⟩: ∃D,D=clT 3 15#8 l 4:=⟨_,rfl⟩;have hR:dZ l=clT 4 252#8 D 3:=by rw[dZ,hD]
   rw[←hD]at P1 hdl;have HR:=hid hR;clear hp hD hR hcl;go_wp2_with fail;go_loopw [4] (fun i wr=> ∃j:Nat,j≤3∧i= .int .i64 ((4+4*j:Nat):Int)∧Blk wr w.heap.size 154 (A8 (clT 4 252#8 D j))∧Blk wr (w.heap.size+1) 154 (A8 (aa 8 16))∧Below w.heap.size w wr) (fun i _=>30-(intOf i).toNat)
   case atStart=>exact⟨0,by omega,rfl,P1.out,Z1.out,B1.out⟩
   case round=>
    obtain⟨j,hj,rfl,hP,hZ,hB⟩:=hrel;have P2:=hid hP;have Z2:=hid hZ;have B2:=hid hB;clear hP hZ hB P1 Z1 B1;obtain⟨p,hp⟩: ∃p,p=4+4*j:=⟨_,rfl⟩;rw[←hp];have hcl:=dY 4 252#8 D j;rw[hdl]at hcl;by_cases hj3:j<3
    ·have p1:(p:Int)<16:=by omega
     have p0:(0:Int)≤(p:Int):=by omega
     obtain⟨q,hq⟩: ∃q,q=4+4*(j+1):=⟨_,rfl⟩;have f1:(p:Int)+4=(q:Int):=by omega
     have f2:IntKind.i64.wrap (q:Int)=(q:Int):=by rw[IntKind.wrap_i64];omega
     have c1:=P2.out.cell8 hcl p (by omega);have fo:=P2.out.frozen p;obtain⟨A,hA⟩: ∃A,A=nth (clT 4 252#8 D j) p:=⟨_,rfl⟩;rw[←hA]at c1;obtain⟨M,hM⟩: ∃M,M=A&&&252#8:=⟨_,rfl⟩;have g1: ∀t,binOp .and t (v8 A) (.int .u8 252)=pure (v8 M):=fun t=>by rw[hM];exact vq t A 252#8
     have kk:=P2.out.set_ p (v8 M);rw[fd,show(clT 4 252#8 D j).set p M=clT 4 252#8 D (j+1) by rw[clT,hM,hA,hp]]at kk;have P3:=hid kk;have Z3:=hid (Z2.out.far (p:=⟨w.heap.size,p,none⟩) (by simp) (v8 M));have B3:=hid (B2.out.setCell (p:=⟨w.heap.size,p,none⟩) (by simp) (v8 M));have HQ:=hid hq;have HP:=hid hp;clear hA hM kk P2 Z2 B2 hq hp;go_wp2;exact⟨⟨j+1,by omega,by rw[HQ.out],P3.out,Z3.out,B3.out⟩,by have:=HQ.out;have:=HP.out;simp[intOf];omega⟩
    ·obtain rfl:j=3:=by omega
     have p1: ¬(p:Int)<16:=by omega
     have n5:=P2.out;rw[←HR.out]at n5;have r1:=n5.row;have r2:=Z2.out.row;have r3:=Z2.out.whole;clear n5 hp;go_wp2;refine ag (A8 (dZ l)) rfl rfl rfl (isAgg154 _) (sizeOf154 _) (by rw[au,hRl];exact hl) (ah _ r3) ⟨rfl,below_setRow B2.out (by omega) _⟩
open Go.RowKit
theorem sm(a b c d e:BitVec 32)(w:World):(dB 345 (.agg (A32 [a,b,c,d,e]))).run prog w= .ok (.agg (PS [a,b,c,d,e] (aa 32 5) (aa 8 16) 0)) w:=by kernel_rfl
theorem uC(x:List (BitVec 32))(hx:x.length=5)(w:World):(dB 345 (.agg (A32 x))).run prog w= .ok (.agg (PS x (aa 32 5) (aa 8 16) 0)) w:=by
 match x,hx with
 | [a,b,c,d,e],_=>exact sm a b c d e w
def keyP(l:Y8):List (BitVec 32):=ofN (dZ l) 0#32
def ea(ky:List (BitVec 32))(D:Y8):Nat→List (BitVec 32)
 |0=>aa 32 5
 |k+1=>db (eY (ea ky D k) (ofN ((D.drop (16*k)).take 16) 1#32)) ky
theorem oB(ky:List (BitVec 32))(D:Y8): ∀k,(ea ky D k).length=5
 |0=>rfl
 |_+1=>bU _ _
theorem jD(ky:List (BitVec 32))(D b:Y8): ∀k,16*k≤D.length→ea ky (D++b) k=ea ky D k
 |0,_=>rfl
 |k+1,h=>by
  rw[ea,ea,jD ky D b k (by omega),List.drop_append_of_le_length (by omega),List.take_append_of_le_length (by rw[List.length_drop];omega)]
def PolAt(w:World)(g:Nat)(ky:List (BitVec 32))(D:Y8):Prop:=
 ∃re:Y8,PSok ky (ea ky D (D.length/16)) re∧Blk w g 345 (PS ky (ea ky D (D.length/16)) re (D.length %16))∧re.take (D.length %16)=D.drop (16*(D.length/16))
theorem PolAt.below {w w':World} {g:Nat} {ky:List (BitVec 32)} {D:Y8}(h:PolAt w g ky D)(hb:Below w.heap.size w w'):PolAt w' g ky D:=by
 obtain⟨re,h1,h2,h3⟩:=h;exact⟨re,h1,h2.belowAll hb,h3⟩
theorem PolAt.lt {w:World} {g:Nat} {ky:List (BitVec 32)} {D:Y8}(h:PolAt w g ky D):g<w.heap.size:=by
 obtain⟨re,h1,h2,h3⟩:=h;exact h2.lt
theorem kh(l:Y8)(w:World)(hl:l.length=16):
  Calls prog 237 #[.agg (A8 l)] w fun e w' => ∃g,e= .returned (.pointer (some ⟨g,0,none⟩))∧PolAt w' g (keyP l) []∧w.heap.size≤g∧Below w.heap.size w w':=by
 obtain⟨W,hW⟩: ∃W,(w.alloc (.cells (A8 l) 154))=W:=⟨_,rfl⟩;obtain⟨b0,hb,hz⟩:=new1 _ _ _ _ hW;have r0:=b0.row;have B0:=hid hb;have hcl:(dZ l).length=16:=by rw[gS,hl]
 have hkl:(keyP l).length=5:=fw _ _;have ho:=fun w1=>oA (dZ l) 0#32 w1 hcl;simp only[show v32 0#32=Value.int .u32 0 from rfl]at ho;obtain⟨C,hC⟩: ∃C,C=dZ l:=⟨_,rfl⟩;obtain⟨K,hK⟩: ∃K,K=keyP l:=⟨_,rfl⟩;have hKo:ofN C 0#32=K:=by rw[hK,hC];rfl
 rw[←hC]at ho hcl;simp only[hKo]at ho;rw[←hK]at hkl⊢;have HO:=hid ho;have HC:=hid hC;have bs:=uC K hkl;clear b0 hb hz hC hK hKo ho;go_enter func237,ntmps237;go_wp2_with fail;refine(uB l W hl).mono ?_;rintro e w1 ⟨rfl,d1⟩;rw[show dZ l=C from HC.out.symm];have B1:=hid (B0.out.trans (d1.mono B0.out.size));clear d1 r0 hW;go_wp2_with fail;refine(HO.out w1).mono ?_;rintro e w2 ⟨rfl,d2⟩;have B2:=B1.out.trans (d2.mono B1.out.size);have N2:=hid (Blk.new w2 345 (PS K (aa 32 5) (aa 8 16) 0));have B3:=hid (B2.alloc B2.size (.cells (PS K (aa 32 5) (aa 8 16) 0) 345));have hg:=B2.size;clear d2 B2;go_wp2;go_ret;exact⟨_,rfl,⟨aa 8 16,⟨hkl,rfl,rfl⟩,N2.out,rfl⟩,hg,B3.out⟩
open Go.RowKit
section
variable {P:Program} {ops:Array Oper} {K:Act→World→Prop} {ks:List Nat} {l:List Oper} {a:Act} {w:World}
theorem wJ {d:Option Tmp} {x y:Operand} {dT sT elem ty:TypeId} {pos:String} {after:Array Edge} {g k dLen dCap sLen sCap N:Nat} {sp:Option Addr} {t:TypeId} {ky va:List (BitVec 32)} {re s:Y8} {many:Nat}(hok:PSok ky va re)(hb:Blk w g t (PS ky va re many))(hl:Rd8 w sp sLen sCap s)
  (hx:a.eval x= .slice (some ⟨g,10+k,none⟩) dLen dCap) (hy:a.eval y= .slice sp sLen sCap) (hu:P.underlying dT=some (.slice elem)) (hs:(P.info? elem).map (·.size)=some 1) (hN:min sLen dLen=N) (hfit:k+N≤16)
  (h: ∀w1,Blk w1 g t (PS ky va (splc re k (s.take N)) many)→w.grownBy w1 (some g)→w1.heap.size=w.heap.size→wpZ P ops K ks l (a.put d (.int .i64 N)) w1):
  wpZ P ops K (2::ks) (⟨d,.call {callee:= .builtin .copy,args:= #[x,y],argTypes:= #[dT,sT]},ty,pos,after,none⟩::l) a w:=by
 unfold wpZ opT;simp only[Region.wanted,if_true];have hc:=uy (P:=P) w dT sT ty elem g (10+k) dLen dCap sp sLen sCap _ s hu hs hb.whole hb.row hl (by rw[fx hok];omega);have hln:(s.take N).length=N:=by rw[List.length_take,hl.1];omega
 have hgi:goInt (min (sLen:Int) (dLen:Int))= .int .i64 N:=by
  rw[show min (sLen:Int) (dLen:Int)=(N:Int) by omega];rfl
 rw[hN,sk hok many k (s.take N) (by rw[hln];exact hfit),hgi]at hc;have hr:(execOp a.eval ⟨d,.call {callee:= .builtin .copy,args:= #[x,y],argTypes:= #[dT,sT]},ty,pos,after,none⟩).run P w= .ok (.value (.int .i64 N)) (w.setRow g (PS ky va (splc re k (s.take N)) many)):=by
  rw[BigFrame.execOp_builtin];simp only[builtin,List.map_toArray,List.map_cons,List.map_nil,hx,hy,Sem.run_bind,hc,Result.andThen_ok,Sem.run_pure]
 unfold Oper.wp;rw[hr];exact h _ (hb.put _) (aP w g _) (by simp)
end
theorem wK(_ky:List (BitVec 32))(D r re:Y8)(n:Nat)(hre:re.length=16)(ht:re.take (D.length %16)=D.drop (16*(D.length/16)))(hn:n≤r.length)(_hfit:D.length %16+n≤16):
  (splc re (D.length %16) (r.take n)).take (D.length %16+n)=(D++r.take n).drop (16*(D.length/16)):=by
 have hm:(re.take (D.length %16)).length=D.length %16:=by rw[List.length_take];omega
 have hrn:(r.take n).length=n:=by rw[List.length_take];omega
 rw[splc,List.take_append_of_le_length (by rw[List.length_append];omega),List.take_of_length_le (by rw[List.length_append];omega),ht,List.drop_append_of_le_length (by omega)]
theorem mA(re x:Y8)(k:Nat)(hre:re.length=16)(h:k+x.length≤16):(splc re k x).length=16:=by
 simp[splc,hre];omega
theorem Rd8.away0 {w w':World} {g n c:Nat} {a:Option Addr} {l:Y8}(h:Rd8 w a n c l)(hg:w.grownBy w' (some g))(ha:0<n→ ∀ad,a=some ad→ad.block≠g):Rd8 w' a n c l:=by
 by_cases h0:0<n
 ·exact h.away hg (ha h0)
 ·exact⟨h.1,h.2.1,h.2.2.1,fun h1=>absurd h1 h0⟩
def PWJ(w:World)(g:Nat)(ky:List (BitVec 32))(D b:Y8)(a':Act)(w':World):Prop:=
 ∃(j n:Nat) (a:Option Addr) (c:Nat),(∃u:Nat→Value,a' ={tmps:=(fun u:Nat→Value=> #[Value.pointer (some ⟨g,0,none⟩),Value.slice a n c,u 2,u 3,u 4,u 5,u 6,u 7,u 8,u 9,u 10,u 11,u 12,u 13,u 14,u 15,u 16,u 17,u 18,u 19,u 20,u 21,u 22,u 23,u 24,u 25,u 26,u 27,u 28,u 29,u 30,u 31,u 32,u 33,u 34,u 35,u 36,u 37,u 38,u 39,u 40,u 41,u 42]) u,defers:=[]})∧
  n=b.length-j∧j≤b.length∧Rd8 w' a n c (b.drop j)∧(0<n→ ∀ad,a=some ad→ad.block≠g)∧PolAt w' g ky (D++b.take j)∧w.grownBy w' (some g)
def gC:Value→Nat
 | .slice _ n _=>n
 |_=>0
theorem ik(g:Nat)(ky:List (BitVec 32))(D b:Y8)(a:Option Addr)(n c:Nat)(w:World)(hP:PolAt w g ky D)(hr:Rd8 w a n c b)(ha:0<n→ ∀ad,a=some ad→ad.block≠g):
  Calls prog 238 #[.pointer (some ⟨g,0,none⟩),.slice a n c] w fun e w' =>e= .returned (.tuple #[])∧PolAt w' g ky (D++b)∧w.grownBy w' (some g):=by
 go_enter func238,ntmps238;go_wp2_with fail;refine aQ 0 (PWJ w g ky D b) (fun a' _=>gC (a'.tmps.getD 1 undef)) rfl (fun hrest=> ?_) ?_
 ·go_wp2_with fail;go_step3;refine ‹∀(a:Act) (w_1:World),Code.wp _ _ _ a w_1→_› _ _ (hrest _ _ ?_);exact⟨0,n,a,c,aI _ rfl,by rw[hr.1];rfl,by omega,hr,ha,by rw[List.take_zero,List.append_nil];exact hP,⟨rfl,rfl,rfl,Nat.le_refl _,fun _ _ _=>rfl⟩⟩
 ·rintro a' w' ⟨j,L,A,C,⟨u,rfl⟩,hL,hj,hr',hA,hP',hg⟩;clear hP hr ha;obtain⟨D',hD'⟩: ∃D',D' =D++b.take j:=⟨_,rfl⟩;rw[←hD']at hP';obtain⟨re,hok,hk,ht⟩:=hP';obtain⟨m,hm⟩: ∃m,m=D'.length %16:=⟨_,rfl⟩;obtain⟨va,hva⟩: ∃va,va=ea ky D' (D'.length/16):=⟨_,rfl⟩;rw[←hm,←hva]at hk;rw[←hva]at hok;have hm16:m<16:=by omega
  obtain⟨N,hN⟩: ∃N,N=min L (16-m):=⟨_,rfl⟩;have HOK:=hid hok;have K:=hid hk;have HT:=hid ht;have HM:=hid hm;have HV:=hid hva;have HD:=hid hD';have HL:=hid hL;have HN:=hid hN;have R:=hid hr';have HA:=hid hA;have G:=hid hg;have hsz:=fx hok m;have c26:w'.drew.cell? ⟨g,26,none⟩=some (.int .i64 m):=by rw[hk.drew.cell,ez hok]
  clear hok hk ht hm hva hD' hL hN hr' hA hg;have i1:(m:Int)≤16:=by omega
  have i0:(0:Int)≤(m:Int):=by omega
  have i2: ¬16=m:=by omega
  go_upto_region 1 with fail;refine an [0,0,0,0,0,0,5,0,0,3,0] (by kernel_rfl) (by kernel_rfl) (fun C0 hC0 hCb K' hK' => ?_);have R5: ∀w1,C0 w1→w1.cell? ⟨g,26,none⟩=some (.int .i64 m):=fun w1 hw=>by rw[(K.out.drew.belowAll (hCb w1 hw)).cell,ez HOK.out]
  repeat (first|((with_reducible refine hq0 ?_);refine hq0a ?_)|((with_reducible refine hq5 ?_);refine hq5a ?_ (fun _ hcw=>by have f:=R5 _ hcw;go_simp;(try go_bits);exact rfl))|((with_reducible refine hq1 ?_);refine hq1a ?_))
  refine bJ [2,0] rfl (by simp) ?_;have hmN:m+N≤16:=by have:=HN.out;omega
  refine wJ HOK.out K.out.drew R.out.drew rfl rfl underlying22 eo HN.out.symm hmN (fun w1 k1 g1 s1=> ?_);simp only[Act.put,zz1,zz2,zz3]
  repeat (first|((with_reducible refine zq0 ?_);refine zq0a ?_)|((with_reducible refine zq1 ?_);refine zq1a ?_))
  refine ak (hK' _ _ ?_);have hdl:(b.drop j).length=L:=R.out.1;have hNL:N≤L:=by have:=HN.out;omega
  have htk:((b.drop j).take N).length=N:=by rw[List.length_take,hdl];omega
  have hput:=wK ky D' (b.drop j) re N HOK.out.r HT.out (by omega) (by rw[←HM.out];exact hmN);rw[←HM.out]at hput;have hok2:PSok ky va (splc re m ((b.drop j).take N)):=⟨HOK.out.k,HOK.out.v,mA _ _ _ HOK.out.r (by rw[htk];exact hmN)⟩;obtain⟨re2,hre2⟩: ∃z,z=splc re m ((b.drop j).take N):=⟨_,rfl⟩;rw[←hre2]at k1 hput hok2;obtain⟨S,hS⟩: ∃S,S=m+N:=⟨_,rfl⟩;rw[←hS]at hput;have f1:(m:Int)+(N:Int)=(S:Int):=by omega
  have f2:IntKind.i64.wrap (S:Int)=(S:Int):=by rw[IntKind.wrap_i64];omega
  have c1:w1.cell? ⟨g,26,none⟩=some (.int .i64 m):=by rw[k1.cell,ez hok2]
  have fo:=k1.frozen 26;have kk:=k1.set_ 26 (.int .i64 S);rw[lX hok2]at kk;have c2:(w1.setCell ⟨g,26,none⟩ (.int .i64 S)).cell? ⟨g,26,none⟩=some (.int .i64 S):=by rw[kk.cell,ez hok2]
  obtain⟨V,hV⟩: ∃V,V=w1.setCell ⟨g,26,none⟩ (.int .i64 S):=⟨_,rfl⟩;have gV:w1.grownBy V (some g):=by rw[hV];exact aC w1 g 26 _
  rw[←hV]at c2 kk;have K2:=hid kk;have gd:w'.grownBy w1 (some g):=av (aW ((Below.refl w'.heap.size w').drew) (some g)) g1;have G2:=hid (av G.out (av gd gV));have r2:Rd8 V A L C (b.drop j):=(R.out.away0 gd HA.out).away0 gV HA.out;have r2c:=r2.cut (j:=N) (k:=L) hNL (Nat.le_refl _);rw[List.take_of_length_le (by omega),List.drop_drop]at r2c;have RC:=hid r2c;have hA2:0<L-N→ ∀ad,(if C=N then A else A.map (·.add N))=some ad→ad.block≠g:=by
   intro h0 ad h;have hL0:0<L:=by omega
   split at h
   ·exact HA.out hL0 ad h
   ·cases A with
    |none=>cases h
    |some x=>
     have e:(x.add N).block=x.block:=by unfold Addr.add;first|rfl|(split<;>rfl)
     cases h;show(x.add N).block≠g;rw[e];exact HA.out hL0 x rfl
  have HA2:=hid hA2;have HPUT:=hid hput;have OK2:=hid hok2;have HS:=hid hS;have HVV:=hid hV;have hLC:=r2.2.1;have n1:(N:Int)≤(L:Int):=by omega
  have n2:(L:Int)≤(C:Int):=by omega
  have n0:(0:Int)≤(N:Int):=by omega
  clear R5 hC0 hCb hK' c26 hput hok2 hS kk gV gd r2 r2c hA2 k1 g1 s1 hV hre2 i1 i0 i2 K R G;go_upto_region 3 with fail;rw[←HVV.out];clear HVV fo f1 f2;by_cases hS16:S<16
  ·have s1:(S:Int)<16:=by omega
   have hNL2:N=L:=by have:=HN.out;have:=HS.out;omega
   have hall:D'++(b.drop j).take N=D++b:=by
    rw[List.take_of_length_le (by omega),HD.out,List.append_assoc,List.take_append_drop]
   have hlen:(D++b).length=D'.length+L:=by rw[←hall,List.length_append,htk,hNL2]
   have hq:(D++b).length/16=D'.length/16:=by have:=HM.out;have:=HS.out;omega
   have hr16:(D++b).length %16=S:=by have:=HM.out;have:=HS.out;omega
   have hpv:ea ky (D++b) (D'.length/16)=va:=by
    rw[←hall,jD ky D' _ _ (by omega),HV.out]
   have hfin:PolAt V g ky (D++b):=by
    refine⟨re2,?_,?_,?_⟩
    ·rw[hq,hpv];exact OK2.out
    ·rw[hq,hpv,hr16];exact K2.out
    ·rw[hq,hr16,HPUT.out,hall]
   have FIN:=hid hfin;clear hall hlen hq hr16 hpv hfin RC HA2 HPUT hdl htk;go_wp2
   all_goals
    (try simp only[Exit.jump])
    (try simp only[Exit.inBlock,Exit.then])
    refine bodyPost_ret (results_none rfl _ _ _) rfl ?_;exact⟨rfl,FIN.out,G2.out⟩
  ·have s1: ¬(S:Int)<16:=by omega
   have hS2:S=16:=by have:=HS.out;omega
   subst hS2;have rV:=K2.out.row;have hsz2:=fx OK2.out 16;have ere:=BL OK2.out 16;have hre2l:=OK2.out.r;have ho:=fun w1=>oA re2 1#32 w1 hre2l;simp only[show v32 1#32=Value.int .u32 1 from rfl]at ho;have hnl:(ofN re2 1#32).length=5:=fw _ _;obtain⟨nn,hnn⟩: ∃z,z=ofN re2 1#32:=⟨_,rfl⟩;simp only[←hnn]at ho;rw[←hnn]at hnl;have HO:=hid ho;have HNN:=hid hnn;clear ho hnn;go_wp2_with fail
   all_goals
    refine(HO.out V).mono ?_;rintro e w3 ⟨rfl,d3⟩;have K3:=hid (K2.out.belowAll d3);have G3:=hid (av G2.out (aW d3 (some g)));have R3:=hid (RC.out.below d3);clear d3;have R4:=hid (R3.out);go_wp2_with fail;refine(pV g ky va re2 16 nn w3 OK2.out hnl K3.out).mono ?_;rintro e w4 ⟨rfl,k4,g4⟩;have hvl:(db (eY va nn) ky).length=5:=bU _ _;obtain⟨vn,hvn⟩: ∃z,z=db (eY va nn) ky:=⟨_,rfl⟩;rw[←hvn]at k4 hvl;have HVN:=hid hvn;have hok4:PSok ky vn re2:=⟨OK2.out.k,hvl,hre2l⟩;have c4:w4.cell? ⟨g,26,none⟩=some (.int .i64 (16:Nat)):=by rw[k4.cell,ez hok4]
    have fo4:=k4.frozen 26;have kk:=k4.set_ 26 (.int .i64 (0:Nat));rw[lX hok4]at kk;have K5:=hid kk;have g5:=aC w4 g 26 (.int .i64 (0:Nat));have G5:=hid (av (av G3.out g4) g5);have R5:=hid ((R3.out.away0 g4 HA2.out).away0 g5 HA2.out);have OK4:=hid hok4;clear k4 hvn kk g5 g4 hok4 K3 G3 R3 R4;go_wp2;go_step3;have hcat:D++b.take (j+N)=D'++(b.drop j).take N:=by rw[HD.out,List.append_assoc,List.take_add]
    have hmS:m+N=16:=by have:=HS.out;omega
    have hlen:(D++b.take (j+N)).length=D'.length+N:=by rw[hcat,List.length_append,htk]
    have hq:(D++b.take (j+N)).length/16=D'.length/16+1:=by have:=HM.out;omega
    have hr16:(D++b.take (j+N)).length %16=0:=by have:=HM.out;omega
    have hr2:re2.take 16=re2:=List.take_of_length_le (by omega);have hdr:(D'++(b.drop j).take N).drop (16*(D'.length/16))=re2:=by rw[←HPUT.out,hr2]
    have hpv:ea ky (D++b.take (j+N)) (D'.length/16+1)=vn:=by
     rw[ea,hcat,jD ky D' _ _ (by omega),←HV.out,hdr,hr2,←HNN.out,←HVN.out]
    have rc:=R5.out;have ab:=HA2.out
    first
     |(rw[if_neg (by assumption)]at rc ab)
     |(rw[if_pos (by omega)]at rc ab;rw[show C-N=0 by omega]at rc)
    refine⟨rfl,⟨j+N,L-N,_,_,aI _ rfl,?_,?_,rc,ab,⟨re2,?_,?_,?_⟩,G5.out⟩,?_⟩
    ·have:=HL.out;omega
    ·have:=HL.out;omega
    ·rw[hq,hpv];exact OK4.out
    ·rw[hq,hpv,hr16];exact K5.out
    ·rw[hq,hr16,List.take_zero];exact(List.drop_eq_nil_of_le (by omega)).symm
    ·simp[gC];omega
open Go.RowKit
def lZ(x:Y8):Y8:=(x++aa 8 (16-x.length)).set x.length 1#8
theorem oC(x:Y8)(h:x.length≤16):(lZ x).length=16:=by
 rw[lZ,List.length_set,List.length_append,af];omega
def ja(ky:List (BitVec 32))(D:Y8):List (BitVec 32):=
 if D.length %16=0 then ea ky D (D.length/16)else db (eY (ea ky D (D.length/16)) (ofN (lZ (D.drop (16*(D.length/16)))) 0#32)) ky
theorem jb(ky:List (BitVec 32))(D:Y8):(ja ky D).length=5:=by
 unfold ja;split
 ·exact oB _ _ _
 ·exact bU _ _
theorem xQ(ky va:List (BitVec 32))(re:Y8)(many:Nat):ones (PS ky va re many)=true:=by
 have h32: ∀l:List (BitVec 32),((l.map v32).all Value.oneCell')=true:=fun l=>List.all_eq_true.2 fun v hv=>by obtain⟨x,_,rfl⟩:=List.mem_map.1 hv;rfl
 have h8: ∀l:Y8,((l.map v8).all Value.oneCell')=true:=fun l=>List.all_eq_true.2 fun v hv=>by obtain⟨x,_,rfl⟩:=List.mem_map.1 hv;rfl
 unfold ones PS;rw[List.all_toArray,List.all_append,List.all_append,List.all_append];rw[h32,h32,h8];rfl
@[go_sem] theorem zM:prog.cellsOf 345=27:=by kernel_rfl
theorem BN {w:World} {g:Nat} {t:TypeId} {ky va:List (BitVec 32)} {re:Y8} {many:Nat}(hok:PSok ky va re)(hb:Blk w g t (PS ky va re many))(m:Nat)(hm:m≤16):Rd8 w (some ⟨g,10,none⟩) m 16 (re.take m):=
 ⟨by rw[List.length_take,hok.r];omega,hm,by unfold maxLen;omega,fun _=>⟨g,10,rfl,hb.lt,fun i hi=>by rw[hb.cell,xP hok many i (by omega),aJ _ _ _ hi]⟩⟩
theorem sn(g:Nat)(ky:List (BitVec 32))(D:Y8)(w:World)(hP:PolAt w g ky D):
  Calls prog 252 #[.pointer (some ⟨g,0,none⟩)] w fun e w' =>e= .returned (.agg (A32 (ja ky D)))∧Below w.heap.size w w':=by
 obtain⟨W,hW⟩: ∃W,(w.alloc (.cells (A32 (aa 32 5)) 342))=W:=⟨_,rfl⟩;obtain⟨b0,hb,hz⟩:=new1 _ _ _ _ hW;obtain⟨re,hok,hk,ht⟩:=hP.below hb;have Z0:=hid b0;have B0:=hid hb;have hRl:=jb ky D;obtain⟨R,hR⟩: ∃R,R=ja ky D:=⟨_,rfl⟩;rw[←hR]at hRl⊢;obtain⟨m,hm⟩: ∃m,m=D.length %16:=⟨_,rfl⟩;obtain⟨va,hva⟩: ∃va,va=ea ky D (D.length/16):=⟨_,rfl⟩;rw[←hm]at ht;rw[←hm,←hva]at hk;rw[←hva]at hok;have hm16:m<16:=by omega
 have HR:=hid hR;have HT:=hid ht;have HM:=hid hm;have HV:=hid hva;have HOK:=hid hok;have K0:=hid hk;have c26:W.cell? ⟨g,26,none⟩=some (.int .i64 m):=by rw[hk.cell,ez hok]
 have eva:=wI hok m;have hsz:=fx hok m;have hgl:=hP.lt;clear hP b0 hb hz hR ht hm hva hok hk;by_cases h0:m=0
 ·have hfin:R=va:=by rw[HR.out,ja,if_pos (by rw[←HM.out,h0]),HV.out]
  have hvl:va.length=5:=HOK.out.v;subst h0;rw[hfin];have rg:=K0.out.row;have rz:=Z0.out.row;have wz:=Z0.out.whole;clear hfin;go_enter func252,ntmps252;go_wp2;refine ag (A32 va) rfl rfl rfl (isAgg342 _) (sizeOf342 _) (by rw[bI];exact hvl) (ah _ wz) ⟨rfl,below_setRow B0.out (by omega) _⟩
 ·have m0:((m:Int)==0)=false:=by simp;omega
  have m1: ¬(m:Int)=0:=by omega
  go_enter func252,ntmps252;have L1:=hid (Blk.new W 154 (A8 (aa 8 16)));have K1:=hid (K0.out.alloc (.cells (A8 (aa 8 16)) 154));have Z1:=hid (Z0.out.alloc (.cells (A8 (aa 8 16)) 154));have B1:=hid (B0.out.alloc B0.out.size (.cells (A8 (aa 8 16)) 154));have hl0:g<W.heap.size:=K0.out.lt;have hl1:w.heap.size<W.heap.size:=Z0.out.lt;go_upto_region 6 with fail;generalize W.alloc (.cells (A8 (aa 8 16)) 154)=V at*;generalize W.heap.size=q at*;refine an [0,0,0,0,0,0,0,5,0,3] (by kernel_rfl) (by kernel_rfl) (fun C0 hC0 hCb K' hK' => ?_);have R5: ∀w1,C0 w1→w1.cell? ⟨g,26,none⟩=some (.int .i64 m):=fun w1 hw=>by rw[(K1.out.drew.belowAll (hCb w1 hw)).cell,ez HOK.out]
  have i1:(m:Int)≤16:=by omega
  have i0:(0:Int)≤(m:Int):=by omega
  repeat (first|((with_reducible refine hq0 ?_);refine hq0a ?_)|((with_reducible refine hq5 ?_);refine hq5a ?_ (fun _ hcw=>by have f:=R5 _ hcw;go_simp;(try go_bits);exact rfl))|((with_reducible refine hq1 ?_);refine hq1a ?_))
  refine bJ [2] rfl (by simp) ?_;refine cH (dLen:=16) (dCap:=16) (off:=0) L1.out.drew (BN HOK.out K1.out.drew m (by omega)) rfl rfl underlying22 eo (by rw[af];omega) (fun w1 vv k1 g1 s1=> ?_);refine ak (hK' _ _ ?_);have htl:(re.take m).length=m:=by rw[List.length_take,HOK.out.r];omega
  rw[List.take_of_length_le (by rw[htl];omega),mN _ _ (by omega),htl]at k1;have hxl:(re.take m++aa 8 (16-m)).length=16:=by rw[List.length_append,htl,af];omega
  have c1:w1.cell? ⟨q,m,none⟩=some (v8 (nth (re.take m++aa 8 (16-m)) m)):=k1.cell8 hxl m hm16;have fo:=k1.frozen m;have hlast:(re.take m++aa 8 (16-m)).set m 1#8=lZ (re.take m):=by rw[lZ,htl]
  have hll:=oC (re.take m) (by omega);have kk:Blk (w1.setCell ⟨q,m,none⟩ (.int .u8 1)) q 154 (A8 (lZ (re.take m))):=by
   have:=k1.set_ m (v8 1#8);rw[fd,hlast]at this;exact this
  have gq:g≠q:=by omega
  have wq:w.heap.size≠q:=by omega
  have hq0:w.heap.size≤q:=by omega
  have K2:=(K1.out.drew.grown g1 (by simpa using gq));have c26b:w1.cell? ⟨g,26,none⟩=some (.int .i64 m):=by rw[K2.cell,ez HOK.out]
  have K3:=K2.far (p:=⟨q,m,none⟩) (by simpa using gq) (.int .u8 1);have Z3:=(Z1.out.drew.grown g1 (by simpa using wq)).far (p:=⟨q,m,none⟩) (by simpa using wq) (.int .u8 1);have B2:=(B1.out.drew.trans (ac g1 hq0 B1.out.drew.size));have B3:=B2.setCell (p:=⟨q,m,none⟩) hq0 (.int .u8 1);obtain⟨V3,hV3⟩: ∃V3,V3=w1.setCell ⟨q,m,none⟩ (.int .u8 1):=⟨_,rfl⟩;rw[←hV3]at kk K3 Z3 B3;obtain⟨lst,hlst⟩: ∃z,z=lZ (re.take m):=⟨_,rfl⟩;rw[←hlst]at kk hll;have HLST:=hid hlst;have L3:=hid kk;have K3:=hid K3;have Z3:=hid Z3;have B3:=hid B3;have HV3:=hid hV3;clear R5 hC0 hCb hK' c26 k1 g1 s1 hlast kk K2 B2 hV3 hlst L1 K1 Z1 B1 hxl;go_upto_region 8 with fail;rw[←HV3.out];have rg:=K3.out.row;have hone:=xQ ky va re m;have ex:(PS ky va re m).extract 0 27=PS ky va re m:=by rw[←hsz];simp
  have T4:=hid (Blk.new V3 345 (PS ky va re m));have L4:=hid (L3.out.alloc (.cells (PS ky va re m) 345));have Z4:=hid (Z3.out.alloc (.cells (PS ky va re m) 345));have B4:=hid (B3.out.alloc B3.out.size (.cells (PS ky va re m) 345));have n1:w.heap.size≠V3.heap.size:=by have:=Z3.out.lt;omega
  have n2:w.heap.size≤V3.heap.size:=B3.out.size;clear HV3 c1 fo c26b;go_upto_region 9 with fail;generalize V3.alloc (.cells (PS ky va re m) 345)=V4 at*;generalize V3.heap.size=t4 at*;have rl:=L4.out.row;have ho:=fun w1=>oA lst 0#32 w1 hll;simp only[show v32 0#32=Value.int .u32 0 from rfl]at ho;have hnl:(ofN lst 0#32).length=5:=fw _ _;obtain⟨nn,hnn⟩: ∃z,z=ofN lst 0#32:=⟨_,rfl⟩;simp only[←hnn]at ho;rw[←hnn]at hnl;have HO:=hid ho;have HNN:=hid hnn;clear ho hnn hone ex rg;go_wp2_with fail;refine(HO.out V4).mono ?_;rintro e w5 ⟨rfl,d5⟩;have T5:=hid (T4.out.belowAll d5);have Z5:=hid (Z4.out.belowAll d5);have B5:=hid (B4.out.trans (d5.mono B4.out.size));clear d5 rl;go_wp2_with fail;refine(pV t4 ky va re m nn w5 HOK.out hnl T5.out).mono ?_;rintro e w6 ⟨rfl,k6,g6⟩;have hvl:(db (eY va nn) ky).length=5:=bU _ _;obtain⟨vn,hvn⟩: ∃z,z=db (eY va nn) ky:=⟨_,rfl⟩;rw[←hvn]at k6 hvl;have hok6:PSok ky vn re:=⟨HOK.out.k,hvl,HOK.out.r⟩;have evn:=wI hok6 m;have hsz6:=fx hok6 m;have r6:=k6.row;have z6:=Z5.out.grown g6 (by simpa using n1);have rz:=z6.row;have wz:=z6.whole;have B6:=B5.out.grown g6 B5.out.size (fun k hk=>by cases hk;exact n2);have hfin:R=vn:=by
   rw[HR.out,ja,if_neg (by rw[←HM.out];exact h0),←HV.out,←HT.out,←HLST.out,←HNN.out,hvn]
  clear k6 g6 z6 hvn;subst hfin;go_wp2;refine ag (A32 R) rfl rfl rfl (isAgg342 _) (sizeOf342 _) (by rw[bI];exact hvl) (ah _ wz) ⟨rfl,below_setRow B6 (by omega) _⟩
def gT(ky:List (BitVec 32))(D:Y8):Y8:=lowN (ja ky D)
@[simp] theorem jc(ky:List (BitVec 32))(D:Y8):(gT ky D).length=16:=rfl
theorem wL(g:Nat)(ky:List (BitVec 32))(D:Y8)(w:World)(hP:PolAt w g ky D):
  Calls prog 247 #[.pointer (some ⟨g,0,none⟩)] w fun e w' =>e= .returned (.agg (A8 (gT ky D)))∧Below w.heap.size w w':=by
 obtain⟨W,hW⟩: ∃W,(w.alloc (.cells (A8 (aa 8 16)) 154))=W:=⟨_,rfl⟩;obtain⟨b0,hb,hz⟩:=new1 _ _ _ _ hW;have HP:=hP.below hb;have Z0:=hid b0;have B0:=hid hb;have hl0:=b0.lt;have hx2:=jc ky D;obtain⟨t,ht⟩: ∃t,t=gT ky D:=⟨_,rfl⟩;rw[←ht]at hx2⊢;have HT:=hid ht;clear b0 hb hP ht;go_enter func247,ntmps247;go_wp2_with fail;refine(sn g ky D W HP).mono ?_;rintro e w1 ⟨rfl,d1⟩;go_wp2_with fail;refine(xO (ja ky D) w1 (jb _ _)).mono ?_;rintro e w2 ⟨rfl,d2⟩;have z2:=(Z0.out.belowAll d1).belowAll d2;have wz:=z2.whole;have rz:=z2.row;have b2:=(B0.out.trans (d1.mono (by omega))).trans (d2.mono (Nat.le_trans (Nat.le_of_lt (by omega)) d1.size));have hx:lowN (ja ky D)=t:=HT.out.symm;rw[hx];clear hx;go_wp2;refine ag (A8 t) rfl rfl rfl (isAgg154 _) (sizeOf154 _) (by rw[au];exact hx2) (ah _ wz) ⟨rfl,below_setRow b2 (by omega) _⟩
end Go.Proofs.YtlpkfdkhlffmlaaGreatDoor
