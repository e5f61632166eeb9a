/-blake:a Hash's 12 cells;a part of a row of cells is written-/
import Derived.Test.YtddkbkbpogcffaaGreatDoorMKl
import Derived.Test.YtddkbkbpogcffaaGreatDoorMHs
import Derived.Test.YtddkbkbpogcffaaGreatDoorMGe
import Derived.Test.YtddkbkbpogcffaaGreatDoorMHd
import Derived.Test.YtddkbkbpogcffaaGreatDoorMGb
import Derived.Test.YtddkbkbpogcffaaGreatDoorMHn
import Derived.Test.YtddkbkbpogcffaaGreatDoorMKa
namespace Go.Proofs.YtddkbkbpogcffaaGreatDoor
open Go.Proofs.Tryz
open Lib (hid)
set_option linter.unusedSimpArgs false
set_option linter.unusedVariables false
set_option maxRecDepth 100000
set_option maxHeartbeats 1600000
open Go.RowKit
def HSc(h:List (BitVec 64))(c:W2)(rest:Value)(size:Nat):Array Value:=(h.map v64++ [v64 c.1,v64 c.2,rest,.int .i64 size]).toArray
section
variable {h:List (BitVec 64)} (hl:h.length=8) (c:W2) (rest:Value) (size:Nat)
include hl
theorem nA:(HSc h c rest size).size=12:=by simp[HSc,hl]
theorem Jl:(HSc h c rest size).extract 0 8=A64 h:=by
 simp only[HSc,List.extract_toArray,List.extract_eq_take_drop,List.drop_zero];rw[List.take_left' (by rw[List.length_map,hl])];rfl
theorem Jm:(HSc h c rest size).extract 8 10=A64 (wl c):=by
 simp only[HSc,List.extract_toArray,List.extract_eq_take_drop];rw[List.drop_left' (by rw[List.length_map,hl])];rfl
theorem wB:(HSc h c rest size)[10]? =some rest:=by
 simp[HSc,hl]
theorem KB:(HSc h c rest size)[11]? =some (.int .i64 size):=by
 simp[HSc,hl]
theorem MR(i:Nat)(hi:i<8):(HSc h c rest size)[i]? =some (v64 (nth h i)):=by
 simp only[HSc,List.getElem?_toArray];rw[List.getElem?_append_left (by rw[List.length_map,hl];exact hi),List.getElem?_map,eH (by omega)];rfl
theorem Dx(u:Value):(HSc h c rest size).setIfInBounds 10 u=HSc h c u size:=by
 simp only[HSc,List.setIfInBounds_toArray];rw[List.set_append_right _ _ (by rw[List.length_map,hl];omega),List.length_map,hl];rfl
theorem FV(i:Nat)(hi:i<8)(x:BitVec 64):(HSc h c rest size).setIfInBounds i (v64 x)=HSc (h.set i x) c rest size:=by
 simp only[HSc,List.setIfInBounds_toArray];rw[List.set_append_left _ _ (by rw[List.length_map,hl];omega),List.map_set]
theorem FW(h':List (BitVec 64))(hl':h'.length=8):layC (HSc h c rest size) 0 (h'.map v64)=HSc h' c rest size:=by
 simp only[layC,HSc,List.length_map,hl',List.take_zero,List.nil_append];congr 1;rw[Nat.zero_add,List.drop_left' (by rw[List.length_map,hl])]
theorem FX(d:W2):layC (HSc h c rest size) 8 [v64 d.1,v64 d.2]=HSc h d rest size:=by
 have hm:(h.map v64).length=8:=by rw[List.length_map,hl]
 simp only[layC,HSc];congr 1;rw[List.take_left' hm,List.drop_append,hm,List.drop_eq_nil_of_le (by rw[hm];simp)];rw[List.append_assoc];rfl
end
section
variable {P:Program} {ops:Array Oper} {ks:List Nat} {l:List Oper} {a:Act}
theorem kg(w:World)(e t:TypeId)(g off:Nat)(cs vs:Array Value)(hb:Blk w g t cs)(h1:ones vs=true)(hn:off+vs.size≤cs.size)(h2:(sizeOf e).run P w= .ok vs.size w):
  (bR e (.pointer (some ⟨g,off,none⟩)) (.agg vs)).run P w= .ok () (w.setRow g (layC cs off vs.toList)):=by
 have hg:w.heap[g]? =some (.cells cs t (0,0)):=hb;have hst:=run_storeCells_at (P:=P) g off t vs.toList 0 cs w hg (by rw[Array.length_toList];omega) (fun x hx=>by
  have:=Array.all_eq_true'.1 h1 x (by simpa using hx);exact this)
 have e1:(cs.toList.take (off+0)++vs.toList++cs.toList.drop (off+0+vs.toList.length)).toArray=layC cs off vs.toList:=rfl;rw[e1]at hst;simp only[bR,Instr.storeAt,Instr.sureAddr,storeVar,Sem.run_bind,Sem.run_pure,Result.andThen_ok,h2,Value.cells,ne_eq,not_true_eq_false,if_false,hst]
theorem As {K:Act→World→Prop} {w:World} {e:TypeId} {p x:Operand} {ty:TypeId} {pos:String} {after:Array Edge} {g off:Nat} {t:TypeId} {cs vs:Array Value}(hb:Blk w g t cs)(hp:a.eval p= .pointer (some ⟨g,off,none⟩))(hv:a.eval x= .agg vs)(h1:ones vs=true)(hn:off+vs.size≤cs.size)
  (hsz:(sizeOf e).run P w= .ok vs.size w) (h: ∀w1,Blk w1 g t (layC cs off vs.toList)→w.grownBy w1 (some g)→w1.heap.size=w.heap.size→wpZ P ops K ks l a w1):wpZ P ops K (2::ks) (⟨none,.store e p x,ty,pos,after,none⟩::l) a w:=by
 have hr:(execOp a.eval ⟨none,.store e p x,ty,pos,after,none⟩).run P w= .ok .skip (w.setRow g (layC cs off vs.toList)):=by
  rw[aV,hp,hv,kg w e t g off cs vs hb h1 hn hsz];simp
 refine kB rfl (fun K' hK' => ?_);unfold Oper.wp;rw[hr];exact hK' _ _ (h _ (hb.put _) (aK w g _) (by simp))
theorem Au {K:Act→World→Prop} {w:World} {e:TypeId} {p x:Operand} {ty:TypeId} {pos:String} {after:Array Edge} {g i:Nat} {t:TypeId} {cs:Array Value} {old:Value} {v:BitVec 64}(hb:Blk w g t cs)(hp:a.eval p= .pointer (some ⟨g,i,none⟩))(hv:a.eval x=v64 v)(hold:cs[i]? =some old)
  (hsz:(sizeOf e).run P w= .ok 1 w) (h: ∀w1,Blk w1 g t (cs.setIfInBounds i (v64 v))→w.grownBy w1 (some g)→w1.heap.size=w.heap.size→wpZ P ops K ks l a w1):wpZ P ops K (2::ks) (⟨none,.store e p x,ty,pos,after,none⟩::l) a w:=by
 have hr:(execOp a.eval ⟨none,.store e p x,ty,pos,after,none⟩).run P w= .ok .skip (w.setCell ⟨g,i,none⟩ (v64 v)):=by
  rw[aV,hp,hv,oT w e _ v hsz];simp[stored,hb.cell i,hold,hb.frozen i]
 refine kB rfl (fun K' hK' => ?_);unfold Oper.wp;rw[hr];exact hK' _ _ (h _ (hb.set_ i (v64 v)) (aW w g i _) (by simp))
end
def bh0:List (BitVec 64):=bfirst.set 0 (nth bfirst 0^^^16842800#64)
theorem Bw:bh0.length=8:=rfl
def sY(e:TypeId)(a b:Value):Sem Value:=Instr.build e #[(0,a),(3,b)]
@[go_sem ↓ high] theorem Ef {P:Program} {ρ:Operand→Value} {w:World} {dst:Option Tmp} {ty:TypeId} {pos:String} {after:Array Edge} {guard:Option (Nat×Bool)}(e:TypeId)(a b:Operand):(execOp ρ ⟨dst,.build e #[(0,a),(3,b)],ty,pos,after,guard⟩).run P w=((sY e (ρ a) (ρ b)).run P w).andThen fun v w' => .ok (.value v) w':=by simp[execOp,sY]
theorem Av(w:World):(sY 252 (.agg (A64 bfirst)) (.int .i64 48)).run prog w= .ok (.agg (HSc bfirst (0#64,0#64) (.slice none 0 0) 48)) w:=by kernel_rfl
open Go.RowKit
theorem FY(w:World)(hB:Blaking w):
  Calls prog 140 #[.int .i64 48,.slice none 0 0] w fun e w' => ∃g,e= .returned (.tuple #[.pointer (some ⟨g,0,none⟩),.int .i64 0])∧w.heap.size≤g∧Blk w' g 252 (HSc bh0 (0#64,0#64) (.slice none 0 0) 48)∧Below w.heap.size w w':=by
 have HB:=hid hB;have r0:=hB.1;have bh:=Av;have hls:bfirst.length=8:=rfl;obtain⟨F,hF⟩: ∃F,F=bfirst:=⟨_,rfl⟩;rw[←hF]at r0 bh hls;have HF:=hid hF;clear hF hB;go_enter func140,ntmps140;go_upto_region 6 with fail;refine aw [0,0,0,0,5,0,0,0,0,0,0,0,0,0,0,0,0,3] (by kernel_rfl) (by kernel_rfl) (fun C0 hC0 hCb K' hK' => ?_);have hx0:=MR hls (0#64,0#64) (.slice none 0 0) 48 0 (by omega);have q1: ∀w1,C0 w1→w1.cell? ⟨w.heap.size,0,none⟩=some (v64 (nth F 0)):=fun w1 hw=>((Blk.new w 252 (HSc F (0#64,0#64) (.slice none 0 0) 48)).drew.belowAll (hCb w1 hw)).cell 0|>.trans hx0;obtain⟨x,hx⟩: ∃x,x=nth F 0:=⟨_,rfl⟩;rw[←hx]at q1;have f1: ∀t,binOp .xor t (v64 x) (.int .u64 16842800)=pure (v64 (x^^^16842800#64)):=fun t=>GG t x 16842800#64
 repeat (first|((with_reducible refine hq0 ?_);refine hq0a ?_)|((with_reducible refine hq5 ?_);refine hq5a ?_ (fun _ hcw=>by have fq1:=q1 _ hcw;go_simp;(try go_bits);exact rfl))|((with_reducible refine hq1 ?_);refine hq1a ?_))
 clear q1;refine aU [2] rfl (by simp) ?_;refine Au (v:=nth F 0^^^16842800#64) (Blk.new w 252 (HSc F (0#64,0#64) (.slice none 0 0) 48)).drew rfl rfl hx0 (sizeOf23 _) (fun W2 k2 g2 s2=> ?_);rw[FV hls _ _ _ 0 (by omega)]at k2;refine az (hK' _ _ ?_);have d2:Below w.heap.size w W2:=(((Below.refl w.heap.size w).alloc (Nat.le_refl _) _).drew).trans (ae g2 (Nat.le_refl _) (by simp));have K2:=hid k2;have D2:=hid d2;have HX:=hid hx;clear hK' hCb hC0 k2 d2 g2 s2 hx0 bh r0 hx f1;clear C0 K';go_wp2;go_ret2;refine⟨w.heap.size,rfl,Nat.le_refl _,?_,D2.out⟩;have:=K2.out;rw[HF.out]at this;exact this
open Go.RowKit
def bpad(l:Y8):Y8:=splc (ac 8 128) 0 (l.take 128)
theorem FZ(l:Y8):(bpad l).length=128:=by
 unfold bpad;rw[bq _ _ _ (by simp;omega)];simp
def bcnt(c:W2)(many:Nat):W2:=fX c (BitVec.ofNat 64 many,0#64)
theorem Dy(x:BitVec 64)(w:World):(fL 250 (v64 x)).run prog w= .ok (.agg (A64 (wl (x,0#64)))) w:=by kernel_rfl
theorem Blaking.grown {w w':World} {g:Nat}(h:Blaking w)(hg:w.grownBy w' (some g))(h0:2≠g)(h1:4≠g):Blaking w':=by
 have e0:=hg.block _ h.2.2.1 (fun e=>h0 (Option.some.inj e));have e1:=hg.block _ h.2.2.2 (fun e=>h1 (Option.some.inj e));refine⟨?_,?_,Nat.lt_of_lt_of_le h.2.2.1 hg.size,Nat.lt_of_lt_of_le h.2.2.2 hg.size⟩
 ·unfold aF;rw[e0];exact h.1
 ·unfold aF;rw[e1];exact h.2.1
theorem Aw(g:Nat)(h:List (BitVec 64))(c:W2)(rest:Value)(size:Nat)(l:Y8)(a:Option Addr)(n cap many:Nat)(last:Bool)(w:World)(hB:Blaking w)(hg:Blk w g 252 (HSc h c rest size))(hh:h.length=8)(hr:Rd8 w a n cap l)(hn:n≤128)(hm:many≤128)(h0:2≠g)(h1:4≠g):
  Calls prog 174 #[.pointer (some ⟨g,0,none⟩),.slice a n cap,.int .i64 many,.bool last] w fun e w' =>e= .returned (.tuple #[])∧Blk w' g 252 (HSc (ta h (bpad l) (bcnt c many).1 (bcnt c many).2 last) (bcnt c many) rest size)∧w.grownBy w' (some g):=by
 obtain⟨W,hW⟩: ∃W,(w.alloc (.cells (A8 (ac 8 128)) 271))=W:=⟨_,rfl⟩;obtain⟨b0,hb,hz⟩:=new1 _ _ _ _ hW;have hnl:=hr.1;have hgl:=hg.lt;have hcp:=ja (P:=prog) W 22 22 3 5 w.heap.size 0 128 128 a n cap (ac 8 128) l
  underlying22 gW b0.whole b0.row (hr.below hb) (by simp;omega)
 have e:l.take (min n 128)=l.take 128:=by rw[List.take_of_length_le (by omega),List.take_of_length_le (by omega)]
 rw[e,wO]at hcp;change _=Result.ok _ (World.setRow _ _ (A8 (bpad l)))at hcp;generalize (min (n:Int) ((128:Nat):Int))=N at hcp;obtain⟨O,hO⟩: ∃O,O=bpad l:=⟨_,rfl⟩;have hOl:O.length=128:=by rw[hO];exact FZ l
 rw[←hO]at hcp⊢;obtain⟨W1,hW1⟩: ∃W1,W.setRow w.heap.size (A8 O)=W1:=⟨_,rfl⟩;rw[hW1]at hcp;have o1:Blk W1 w.heap.size 271 (A8 O):=by rw[←hW1];exact b0.put _
 have d1:Below w.heap.size w W1:=by rw[←hW1];exact below_setRow hb (Nat.le_refl _) _
 obtain⟨D,hD⟩: ∃D,D=bcnt c many:=⟨_,rfl⟩;rw[←hD];have pl:=fun w1=>jJ c (BitVec.ofNat 64 many,0#64) w1;rw[show fX c (BitVec.ofNat 64 many,0#64)=D from hD.symm]at pl;have PL:=hid pl;obtain⟨X,hX⟩: ∃X,X=BitVec.ofNat 64 many:=⟨_,rfl⟩;have hcv: ∀w,(convert 3 23 (.int .i64 (many:Int))).run prog w= .ok (v64 X) w:=fun w=>by
  rw[qC w _ _ _ underlying3 underlying23,hX,BitVec.ofInt_natCast]
 have bw:=fun w1=>Dy X w1;rw[←hX]at PL;have k1:=hg.belowAll d1;have rr:=k1.row;have hsz:=nA hh c rest size;have hxc:=Jm hh c rest size;have K1:=hid k1;have O1:=hid o1;have D1:=hid d1;have B1:=hid (hB.below d1);have HH:=hid hh;have OL:=hid hOl;have HGL:=hid hgl;clear b0 hb hz hnl hr e hO hOl hW1 o1 d1 hD pl hX k1 hg hB hh hn hm hgl;go_enter func174,ntmps174;go_wp2_with fail;clear hW hcp;refine(PL.out _).mono ?_;rintro e w2 ⟨rfl,d2⟩;have k2:=K1.out.belowAll d2;have hst:=kg (P:=prog) w2 250 252 g 8 (HSc h c rest size) (A64 (wl D)) k2 (dY _) (by rw[hsz];exact(by decide:8+2≤12)) (sizeOf250 _);rw[show layC (HSc h c rest size) 8 (A64 (wl D)).toList=HSc h D rest size from FX HH.out c rest size D]at hst;obtain⟨w3,hw3⟩: ∃w3,w2.setRow g (HSc h D rest size)=w3:=⟨_,rfl⟩;rw[hw3]at hst;have k3:Blk w3 g 252 (HSc h D rest size):=by rw[←hw3];exact k2.put _
 have g3:w.grownBy w3 (some g):=by rw[←hw3];exact ao (aD (D1.out.trans (d2.mono D1.out.size)) _) (aK _ _ _)
 have gne:w.heap.size≠g:=by have:=HGL.out;omega
 have o3:Blk w3 w.heap.size 271 (A8 O):=by rw[←hw3];exact(O1.out.belowAll d2).farRow gne _
 have b3:Blaking w3:=by
  refine Blaking.grown (g:=g) (B1.out.below d2) ?_ h0 h1;rw[←hw3];exact aK _ _ _
 have hz3:w3.heap.size=w2.heap.size:=by rw[←hw3];simp
 have hxh:=Jl HH.out D rest size;have hxd:=Jm HH.out D rest size;have hsz3:=nA HH.out D rest size;have K3:=hid k3;have G3:=hid g3;have O3:=hid o3;have B3:=hid b3;have GN:=hid gne;clear d2 k2 hw3 k3 g3 gne o3 b3 hz3 rr hsz hxc bw hcv PL K1 O1 B1;go_upto_region 3 with fail;clear hst;refine aw [0,0,0,0,5,5,0,0,0,5,0,2,0,0,3] (by kernel_rfl) (by kernel_rfl) (fun C hC0 hCb K' hK' => ?_);have q1: ∀w1,C w1→(bt 190 (.pointer (some ⟨g,0,none⟩))).run prog w1= .ok (.agg (A64 h)) w1:=fun w1 hw=>by
  have r:=(K3.out.drew.belowAll (hCb w1 hw)).row;rw[cO w1 _ _ _ (isAgg190 _) (sizeOf190 _) (by rw[r,hsz3];exact(by decide:0+8≤12)),r];exact congrArg (fun z=>Result.ok (Value.agg z) w1) hxh
 have q2: ∀w1,C w1→(bt 271 (.pointer (some ⟨w.heap.size,0,none⟩))).run prog w1= .ok (.agg (A8 O)) w1:=fun w1 hw=>by
  have r:=(O3.out.drew.belowAll (hCb w1 hw)).row;rw[cO w1 _ _ _ (isAgg271 _) (sizeOf271 _) (by rw[r,ag,OL.out];exact(by decide:0+128≤128)),r];exact congrArg (fun z=>Result.ok (Value.agg z) w1) (qD O 128 (by rw[OL.out];exact Nat.le_refl _))
 have q3: ∀w1,C w1→(bt 250 (.pointer (some ⟨g,8,none⟩))).run prog w1= .ok (.agg (A64 (wl D))) w1:=fun w1 hw=>by
  have r:=(K3.out.drew.belowAll (hCb w1 hw)).row;rw[cO w1 _ _ _ (isAgg250 _) (sizeOf250 _) (by rw[r,hsz3];exact(by decide:8+2≤12)),r];exact congrArg (fun z=>Result.ok (Value.agg z) w1) hxd
 repeat (first|((with_reducible refine hq0 ?_);refine hq0a ?_)|((with_reducible refine hq5 ?_);refine hq5a ?_ (fun _ hcw=>by have fq1:=q1 _ hcw;have fq2:=q2 _ hcw;have fq3:=q3 _ hcw;go_simp;(try go_bits);exact rfl))|((with_reducible refine hq1 ?_);refine hq1a ?_))
 refine hqc ?_;go_simp;refine af ?_;refine(wC h O D last w3.drew B3.out.drew HH.out OL.out).mono ?_;rintro e w4 ⟨rfl,d4⟩;refine⟨_,rfl,d4,?_⟩
 try simp only[Act.put,zz1,zz2,zz3]
 repeat (first|((with_reducible refine hq0 ?_);refine hq0a ?_)|((with_reducible refine hq5 ?_);refine hq5a ?_)|((with_reducible refine hq1 ?_);refine hq1a ?_))
 clear q1 q2 q3;refine aU [2] rfl (by simp) ?_;have bl:=uW h O D.1 D.2 last;obtain⟨Y,hY⟩: ∃Y,Y=ta h O D.1 D.2 last:=⟨_,rfl⟩;rw[←hY]at bl⊢;have HY:=hid hY;refine As (vs:=A64 Y) (K3.out.drew.belowAll d4) rfl rfl (dY _) (by rw[bS,hsz3,bl,HH.out];exact(by decide:0+8≤12)) (by rw[bS,bl,HH.out];exact sizeOf190 _) (fun W5 k5 g5 s5=> ?_);rw[qE,FW HH.out D rest size Y (bl.trans HH.out)]at k5;refine az (hK' _ _ ?_);have K5:=hid k5;have G5:=hid (ao G3.out (ao (aD (((Below.refl w3.heap.size w3).drew).trans d4) (some g)) g5));clear hK' hCb hC0 k5 g5 s5 d4 bl hY;clear C K';go_end0;exact⟨rfl,by rw[←HY.out];exact K5.out,G5.out⟩
open Go.RowKit
theorem oG {P:Program}(w:World)(e t:TypeId)(g i:Nat)(cs:Array Value) {b:Option Addr} {n c:Nat}(v:Value)(hv:v= .slice b n c)(hb:Blk w g t cs)(hn:i<cs.size)(h2:(sizeOf e).run P w= .ok 1 w):
  (bR e (.pointer (some ⟨g,i,none⟩)) v).run P w= .ok () (w.setRow g (cs.setIfInBounds i v)):=by
 subst hv;have hg:w.heap[g]? =some (.cells cs t (0,0)):=hb;have hst:=run_storeCells_at (P:=P) g i t [.slice b n c] 0 cs w hg (by simp;omega) (fun x hx=>by
  rw[List.mem_singleton]at hx;rw[hx];rfl)
 have e1:(cs.toList.take (i+0)++ [Value.slice b n c]++cs.toList.drop (i+0+ [Value.slice b n c].length)).toArray=cs.setIfInBounds i (.slice b n c):=by
  apply Array.ext';rw[Array.toList_setIfInBounds,List.set_eq_take_append_cons_drop,if_pos (by simpa using hn)];simp
 rw[e1]at hst;simp only[bR,Instr.storeAt,Instr.sureAddr,storeVar,Sem.run_bind,Sem.run_pure,Result.andThen_ok,h2,Value.cells,ne_eq];exact hst
section
variable {P:Program} {ops:Array Oper} {ks:List Nat} {l:List Oper} {a:Act}
theorem Dz {K:Act→World→Prop} {w:World} {e:TypeId} {p x:Operand} {ty:TypeId} {pos:String} {after:Array Edge} {g i:Nat} {t:TypeId} {cs:Array Value} {old:Value} {b:Option Addr} {n c:Nat}(hb:Blk w g t cs)(hp:a.eval p= .pointer (some ⟨g,i,none⟩))(hv:a.eval x= .slice b n c)(hold:cs[i]? =some old)
  (hsz:(sizeOf e).run P w= .ok 1 w) (h: ∀w1,Blk w1 g t (cs.setIfInBounds i (.slice b n c))→w.grownBy w1 (some g)→w1.heap.size=w.heap.size→wpZ P ops K ks l a w1):wpZ P ops K (2::ks) (⟨none,.store e p x,ty,pos,after,none⟩::l) a w:=by
 have hil:i<cs.size:=(Array.getElem?_eq_some_iff.1 hold).1;have hst:=oG (P:=P) w e t g i cs (.slice b n c) rfl hb (by omega) hsz;have hr:(execOp a.eval ⟨none,.store e p x,ty,pos,after,none⟩).run P w= .ok .skip (w.setRow g (cs.setIfInBounds i (.slice b n c))):=by
  rw[aV,hp,hv,hst];simp
 refine kB rfl (fun K' hK' => ?_);unfold Oper.wp;rw[hr];exact hK' _ _ (h _ (hb.put _) (aK w g _) (by simp))
end
theorem Ax(g:Nat)(h:List (BitVec 64))(c:W2)(size:Nat)(l:Y8)(a:Option Addr)(n cap:Nat)(w:World)(hg:Blk w g 252 (HSc h c (.slice none 0 0) size))(hh:h.length=8)(hr:Rd8 w a n cap l)(hn:n≤128):
  Calls prog 141 #[.pointer (some ⟨g,0,none⟩),.slice a n cap] w fun e w' =>e= .returned (.tuple #[])∧(∃v,Blk w' g 252 (HSc h c v size)∧Own8 w' w.heap.size 5 v l)∧w.grownBy w' (some g):=by
 have c10:w.cell? ⟨g,10,none⟩=some (.slice none 0 0):=by rw[hg.cell];exact wB hh c _ size
 have G0:=hid hg;have R0:=hid hr;have HH:=hid hh;have n1:(n:Int)≤128:=by omega
 have hnl:=hr.1;clear hg hr hh;go_enter func141,ntmps141;go_wp2_with fail;refine bd 0 (fun a' w' =>(∃u:Nat→Value,a' ={tmps:=(fun u:Nat→Value=> #[.pointer (some ⟨g,0,none⟩),u 1,u 2,u 3,u 4,u 5,u 6,u 7,u 8,u 9,u 10,u 11,u 12,u 13,u 14,u 15,u 16,u 17,u 18,u 19,u 20,u 21,u 22,u 23,u 24,u 25,u 26,u 27,u 28,u 29,u 30,u 31,u 32,u 33,u 34,u 35]) u,defers:=[]})∧ ∃a1 s1,Blk w' g 252 (HSc h c (.slice a1 n s1) size)∧Own8 w' w.heap.size 5 (.slice a1 n s1) l∧w.grownBy w' (some g)) (fun _ _=>0) rfl (fun hrest=> ?_) ?_
 ·go_upto_region 1 with fail;refine aG [0,0,0,0,1,0,2,0,0,2] rfl (fun ops' K2 hK2=> ?_)
  repeat (first|((with_reducible refine zq0 ?_);refine zq0a ?_)|((with_reducible refine zq1 ?_);refine zq1a ?_))
  refine bE (Own8.nil_ w w.heap.size 5) R0.out rfl rfl underlying22 bM (by simp;omega) (Nat.le_refl _) (fun w1 v1 o1 g1 b1=> ?_);simp only[Act.put,zz1,zz2,zz3];rw[List.nil_append]at o1;obtain⟨a1,s1,rfl,r1,_⟩:=o1.rd;rw[hnl]at o1 r1⊢
  repeat (first|((with_reducible refine zq0 ?_);refine zq0a ?_)|((with_reducible refine zq1 ?_);refine zq1a ?_))
  refine Dz (G0.out.belowAll b1) rfl rfl (wB HH.out c _ size) (sizeOf22 _) (fun w2 k2 g2 s2=> ?_);rw[Dx HH.out]at k2;refine az (hK2 _ _ ?_);have K2:=hid k2;have G2:=hid (ao (aD b1 (some g)) g2);have O2:=hid (o1.grown g2 G0.out.lt);clear k2 g2 s2 o1 g1 b1 r1 hK2 c10 hnl;go_wp2_with fail;go_step3;refine ‹∀(a:Act) (w_1:World),Code.wp _ _ _ a w_1→_› _ _ (hrest _ _ ?_);exact⟨aE _ rfl,_,_,K2.out,O2.out,G2.out⟩
 ·rintro a' w' ⟨⟨u,rfl⟩,a1,s1,k2,o2,g2⟩;have e10:w'.cell? ⟨g,10,none⟩=some (.slice a1 n s1):=by rw[k2.cell];exact wB HH.out c _ size
  have K2:=hid k2;have G2:=hid g2;have O2:=hid o2;clear k2 o2 g2;go_wp2;simp only[Exit.jump];change bodyPost prog Tryz.f141 _ Exit.ret _ _;refine bodyPost_ret (results_none rfl _ _ _) rfl ?_;exact⟨rfl,⟨_,K2.out,O2.out⟩,G2.out⟩
open Go.RowKit
def nB(l:List (BitVec 64)):Nat→Y8
 |0=>[]
 |j+1=>nB l j++le64 (nth l j)
theorem oH(l:List (BitVec 64)): ∀j,(nB l j).length=8*j
 |0=>rfl
 |j+1=>by rw[nB,List.length_append,oH l j,ep];omega
def Bx(h:List (BitVec 64))(l:Y8):Y8:=(nB (ta h (bpad l) (bcnt (0#64,0#64) l.length).1 (bcnt (0#64,0#64) l.length).2 true) 8).take 48
theorem Ga(l:List (BitVec 64))(j:Nat)(w:World)(h:l.length=8)(hj:j<8):(Instr.index 190 (.agg (A64 l)) (.int .i64 j)).run prog w= .ok (v64 (nth l j)) w:=
 Ny (n:=8) (e:=23) (by kernel_rfl) (isAgg23 _) (sizeOf23 _) l j (by omega) hj
theorem Gb(h:List (BitVec 64))(c:W2)(a:Option Addr)(n cap size:Nat):ones (HSc h c (.slice a n cap) size)=true:=by
 have e:HSc h c (.slice a n cap) size=A64 h++ #[v64 c.1,v64 c.2,.slice a n cap,.int .i64 size]:=by
  unfold HSc A64;simp
 rw[e,ones,Array.all_append];rw[show(A64 h).all _=true from dY h,Bool.true_and];simp[Value.oneCell',v64]
theorem Gc(g:Nat)(h:List (BitVec 64))(l:Y8)(a:Option Addr)(n cap:Nat)(w:World)(hB:Blaking w)(hg:Blk w g 252 (HSc h (0#64,0#64) (.slice a n cap) 48))(hh:h.length=8)(hr:Rd8 w a n cap l)(hn:n≤128):
  Calls prog 142 #[.pointer (some ⟨g,0,none⟩)] w fun e w' => ∃v,e= .returned v∧(∃b s,v= .slice b 48 s∧Rd8 w' b 48 s (Bx h l))∧Below w.heap.size w w':=by
 have rr:=hg.row;have hsz:=nA hh (0#64,0#64) (.slice a n cap) 48;have hon:=Gb h (0#64,0#64) a n cap 48;have hnl:=hr.1;obtain⟨H0,hH0⟩: ∃H,H=HSc h (0#64,0#64) (.slice a n cap) 48:=⟨_,rfl⟩;rw[←hH0]at rr hsz hon;have hx:H0.extract 0 12=H0:=by rw[←hsz];simp
 have hgt0:(bt 252 (.pointer (some ⟨g,0,none⟩))).run prog w= .ok (.agg H0) w:=by
  rw[cO w _ _ _ (isAgg252 _) (sizeOf252 _) (by rw[rr,hsz];exact(by decide:0+12≤12)),rr];exact congrArg (fun z=>Result.ok (Value.agg z) w) hx
 obtain⟨W1,hW1⟩: ∃W1,w.alloc (.cells H0 252)=W1:=⟨_,rfl⟩;obtain⟨b0,hb,hz⟩:=new1 _ _ _ _ hW1;have k1:Blk W1 w.heap.size 252 (HSc h (0#64,0#64) (.slice a n cap) 48):=by rw[←hH0];exact b0
 have d1:=hb;have c10:W1.cell? ⟨w.heap.size,10,none⟩=some (.slice a n cap):=by rw[k1.cell];exact wB hh _ _ _
 have f1:=hB.2.2.1;have f2:=hB.2.2.2;have BL:=hid (Aw w.heap.size h (0#64,0#64) (.slice a n cap) 48 l a n cap n true W1 (hB.below d1) k1 hh (hr.below d1) hn hn (by omega) (by omega));obtain⟨D,hD⟩: ∃D,D=bcnt (0#64,0#64) n:=⟨_,rfl⟩;obtain⟨Y,hY⟩: ∃Y,Y=ta h (bpad l) D.1 D.2 true:=⟨_,rfl⟩;have hYl:Y.length=8:=by rw[hY,uW,hh]
 have hfin:Bx h l=(nB Y 8).take 48:=by rw[Bx,hnl,←hD,←hY]
 rw[←hD,←hY]at BL;rw[hfin];have D1:=hid d1;have hgl:=hg.lt;clear hD hY hfin k1 d1 b0 hb hz hr hB hg hh hH0;go_enter func142,ntmps142;go_upto_region 4 with fail;clear hW1;go_wp2_with fail;refine BL.out.mono ?_;rintro e w2 ⟨rfl,k2,g2⟩;clear BL c10 rr hx hgt0;have d2:=D1.out.trans (ae g2 (Nat.le_refl _) D1.out.size);have hmk:=cE (P:=prog) w2 22 5 0 64 underlying22 bM (by omega) (by omega) (by omega);rw[show(64:Int).toNat=64 from rfl,Int.toNat_zero]at hmk;obtain⟨w3,hw3⟩: ∃w3,w2.alloc (.cells (A8 (ac 8 64)) 5)=w3:=⟨_,rfl⟩;rw[hw3]at hmk;have o3:=Own8.made w2 (w.heap.size+1) 5 (ac 8 64) 0 k2.lt (by omega) (by rw[ah];unfold maxLen;omega);rw[ah,List.take_zero,hw3]at o3;have k3:Blk w3 w.heap.size 252 (HSc Y D (.slice a n cap) 48):=by rw[←hw3];exact k2.alloc _
 have d3:Below w.heap.size w w3:=by rw[←hw3];exact d2.alloc d2.size _
 have r3:=k3.row;have s3:=nA hYl D (.slice a n cap) 48;have x3:=Jl hYl D (.slice a n cap) 48;have O3:=hid o3;have K3:=hid k3;have D3:=hid d3;clear k2 g2 d2 hw3 o3 k3 d3 D1;go_wp2_with fail;clear hmk r3;go_loopw [4,22] (fun v i wr=> ∃j:Nat,j≤8∧i= .int .i64 j∧Own8 wr (w.heap.size+1) 5 v (nB Y j)∧Blk wr w.heap.size 252 (HSc Y D (.slice a n cap) 48)∧Below w.heap.size w wr) (fun _ i _=>8-(intOf i).toNat)
 case atStart=>exact⟨0,by omega,rfl,O3.out,K3.out,D3.out⟩
 case round=>
  obtain⟨j,hj,rfl,ho,hk,hd⟩:=hrel;have O4:=hid ho;have K4:=hid hk;have D4:=hid hd;clear ho hk hd O3 K3 D3;by_cases hj8:j<8
  ·have j0:(0:Int)≤(j:Int):=by omega
   have j1:(j:Int)<8:=by omega
   have hix:=fun w1=>Ga Y j w1 hYl hj8;obtain⟨x,hx⟩: ∃x,x=nth Y j:=⟨_,rfl⟩;rw[←hx]at hix;have HX:=hid hx;clear hx;go_wp2_with fail;refine(aM x wr).mono ?_;rintro e w4 ⟨rfl,d4⟩;obtain⟨L,hL⟩: ∃L,L=le64 x:=⟨_,rfl⟩;have hLl:L.length=8:=by rw[hL];rfl
   rw[←hL];have HL:=hid hL;clear hL;have q1:=(Blk.new w4 107 (A8 (ac 8 8))).row;have q3:=(Blk.new w4 107 (A8 (ac 8 8))).whole;obtain⟨w5,hw5⟩: ∃z,w4.alloc (.cells (A8 L) 107)=z:=⟨_,rfl⟩;obtain⟨n5,d5,z5⟩:=new1 _ _ _ _ hw5;have d45:=d4.trans (d5.mono d4.size);have n6:=n5.rd8 8 (by omega) (by rw[hLl];unfold maxLen;omega);rw[List.take_of_length_le (by omega),hLl]at n6;have L5:=hid n6;have O5:=hid (O4.out.below d45);have K5:=hid (K4.out.belowAll d45);have D5:=hid (D4.out.trans (d45.mono D4.out.size));clear d4 n5 d5 z5 d45 n6 O4 K4 D4 hix;go_upto_region 10 with fail;refine aG [0,0,2,0] rfl (fun ops' K2 hK2=> ?_)
   repeat (first|((with_reducible refine zq0 ?_);refine zq0a ?_)|((with_reducible refine zq1 ?_);refine zq1a ?_))
   refine bE O5.out L5.out rfl rfl underlying22 bM (by rw[oH];omega) K5.out.lt (fun w8 v8 o8 g8 b8=> ?_);simp only[Act.put,zz1,zz2,zz3]
   repeat (first|((with_reducible refine zq0 ?_);refine zq0a ?_)|((with_reducible refine zq1 ?_);refine zq1a ?_))
   refine az (hK2 _ _ ?_);have e8:nB Y j++L=nB Y (j+1):=by rw[nB,←HX.out,←HL.out]
   rw[e8]at o8;have O8:=hid o8;have K8:=hid (K5.out.grown g8 (O5.out.apart (by omega)));have D8:=hid (D5.out.trans (b8.mono (by omega)));clear o8 g8 b8 e8 hK2 q1 q3 hw5 O5 K5 D5 L5;go_wp2;exact⟨⟨j+1,by omega,by go_num,O8.out,K8.out,D8.out⟩,by simp[intOf];omega⟩
  ·obtain rfl:j=8:=by omega
   have c11:=K4.out.cell 11;rw[KB hYl]at c11;obtain⟨b5,s5,rfl,r5,_⟩:=O4.out.rd;rw[oH]at r5⊢;have r6:=r5.pre (show 48≤8*8 by omega);have R6:=hid r6;have sc:=r5.2.1;clear r5 r6 O4;go_wp2;go_ret;exact⟨_,rfl,⟨b5,s5,rfl,R6.out⟩,D4.out⟩
open Go.RowKit
def bsum(l:Y8):Y8:=Bx bh0 l
theorem Gd(l:Y8)(a:Option Addr)(n cap:Nat)(w:World)(hB:Blaking w)(hr:Rd8 w a n cap l)(hn:n≤128):
  Calls prog 95 #[.int .i64 48,.slice none 0 0,.slice a n cap] w fun e w' => ∃b s,e= .returned (.tuple #[.slice b 48 s,.int .i64 0])∧Rd8 w' b 48 s (bsum l)∧Below w.heap.size w w':=by
 have hfl:=hB.2.2.1;have hrl:=hB.2.2.2;have HB:=hid hB;have R0:=hid hr;clear hB hr;go_enter func95,ntmps95;go_wp2_with fail;refine(FY w HB.out).mono ?_;rintro e w1 ⟨g,rfl,hg,k1,d1⟩;have R1:=hid (R0.out.below d1);have K1:=hid k1;have B1:=hid (HB.out.below d1);have D1:=hid d1;clear k1 d1;go_wp2_with fail;refine(Ax g bh0 (0#64,0#64) 48 l a n cap w1 K1.out Bw R1.out hn).mono ?_;rintro e w2 ⟨rfl,⟨v,k2,o2⟩,g2⟩;obtain⟨b2,s2,rfl,r2,_⟩:=o2.rd;have hnl:=r2.1;rw[show l.length=n from R1.out.1]at r2 k2;have B2:=hid (B1.out.grown g2 (by omega) (by omega));have D2:=hid (D1.out.trans (ae g2 hg D1.out.size));have R2:=hid r2;have K2:=hid k2;clear o2 g2 r2 k2 hnl;go_wp2_with fail;refine(Gc g bh0 l b2 n s2 w2 B2.out K2.out Bw R2.out hn).mono ?_;rintro e w3 ⟨v3,rfl,⟨b3,s3,rfl,r3⟩,d3⟩;have R3:=hid r3;have D3:=hid (D2.out.trans (d3.mono D2.out.size));clear r3 d3;go_wp2;go_ret2;exact⟨b3,s3,rfl,R3.out,D3.out⟩
open Go.RowKit
def xK(key:Y8):Y8:=if key.length=48 then key else bsum key
def xI(key:Y8):Y8:=blk (xK key)
def xJ(key:Y8):Y8:=blk ((xK key).drop 16)
def xL(key:Y8):Y8:=blk ((xK key).drop 32)
theorem Ay(p:Nat)(i0 i1 i2 i3 i4 i5 i6 i7 i8 i9 i10 i11 i12 i13 i14 i15 j0 j1 j2 j3 j4 j5 j6 j7 j8 j9 j10 j11 j12 j13 j14 j15 l0 l1 l2 l3 l4 l5 l6 l7 l8 l9 l10 l11 l12 l13 l14 l15:BitVec 8)(w:World):(kV 167 (.pointer (some ⟨p,0,none⟩)) (.agg (A8 [i0,i1,i2,i3,i4,i5,i6,i7,i8,i9,i10,i11,i12,i13,i14,i15])) (.agg (A8 [j0,j1,j2,j3,j4,j5,j6,j7,j8,j9,j10,j11,j12,j13,j14,j15])) (.agg (A8 [l0,l1,l2,l3,l4,l5,l6,l7,l8,l9,l10,l11,l12,l13,l14,l15]))).run prog w= .ok (.agg (PB (.pointer (some ⟨p,0,none⟩)) ([i0,i1,i2,i3,i4,i5,i6,i7,i8,i9,i10,i11,i12,i13,i14,i15]++ [j0,j1,j2,j3,j4,j5,j6,j7,j8,j9,j10,j11,j12,j13,j14,j15]++ [l0,l1,l2,l3,l4,l5,l6,l7,l8,l9,l10,l11,l12,l13,l14,l15]))) w:=by kernel_rfl
theorem Az(l:Y8)(h:l.length=16): ∃i0 i1 i2 i3 i4 i5 i6 i7 i8 i9 i10 i11 i12 i13 i14 i15,l=[i0,i1,i2,i3,i4,i5,i6,i7,i8,i9,i10,i11,i12,i13,i14,i15]:=by
 match l,h with
 | [i0,i1,i2,i3,i4,i5,i6,i7,i8,i9,i10,i11,i12,i13,i14,i15],_=>exact⟨_,_,_,_,_,_,_,_,_,_,_,_,_,_,_,_,rfl⟩
theorem uT(p:Nat)(I J L:Y8)(hI:I.length=16)(hJ:J.length=16)(hL:L.length=16)(w:World):(kV 167 (.pointer (some ⟨p,0,none⟩)) (.agg (A8 I)) (.agg (A8 J)) (.agg (A8 L))).run prog w= .ok (.agg (PB (.pointer (some ⟨p,0,none⟩)) (I++J++L))) w:=by
 obtain⟨i0,i1,i2,i3,i4,i5,i6,i7,i8,i9,i10,i11,i12,i13,i14,i15,rfl⟩:=Az I hI;obtain⟨j0,j1,j2,j3,j4,j5,j6,j7,j8,j9,j10,j11,j12,j13,j14,j15,rfl⟩:=Az J hJ;obtain⟨l0,l1,l2,l3,l4,l5,l6,l7,l8,l9,l10,l11,l12,l13,l14,l15,rfl⟩:=Az L hL;exact Ay _ _ _ _ _ _ _ _ _ _ _ _ _ _ _ _ _ _ _ _ _ _ _ _ _ _ _ _ _ _ _ _ _ _ _ _ _ _ _ _ _ _ _ _ _ _ _ _ _ _
theorem Rd8.cutAt {w:World} {b o n c:Nat} {l:Y8}(h:Rd8 w (some ⟨b,o,none⟩) n c l)(j:Nat)(hj:j<n):Rd8 w (some ⟨b,o+j,none⟩) (n-j) (c-j) (l.drop j):=by
 obtain⟨b',o',e,hb,hc⟩:=h.2.2.2 (by omega);cases e;refine⟨by rw[List.length_drop,h.1],by have:=h.2.1;omega,by have:=h.2.2.1;omega,fun _=>⟨b,o+j,rfl,hb,fun i hi=> ?_⟩⟩;rw[Nat.add_assoc,hc (j+i) (by omega),bQ]
theorem yh(p:Nat)(key:Y8)(a:Option Addr)(n c:Nat)(w:World)(hT:TabAt w p)(hB:Blaking w)(hr:Rd8 w a n c key)(h1:1≤n)(h2:n≤128):
  Calls prog 69 #[.pointer (some ⟨p,0,none⟩),.slice a n c] w fun e w' => ∃q,e= .returned (.tuple #[.pointer (some ⟨q,0,none⟩),.int .i64 0])∧EzAt w' q p (xI key) (xJ key) (xL key)∧Below w.heap.size w w':=by
 have T0:=hid hT;have B0:=hid hB;have R0:=hid hr;have hkl:=hr.1;have e0:((n:Int)==0)=false:=by simp;omega
 have e1: ¬(128:Int)<(n:Int):=by omega
 obtain⟨X,hX⟩: ∃X,X=xK key:=⟨_,rfl⟩;rw[xI,xJ,xL,←hX];clear hT hB hr;go_enter func69,ntmps69;by_cases h48:n=48
 ·have e2:((n:Int) !=48)=false:=by simp;omega
  have hK:key=X:=by rw[hX,xK,if_pos (by omega)]
  subst h48;have D1:=hid (Below.refl w.heap.size w);have R1:=hid R0.out;rw[hK]at R1;have T1:=T0;clear B0 hK hX;go_upto_region 7 with fail;obtain⟨bb,oo,ea,_,_⟩:=R1.out.2.2.2 (by omega);subst ea;have RB:=hid (R1.out.cutAt 16 (by omega));have RC:=hid (R1.out.cutAt 32 (by omega));have c48:=R1.out.2.1;have f1: ¬(c:Int)=16:=by omega
  have f2: ¬(c:Int)=32:=by omega
  have f3:(16:Int)≤(c:Int):=by omega
  have f4:(32:Int)≤(c:Int):=by omega
  have f5:(c:Int)-16=((c-16:Nat):Int):=by omega
  have f6:(c:Int)-32=((c-32:Nat):Int):=by omega
  refine aw [0,0,2,0,0,2,0,0,2,0,2,0,0] (by kernel_rfl) (by kernel_rfl) (fun C0 hC0 hCb K' hK' => ?_)
  repeat (first|((with_reducible refine hq0 ?_);refine hq0a ?_)|((with_reducible refine hq5 ?_);refine hq5a ?_)|((with_reducible refine hq1 ?_);refine hq1a ?_))
  refine hqc ?_;go_simp;refine af ?_;refine(bD X (some ⟨bb,oo,none⟩) 48 c w.drew R1.out.drew).mono ?_;rintro e w2 ⟨rfl,d2⟩;refine⟨_,rfl,d2,?_⟩
  try simp only[Act.put,zz1,zz2,zz3]
  obtain⟨I,hI⟩: ∃I,I=blk X:=⟨_,rfl⟩;have lI:I.length=16:=by rw[hI];exact aX _
  rw[←hI];have HI:=hid hI;clear hI
  repeat (first|((with_reducible refine hq0 ?_);refine hq0a ?_)|((with_reducible refine hq5 ?_);refine hq5a ?_)|((with_reducible refine hq1 ?_);refine hq1a ?_))
  rw[if_neg (show¬c=16 by omega)];refine hqc ?_;go_simp;refine af ?_;refine(bD (X.drop 16) (some ⟨bb,oo+16,none⟩) 32 (c-16) w2 (RB.out.drew.below d2)).mono ?_;rintro e w3 ⟨rfl,d3⟩;refine⟨_,rfl,d3,?_⟩
  try simp only[Act.put,zz1,zz2,zz3]
  obtain⟨J,hJ⟩: ∃J,J=blk (X.drop 16):=⟨_,rfl⟩;have lJ:J.length=16:=by rw[hJ];exact aX _
  rw[←hJ];have HJ:=hid hJ;clear hJ
  repeat (first|((with_reducible refine hq0 ?_);refine hq0a ?_)|((with_reducible refine hq5 ?_);refine hq5a ?_)|((with_reducible refine hq1 ?_);refine hq1a ?_))
  rw[if_neg (show¬c=32 by omega)];have d23:=d2.trans (d3.mono d2.size);refine hqc ?_;go_simp;refine af ?_;refine(bD (X.drop 32) (some ⟨bb,oo+32,none⟩) 16 (c-32) w3 (RC.out.drew.below d23)).mono ?_;rintro e w4 ⟨rfl,d4⟩;refine⟨_,rfl,d4,?_⟩
  try simp only[Act.put,zz1,zz2,zz3]
  obtain⟨L,hL⟩: ∃L,L=blk (X.drop 32):=⟨_,rfl⟩;have lL:L.length=16:=by rw[hL];exact aX _
  rw[←hL];have HL:=hid hL;clear hL;have bk:=fun w5=>uT p I J L lI lJ lL w5;obtain⟨Z,hZ⟩: ∃Z,Z=PB (.pointer (some ⟨p,0,none⟩)) (I++J++L):=⟨_,rfl⟩;rw[←hZ]at bk;have HZ:=hid hZ;clear hZ;have d24:=d23.trans (d4.mono d23.size)
  repeat (first|((with_reducible refine hq0 ?_);refine hq0a ?_)|((with_reducible refine hq5 ?_);refine hq5a ?_)|((with_reducible refine hq1 ?_);refine hq1a ?_))
  refine aY (w':=w4.alloc (.cells Z 167)) (v:= .pointer (some ⟨w4.heap.size,0,none⟩)) ?_ ?_ ((Below.refl _ _).alloc (Nat.le_refl _) _) ?_
  ·exact rfl
  ·go_simp
  obtain⟨w5,hw5⟩: ∃z,w4.alloc (.cells Z 167)=z:=⟨_,rfl⟩;obtain⟨n5,d5,_⟩:=new1 _ _ _ _ hw5;rw[hw5];simp only[Act.put,zz1,zz2,zz3]
  repeat (first|((with_reducible refine hq0 ?_);refine hq0a ?_)|((with_reducible refine hq5 ?_);refine hq5a ?_)|((with_reducible refine hq1 ?_);refine hq1a ?_))
  refine aU [] rfl (by simp) (az (hK' _ _ ?_));have d25:=((Below.refl (w).heap.size w).drew).trans (d24.trans (d5.mono d24.size));have E5:EzAt w5 w4.heap.size p (blk X) (blk (X.drop 16)) (blk (X.drop 32)):=by
   rw[←HI.out,←HJ.out,←HL.out];exact⟨T1.out.below d25,by rw[←HZ.out];exact n5,lI,lJ,lL⟩
  have E5H:=hid E5;have D5:=hid (D1.out.trans (d25.mono D1.out.size));clear hK' hCb hC0 d2 d3 d4 d5 d23 d24 d25 n5 E5 bk hw5;clear C0 K';go_wp2;go_ret2;exact⟨_,rfl,E5H.out,D5.out⟩
 ·have e2:((n:Int) !=48)=true:=by simp;omega
  have hK:bsum key=X:=by rw[hX,xK,if_neg (by omega)]
  have bs:=Gd key a n c w B0.out R0.out h2;rw[hK]at bs;have BS:=hid bs;clear B0 hK h48 hX bs;go_wp2_with fail;refine BS.out.mono ?_;rintro e w1 ⟨b1,s1,rfl,r1,d1⟩;have D1:=hid d1;have R1:=hid r1;have T1:=hid (T0.out.below d1);clear r1 d1 BS e0 e1 hkl R0 T0;go_upto_region 7 with fail;obtain⟨bb,oo,ea,_,_⟩:=R1.out.2.2.2 (by omega);subst ea;have RB:=hid (R1.out.cutAt 16 (by omega));have RC:=hid (R1.out.cutAt 32 (by omega));have c48:=R1.out.2.1;have f1: ¬(s1:Int)=16:=by omega
  have f2: ¬(s1:Int)=32:=by omega
  have f3:(16:Int)≤(s1:Int):=by omega
  have f4:(32:Int)≤(s1:Int):=by omega
  have f5:(s1:Int)-16=((s1-16:Nat):Int):=by omega
  have f6:(s1:Int)-32=((s1-32:Nat):Int):=by omega
  refine aw [0,0,2,0,0,2,0,0,2,0,2,0,0] (by kernel_rfl) (by kernel_rfl) (fun C0 hC0 hCb K' hK' => ?_)
  repeat (first|((with_reducible refine hq0 ?_);refine hq0a ?_)|((with_reducible refine hq5 ?_);refine hq5a ?_)|((with_reducible refine hq1 ?_);refine hq1a ?_))
  refine hqc ?_;go_simp;refine af ?_;refine(bD X (some ⟨bb,oo,none⟩) 48 s1 w1.drew R1.out.drew).mono ?_;rintro e w2 ⟨rfl,d2⟩;refine⟨_,rfl,d2,?_⟩
  try simp only[Act.put,zz1,zz2,zz3]
  obtain⟨I,hI⟩: ∃I,I=blk X:=⟨_,rfl⟩;have lI:I.length=16:=by rw[hI];exact aX _
  rw[←hI];have HI:=hid hI;clear hI
  repeat (first|((with_reducible refine hq0 ?_);refine hq0a ?_)|((with_reducible refine hq5 ?_);refine hq5a ?_)|((with_reducible refine hq1 ?_);refine hq1a ?_))
  rw[if_neg (show¬s1=16 by omega)];refine hqc ?_;go_simp;refine af ?_;refine(bD (X.drop 16) (some ⟨bb,oo+16,none⟩) 32 (s1-16) w2 (RB.out.drew.below d2)).mono ?_;rintro e w3 ⟨rfl,d3⟩;refine⟨_,rfl,d3,?_⟩
  try simp only[Act.put,zz1,zz2,zz3]
  obtain⟨J,hJ⟩: ∃J,J=blk (X.drop 16):=⟨_,rfl⟩;have lJ:J.length=16:=by rw[hJ];exact aX _
  rw[←hJ];have HJ:=hid hJ;clear hJ
  repeat (first|((with_reducible refine hq0 ?_);refine hq0a ?_)|((with_reducible refine hq5 ?_);refine hq5a ?_)|((with_reducible refine hq1 ?_);refine hq1a ?_))
  rw[if_neg (show¬s1=32 by omega)];have d23:=d2.trans (d3.mono d2.size);refine hqc ?_;go_simp;refine af ?_;refine(bD (X.drop 32) (some ⟨bb,oo+32,none⟩) 16 (s1-32) w3 (RC.out.drew.below d23)).mono ?_;rintro e w4 ⟨rfl,d4⟩;refine⟨_,rfl,d4,?_⟩
  try simp only[Act.put,zz1,zz2,zz3]
  obtain⟨L,hL⟩: ∃L,L=blk (X.drop 32):=⟨_,rfl⟩;have lL:L.length=16:=by rw[hL];exact aX _
  rw[←hL];have HL:=hid hL;clear hL;have bk:=fun w5=>uT p I J L lI lJ lL w5;obtain⟨Z,hZ⟩: ∃Z,Z=PB (.pointer (some ⟨p,0,none⟩)) (I++J++L):=⟨_,rfl⟩;rw[←hZ]at bk;have HZ:=hid hZ;clear hZ;have d24:=d23.trans (d4.mono d23.size)
  repeat (first|((with_reducible refine hq0 ?_);refine hq0a ?_)|((with_reducible refine hq5 ?_);refine hq5a ?_)|((with_reducible refine hq1 ?_);refine hq1a ?_))
  refine aY (w':=w4.alloc (.cells Z 167)) (v:= .pointer (some ⟨w4.heap.size,0,none⟩)) ?_ ?_ ((Below.refl _ _).alloc (Nat.le_refl _) _) ?_
  ·exact rfl
  ·go_simp
  obtain⟨w5,hw5⟩: ∃z,w4.alloc (.cells Z 167)=z:=⟨_,rfl⟩;obtain⟨n5,d5,_⟩:=new1 _ _ _ _ hw5;rw[hw5];simp only[Act.put,zz1,zz2,zz3]
  repeat (first|((with_reducible refine hq0 ?_);refine hq0a ?_)|((with_reducible refine hq5 ?_);refine hq5a ?_)|((with_reducible refine hq1 ?_);refine hq1a ?_))
  refine aU [] rfl (by simp) (az (hK' _ _ ?_));have d25:=((Below.refl (w1).heap.size w1).drew).trans (d24.trans (d5.mono d24.size));have E5:EzAt w5 w4.heap.size p (blk X) (blk (X.drop 16)) (blk (X.drop 32)):=by
   rw[←HI.out,←HJ.out,←HL.out];exact⟨T1.out.below d25,by rw[←HZ.out];exact n5,lI,lJ,lL⟩
  have E5H:=hid E5;have D5:=hid (D1.out.trans (d25.mono D1.out.size));clear hK' hCb hC0 d2 d3 d4 d5 d23 d24 d25 n5 E5 bk hw5;clear C0 K';go_wp2;go_ret2;exact⟨_,rfl,E5H.out,D5.out⟩
end Go.Proofs.YtddkbkbpogcffaaGreatDoor
