/-ezcore:apart (by genec.py)-/
import Derived.Test.YtddkbkbpogcffaaGreatDoorMKc
import Derived.Test.YtddkbkbpogcffaaGreatDoorMKe
import Derived.Test.YtddkbkbpogcffaaGreatDoorMGb
namespace Go.Proofs.YtddkbkbpogcffaaGreatDoor
open Go.Proofs.Tryz
open Lib (hid)
set_option linter.unusedSimpArgs false
set_option linter.unusedVariables false
set_option maxRecDepth 100000
set_option maxHeartbeats 1600000
open Go.RowKit
theorem An: ∀(f g:Nat→BitVec 8) (w:World),(Instr.build 373 #[(3,.agg (A8 (r16 f))),(4,.agg (A8 (r16 g)))]).run prog w= .ok (.agg (MSc (.slice none 0 0) (.slice none 0 0) (.slice none 0 0) (r16 f) (r16 g))) w:=fun f g w=>by kernel_rfl
theorem Ds(x y:Y8)(hx:x.length=16)(hy:y.length=16)(w:World):(Instr.build 373 #[(3,.agg (A8 x)),(4,.agg (A8 y))]).run prog w= .ok (.agg (MSc (.slice none 0 0) (.slice none 0 0) (.slice none 0 0) x y)) w:=by
 have h:=An (nth x) (nth y) w
 rwa [eF x hx,eF y hy]at h
theorem xT: ∀(f g:Nat→BitVec 8) (w:World),(dM 383 (.agg (A8 (r16 f))) (.agg (A8 (r16 g)))).run prog w= .ok (.agg (A8 (r16 f++r16 g))) w:=fun f g w=>by kernel_rfl
theorem mv(x y:Y8)(hx:x.length=16)(hy:y.length=16)(w:World):(dM 383 (.agg (A8 x)) (.agg (A8 y))).run prog w= .ok (.agg (A8 (x++y))) w:=by
 have h:=xT (nth x) (nth y) w
 rwa [eF x hx,eF y hy]at h
def sJ(e:TypeId)(a b:Value):Sem Value:=Instr.build e #[(3,a),(4,b)]
@[go_sem ↓ high] theorem FM {P:Program} {ρ:Operand→Value} {w:World} {dst:Option Tmp} {ty:TypeId} {pos:String} {after:Array Edge} {guard:Option (Nat×Bool)}(e:TypeId)(a b:Operand):(execOp ρ ⟨dst,.build e #[(3,a),(4,b)],ty,pos,after,guard⟩).run P w=((sJ e (ρ a) (ρ b)).run P w).andThen fun v w' => .ok (.value v) w':=by
 simp[execOp,sJ]
theorem xU:(prog.info? 383).map (fun i=>(i.zero,i.size,i.bytes))=some (some (.agg (A8 (ac 8 32))),32,32):=by kernel_rfl
theorem RdS.of_blk32 {w:World} {g:Nat} {t:TypeId} {L:Y8}(h:Blk w g t (A8 L))(hl:L.length=32):RdS w 32 (some ⟨g,0,none⟩) 1 1 L:=by
 have h8:=h.rd8 L.length (Nat.le_refl _) (by unfold maxLen;omega);refine⟨hl,Nat.le_refl _,by unfold maxLen;omega,fun hn=> ?_⟩;obtain⟨b,o,e,hb,hc⟩:=h8.2.2.2 (by omega);cases e;exact⟨_,_,rfl,hb,fun i hi=>by rw[hc i (by omega),List.take_length]⟩
theorem OwnS.kept_ {w w':World} {B g s m:Nat} {e:TypeId} {v:Value} {l:Y8}(h:OwnS w B e s v m l)(hg:w.grownBy w' (some g))(hne:v.ownBlock≠some g):OwnS w' B e s v m l:=
 World.ownsRow.kept h hg (by
  cases hv:v.ownBlock with
  |none=>exact .inl rfl
  |some k=>exact .inr fun e=>hne (by rw[hv,←e]))
theorem Blk.getMS {w:World} {g:Nat} {t:TypeId} {ps us vs:Value} {x y:Y8}(h:Blk w g t (MSc ps us vs x y))(hx:x.length=16)(hy:y.length=16):(bt 373 (.pointer (some ⟨g,0,none⟩))).run prog w= .ok (.agg (MSc ps us vs x y)) w:=by
 have hv:=cT (P:=prog) (w:=w) (isAgg373 _) (sizeOf373 _) (ff hx hy ps us vs) h.row;simp only[bt,Instr.loadAt,Instr.sureAddr,Sem.run_bind,Sem.run_pure,Result.andThen_ok,hv]
theorem OwnS.ne_blk {w:World} {B g s m:Nat} {e t:TypeId} {v:Value} {l:Y8} {cs:Array Value}(h:OwnS w B e s v m l)(hb:Blk w g t cs)(hne:e≠t):v.ownBlock≠some g:=by
 rcases h.2 with⟨rfl,h0⟩|⟨g',cap,cur,rfl,_,hg,_⟩
 ·simp[Value.ownBlock]
 ·intro e1;have e2:g' =g:=by simpa[Value.ownBlock]using e1
  subst e2;unfold Blk at hb;rw[hb]at hg;cases hg;exact hne rfl
def ApJ(w:World)(M x y:Y8)(L:Nat)(a':Act)(w':World):Prop:=
 ∃(j r gm c1 cp:Nat) (a1 ap:Option Addr),(∃u:Nat→Value,a' ={tmps:=(fun u:Nat→Value=>(Value.slice a1 r c1::u 1::Value.pointer (some ⟨w.heap.size,0,none⟩)::Value.pointer (some ⟨gm,0,none⟩)::u 4::u 5::u 6::u 7::u 8::u 9::u 10::u 11::u 12::u 13::u 14::u 15::u 16::u 17::u 18::u 19::u 20::u 21::u 22::u 23::u 24::u 25::u 26::u 27::u 28::u 29::u 30::u 31::u 32::u 33::u 34::u 35::u 36::u 37::u 38::u 39::u 40::u 41::u 42::[]).toArray) u,defers:=[]})∧
  r=L-32*j∧32*j≤L∧Rd8 w a1 r c1 ((M.take L).drop (32*j))∧w.heap.size<gm∧Blk w' w.heap.size 373 (MSc (.slice none 0 0) (.slice none 0 0) (.slice none 0 0) (ac 8 16) (ac 8 16))∧Blk w' gm 373 (MSc (.slice ap j cp) (.slice none 0 0) (.slice none 0 0) x y)∧OwnS w' (w.heap.size+1) 383 32 (.slice ap j cp) j (M.take (32*j))∧Value.ownBlock (.slice ap j cp)≠some gm∧Below w.heap.size w w'∧w.heap.size+1≤w'.heap.size
def apMu:Value→Nat
 | .slice _ n _=>n
 |_=>0
theorem Dt(M:Y8)(a:Option Addr)(n c:Nat)(w:World)(hr:Rd8 w a n c M)(hn:32≤n)(hn2:n≤520):
  Calls prog 308 #[.slice a n c] w fun e w' => ∃(ap au av:Option Addr) (cp nu cu nv cv:Nat),e= .returned (.agg (MSc (.slice ap ((n-32)/32) cp) (.slice au nu cu) (.slice av nv cv) ((M.drop (n-32)).take 16) ((M.drop (n-16)).take 16)))∧OwnS w' w.heap.size 383 32 (.slice ap ((n-32)/32) cp) ((n-32)/32) (M.take (32*((n-32)/32)))∧Rd8 w au nu cu (((M.take (n-32)).drop (32*((n-32)/32))).take 16)∧Rd8 w av nv cv (((M.take (n-32)).drop (32*((n-32)/32))).drop 16)∧nu≤16∧nv≤16∧Below w.heap.size w w'∧w.heap.size<w'.heap.size:=by
 obtain⟨W,hW⟩: ∃W,w.alloc (.cells (MSc (.slice none 0 0) (.slice none 0 0) (.slice none 0 0) (ac 8 16) (ac 8 16)) 373)=W:=⟨_,rfl⟩;obtain⟨b0,hb,hz⟩:=new1 _ _ _ _ hW;have hzero:(#[Value.slice none 0 0,Value.slice none 0 0,Value.slice none 0 0,Value.int IntKind.u8 0,Value.int IntKind.u8 0,Value.int IntKind.u8 0,Value.int IntKind.u8 0,Value.int IntKind.u8 0,Value.int IntKind.u8 0,Value.int IntKind.u8 0,Value.int IntKind.u8 0,Value.int IntKind.u8 0,Value.int IntKind.u8 0,Value.int IntKind.u8 0,Value.int IntKind.u8 0,Value.int IntKind.u8 0,Value.int IntKind.u8 0,Value.int IntKind.u8 0,Value.int IntKind.u8 0,Value.int IntKind.u8 0,Value.int IntKind.u8 0,Value.int IntKind.u8 0,Value.int IntKind.u8 0,Value.int IntKind.u8 0,Value.int IntKind.u8 0,Value.int IntKind.u8 0,Value.int IntKind.u8 0,Value.int IntKind.u8 0,Value.int IntKind.u8 0,Value.int IntKind.u8 0,Value.int IntKind.u8 0,Value.int IntKind.u8 0,Value.int IntKind.u8 0,Value.int IntKind.u8 0,Value.int IntKind.u8 0]:Array Value)=MSc (.slice none 0 0) (.slice none 0 0) (.slice none 0 0) (ac 8 16) (ac 8 16):=by kernel_rfl
 have hMl:=hr.1;obtain⟨L,hL⟩: ∃L,L=n-32:=⟨_,rfl⟩;obtain⟨x,hx⟩: ∃x,x=(M.drop (n-32)).take 16:=⟨_,rfl⟩;obtain⟨y,hy⟩: ∃y,y=(M.drop (n-16)).take 16:=⟨_,rfl⟩;have hxl:x.length=16:=by rw[hx,List.length_take,List.length_drop,hMl];omega
 have hyl:y.length=16:=by rw[hy,List.length_take,List.length_drop,hMl];omega
 have hlx:=fun(w1:World) (h:Rd8 w1 a n c M)=>xS M a n c 32 w1 h (.inr rfl) hn hn2;have hly:=fun(w1:World) (h:Rd8 w1 a n c M)=>xS M a n c 16 w1 h (.inl rfl) hn hn2;rw[←hx]at hlx⊢;rw[←hy]at hly⊢;rw[←hL];have LX:=hid hlx;have LY:=hid hly;have R0:=hid hr;have Z0:=hid b0;have B0:=hid hb;have HL:=hid hL;have HML:=hid hMl;have SZ:=hid hz;clear hlx hly hr b0 hb hL hx hy hMl hz;go_enter func308,ntmps308;go_wp2_with fail
 (try rw[hzero,hW])
 refine bd 0 (ApJ w M x y L) (fun a' _=>apMu (a'.tmps.getD 0 undef)) rfl (fun hrest=> ?_) ?_
 ·go_wp2_with fail;refine(LX.out W (R0.out.below B0.out)).mono ?_;rintro e w1 ⟨rfl,d1⟩;go_wp2_with fail;have E1:=B0.out.trans (d1.mono B0.out.size);refine(LY.out w1 (R0.out.below E1)).mono ?_;rintro e w2 ⟨rfl,d2⟩;have E2:=hid (E1.trans (d2.mono E1.size));have Z2:=hid ((Z0.out.belowAll d1).belowAll d2);clear d1 d2 E1 Z0 B0;have bm: ∀w,(sJ 373 (.agg (A8 x)) (.agg (A8 y))).run prog w= .ok (.agg (MSc (.slice none 0 0) (.slice none 0 0) (.slice none 0 0) x y)) w:=Ds x y hxl hyl;have hms:=ff hxl hyl (.slice none 0 0) (.slice none 0 0) (.slice none 0 0);have hms0:=ff (x:=ac 8 16) (y:=ac 8 16) rfl rfl (.slice none 0 0) (.slice none 0 0) (.slice none 0 0);have hmo:=sB none none none 0 0 0 0 0 0 x y;have f1:(n:Int)-32=(L:Int):=by have:=HL.out;omega
  have f2:IntKind.i64.wrap (L:Int)=(L:Int):=by rw[IntKind.wrap_i64];have:=HL.out;omega
  have hnc:=R0.out.2.1;have f3:(L:Int)≤(c:Int):=by have:=HL.out;omega
  have f4:(0:Int)≤(L:Int):=by omega
  go_wp2_with fail;refine wp_label ?_;simp only[Exit.then];refine ‹∀(a:Act) (w_1:World),Code.wp _ _ _ a w_1→_› _ _ (hrest _ _ ?_);have RL:=R0.out.pre (j:=L) (by have:=HL.out;omega);refine⟨0,L,w2.heap.size,c,0,a,none,aE _ rfl,rfl,by omega,by rw[Nat.mul_zero,List.drop_zero];exact RL,Z2.out.lt,Z2.out.alloc _,Blk.new _ _ _,OwnS.nil_ _ _ _ _,by simp[Value.ownBlock],E2.out.alloc E2.out.size _,?_⟩;have:=Z2.out.lt;simp;omega
 ·rintro a' wr ⟨j,r,gm,c1,cp,a1,ap,⟨u,rfl⟩,hrl,hj,hR,hgm,hZ,hM,hO,hne,hB,hS⟩;have Z1:=hid hZ;have M1:=hid hM;have O1:=hid hO;have B1:=hid hB;have S1:=hid hS;have R1':=hid hR;have HN:=hid hne;have HR:=hid hrl;have HJ:=hid hj;have hl1:=hR.1;have hrc:=hR.2.1;clear hZ hM hO hB hS hR hne hrl hj R0 Z0 B0 LX LY hzero SZ;have hj16:j≤16:=by have:=HJ.out;have:=HL.out;omega
  by_cases h32:32≤r
  ·have e1:(32:Int)≤(r:Int):=by omega
   have e2:(r:Int)≤(c1:Int):=by omega
   have e3:(16:Int)≤(r:Int):=by omega
   have e4:(16:Int)≤(c1:Int):=by omega
   have e5:(32:Int)≤(c1:Int):=by omega
   have hc16: ¬c1=16:=by omega
   obtain⟨b,o,rfl,_,_⟩:=R1'.out.2.2.2 (by omega);obtain⟨B,hBe⟩: ∃B,B=(M.take L).drop (32*j):=⟨_,rfl⟩;rw[←hBe]at R1' hl1;have R1:=R1';have rq:=R1.out.cut (j:=16) (k:=r) (by omega) (Nat.le_refl _);rw[if_neg hc16,List.take_of_length_le (by omega)]at rq;have rq':Rd8 w (some ⟨b,o+16,none⟩) (r-16) (c1-16) (B.drop 16):=rq;have RQ:=hid rq';obtain⟨X,hX⟩: ∃X,X=blk B:=⟨_,rfl⟩;obtain⟨Y,hY⟩: ∃Y,Y=blk (B.drop 16):=⟨_,rfl⟩;have hXl:X.length=16:=by rw[hX];exact aX _
   have hYl:Y.length=16:=by rw[hY];exact aX _
   have hXY:(X++Y).length=32:=by rw[List.length_append,hXl,hYl]
   have hst:M.take (32*j)++(X++Y)=M.take (32*(j+1)):=by
    have eX:X=B.take 16:=by
     rw[hX,←vU (B.take 16) (by rw[List.length_take];omega)];unfold blk;rw[List.take_take];rfl
    have eY:Y=(B.drop 16).take 16:=by
     rw[hY,←vU ((B.drop 16).take 16) (by rw[List.length_take,List.length_drop];omega)];unfold blk;rw[List.take_take];rfl
    have e32:X++Y=B.take 32:=by rw[eX,eY,←List.take_add]
    have:=HR.out;rw[e32,hBe,List.drop_take,List.take_take,show min 32 (L-32*j)=32 by omega,show 32*(j+1)=32*j+32 by omega,List.take_add]
   have HST:=hid hst;have HX:=hid hX.symm;have HY:=hid hY.symm;have HBE:=hid hBe;clear hst hX hY hBe rq rq';go_upto_region 4 with fail;refine ce [0,5,0,2,0,0,2,0,2,3,0,3] [0,1,2,4,5,10] [(3,2,_),(6,2,_),(7,0,_),(8,2,_)] (fun i=>if i=7 then [3,6]else if i=8 then [7]else []) [9,11] [_,_,_,_,_,_] [_,_] [0,5,0,0,0,0] [3,3] 4 rfl rfl rfl (by kernel_rfl) (by kernel_rfl) (by kernel_rfl) rfl rfl rfl (fun w1=>Below w.heap.size w w1∧Blk w1 gm 373 (MSc (.slice ap j cp) (.slice none 0 0) (.slice none 0 0) x y)) (fun _ _ h k=>⟨h.1.trans (Below.mono k h.1.size),h.2.belowAll k⟩) (⟨B1.out.drew,M1.out.drew⟩) (fun K' hK' => ?_);have Q1: ∀w1,(fun w1=>Below w.heap.size w w1∧Blk w1 gm 373 (MSc (.slice ap j cp) (.slice none 0 0) (.slice none 0 0) x y)) w1→w1.cell? ⟨gm,0,none⟩=some (.slice ap j cp):=fun w1 hw=>by rw[hw.2.cell,lV]
   repeat (first|((with_reducible refine hq0 ?_);refine hq0a ?_)|((with_reducible refine hq5 ?_);refine hq5a ?_ (fun _ hcw=>by have fQ1:=Q1 _ hcw;go_simp;(try go_bits);exact rfl))|((with_reducible refine hq1 ?_);refine hq1a ?_))
   refine aA ?_;clear Q1;generalize hAct:Act.mk _ _=act;obtain⟨u,rfl⟩: ∃u:Nat→Value,act={tmps:=(fun u:Nat→Value=>(Value.slice (some ⟨b,o,none⟩) r c1::u 1::Value.pointer (some ⟨w.heap.size,0,none⟩)::Value.pointer (some ⟨gm,0,none⟩)::u 4::u 5::u 6::u 7::u 8::u 9::u 10::u 11::u 12::u 13::u 14::u 15::u 16::u 17::Value.slice ap j cp::Value.slice (some ⟨b,o,none⟩) r c1::u 20::u 21::Value.slice (some ⟨b,o+16,none⟩) (r-16) (c1-16)::u 23::u 24::u 25::u 26::Value.pointer (some ⟨gm,0,none⟩)::u 28::u 29::u 30::u 31::u 32::u 33::u 34::u 35::u 36::u 37::u 38::u 39::u 40::u 41::u 42::[]).toArray) u,defers:=[]}:=by
    subst hAct;exact aE _ rfl
   clear hAct;obtain⟨St,hSt⟩: ∃St:(Nat→Bool)→Act→World→Prop,∀dn a' w',St dn a' w'↔(∃x20 x23 x24 x25:Value,a' ={tmps:=(Value.slice (some ⟨b,o,none⟩) r c1::u 1::Value.pointer (some ⟨w.heap.size,0,none⟩)::Value.pointer (some ⟨gm,0,none⟩)::u 4::u 5::u 6::u 7::u 8::u 9::u 10::u 11::u 12::u 13::u 14::u 15::u 16::u 17::Value.slice ap j cp::Value.slice (some ⟨b,o,none⟩) r c1::x20::u 21::Value.slice (some ⟨b,o+16,none⟩) (r-16) (c1-16)::x23::x24::x25::u 26::Value.pointer (some ⟨gm,0,none⟩)::u 28::u 29::u 30::u 31::u 32::u 33::u 34::u 35::u 36::u 37::u 38::u 39::u 40::u 41::u 42::[]).toArray,defers:=[]}∧(Below wr.drew.heap.size wr.drew w')∧(dn 3=true→x20= .agg (A8 X))∧(dn 6=true→x23= .agg (A8 Y))∧(dn 7=true→x24= .agg (A8 (X++Y)))∧(dn 8=true→ ∃g,x25= .slice (some ⟨g,0,none⟩) 1 1∧Blk w' g 383 (A8 (X++Y)))):=⟨_,fun _ _ _=>Iff.rfl⟩;refine dI (St:=St) [_,_,_,_] ⟨?ts1,?ts2,?ts3,?ts4,trivial⟩ ?tc ?td ?tn ?tR ?t0
   case t0=>exact(hSt _ _ _).2 ⟨_,_,_,_,rfl,Below.refl _ _,fun h=>Bool.noConfusion h,fun h=>Bool.noConfusion h,fun h=>Bool.noConfusion h,fun h=>Bool.noConfusion h⟩
   case tc=>
    intro dn a3 w3 hs;obtain⟨x20,x23,x24,x25,rfl,D3,h1,h2,h3,h4⟩:=(hSt _ _ _).1 hs;exact⟨B1.out.drew.trans (D3.mono B1.out.size),M1.out.drew.belowAll D3⟩
   case td=>decide
   case tn=>decide
   case ts1=>
    intro dn a3 w3 hn0 hd hs;obtain⟨x20,x23,x24,x25,rfl,D3,h1,h2,h3,h4⟩:=(hSt _ _ _).1 hs;clear hs;refine ai ?_;have E3:=B1.out.drew.trans (D3.mono B1.out.size);refine hqc ?_;go_simp;refine af ?_;refine(bD B (some ⟨b,o,none⟩) r c1 w3 (R1.out.below E3)).mono ?_;rintro e w4 ⟨rfl,d4⟩;refine⟨_,rfl,d4,?_⟩
    try simp only[Act.put,zz1,zz2,zz3]
    rw[HX.out];exact aA ((hSt _ _ _).2 ⟨_,_,_,_,rfl,D3.trans (d4.mono D3.size),fun _=>rfl,fun e=>h2 (by simpa using e),fun e=>h3 (by simpa using e),fun e=>(h4 (by simpa using e)).imp fun _ h=>⟨h.1,h.2.belowAll d4⟩⟩)
   case ts2=>
    intro dn a3 w3 hn0 hd hs;obtain⟨x20,x23,x24,x25,rfl,D3,h1,h2,h3,h4⟩:=(hSt _ _ _).1 hs;clear hs;refine ai ?_;have E3:=B1.out.drew.trans (D3.mono B1.out.size);refine hqc ?_;go_simp;refine af ?_;refine(bD (B.drop 16) (some ⟨b,o+16,none⟩) (r-16) (c1-16) w3 (RQ.out.below E3)).mono ?_;rintro e w4 ⟨rfl,d4⟩;refine⟨_,rfl,d4,?_⟩
    try simp only[Act.put,zz1,zz2,zz3]
    rw[HY.out];exact aA ((hSt _ _ _).2 ⟨_,_,_,_,rfl,D3.trans (d4.mono D3.size),fun e=>h1 (by simpa using e),fun _=>rfl,fun e=>h3 (by simpa using e),fun e=>(h4 (by simpa using e)).imp fun _ h=>⟨h.1,h.2.belowAll d4⟩⟩)
   case ts3=>
    intro dn a3 w3 hn0 hd hs;obtain⟨x20,x23,x24,x25,rfl,D3,h1,h2,h3,h4⟩:=(hSt _ _ _).1 hs;clear hs;obtain rfl:=h1 (hd 3 (by decide));obtain rfl:=h2 (hd 6 (by decide));refine ai ?_;have bp:=mv X Y hXl hYl;refine ze (v:= .agg (A8 (X++Y))) rfl (fun wq=>by rw[io];show((dM _ (.agg (A8 X)) (.agg (A8 Y))).run _ wq).andThen _=_;rw[bp];rfl) rfl ?_;simp only[Act.put,zz1,zz2,zz3];exact aA ((hSt _ _ _).2 ⟨_,_,_,_,rfl,D3,fun e=>h1 (by simpa using e),fun e=>h2 (by simpa using e),fun _=>rfl,fun e=>h4 (by simpa using e)⟩)
   case ts4=>
    intro dn a3 w3 hn0 hd hs;obtain⟨x20,x23,x24,x25,rfl,D3,h1,h2,h3,h4⟩:=(hSt _ _ _).1 hs;clear hs;obtain rfl:=h3 (hd 7 (by decide));refine ai ?_;refine Al (x:= .agg (A8 (X++Y))) (size:=32) rfl (by show(A8 (X++Y)).size=32;rw[ag,hXY]) (by omega) (by omega) underlying371 xU (fun w4 g4 b4 d4=> ?_);simp only[Act.put,zz1,zz2,zz3];exact aA ((hSt _ _ _).2 ⟨_,_,_,_,rfl,D3.trans (d4.mono D3.size),fun e=>h1 (by simpa using e),fun e=>h2 (by simpa using e),fun e=>h3 (by simpa using e),fun _=>⟨g4,rfl,b4⟩⟩)
   case tR=>
    intro dn a3 w3 hall hs;obtain⟨x20,x23,x24,x25,rfl,D3,h1,h2,h3,h4⟩:=(hSt _ _ _).1 hs;clear hs hSt;obtain rfl:=h1 (hall 3 (by simp));obtain rfl:=h2 (hall 6 (by simp));obtain rfl:=h3 (hall 7 (by simp));obtain⟨g4,rfl,b4⟩:=h4 (hall 8 (by simp));clear hall;refine jP ?_;have E3:=B1.out.drew.trans (D3.mono B1.out.size);have RB:=RdS.of_blk32 b4 hXY;refine jb (O1.out.drew.below D3) RB rfl rfl (by omega) (by omega) underlying371 xU (by omega) (Nat.le_trans S1.out D3.size) (fun w5 v5 o5 g5 d5=> ?_);simp only[Act.put,zz1,zz2,zz3];have M5:=(M1.out.drew.belowAll D3).grown g5 HN.out.symm;have E5:=E3.trans (d5.mono (Nat.le_succ _));refine az ⟨.inr ⟨E5,M5⟩,?_⟩;refine jP ?_;obtain⟨a5,c5,rfl,_,_⟩:=o5.rd;refine cl M5 rfl rfl (lV _ _ _ _ _) (sizeOf371 _) (fun w6 k6 g6 s6=> ?_);rw[FK]at k6;refine az ⟨.inl rfl,?_⟩;refine mu (hK' _ _ ?_);rw[HST.out]at o5;have hgm5:gm<w5.heap.size:=M5.lt;have hne5:Value.ownBlock (.slice a5 (j+1) c5)≠some gm:=OwnS.ne_blk o5 M5 (by decide);have O6:=hid (OwnS.kept_ o5 g6 hne5);have M6:=hid k6;have Z6:=hid (((Z1.out.drew.belowAll D3).grown g5 (O1.out.apart (Nat.lt_succ_self _))).grown g6 (by simp;omega));have B6:=hid (E5.trans (ae g6 (by omega) E5.size));have HN6:=hid hne5;clear hK' D3 E3 RB o5 g5 d5 M5 E5 k6 g6 s6 h1 h2 h3 h4 b4;go_wp2_with fail
    all_goals
     have rc:=R1.out.cut (j:=32) (k:=r) h32 (Nat.le_refl _);rw[List.take_of_length_le (by omega)]at rc
     first
      |(rw[if_neg (by assumption)]at rc)
      |(rw[if_pos (by omega)]at rc;rw[show c1-32=0 by omega]at rc)
     refine wp_goto ?_;refine⟨rfl,⟨j+1,r-32,gm,_,c5,_,a5,aE _ rfl,?_,?_,?_,hgm,Z6.out,M6.out,O6.out,HN6.out,B6.out,?_⟩,?_⟩
     ·have:=HR.out;omega
     ·have:=HR.out;have:=HJ.out;omega
     ·rw[HBE.out,List.drop_drop,show 32*j+32=32*(j+1) by omega]at rc;exact rc
     ·have:=Z6.out.lt;omega
     ·simp[apMu];omega
  ·have e1: ¬(32:Int)≤(r:Int):=by omega
   obtain⟨k,hk⟩: ∃k,k=min r 16:=⟨_,rfl⟩;have e2:min (r:Int) 16=(k:Int):=by omega
   have e3:(0:Int)≤(k:Int):=by omega
   have e4:(k:Int)≤(c1:Int):=by omega
   have e5:(k:Int)≤(r:Int):=by omega
   have e6:(r:Int)≤(c1:Int):=by omega
   have HK:=hid hk;have hkr:k≤r:=by omega
   clear hk;go_upto_region 6 with fail;refine aG [0,0,0,0,0,0,2] rfl (fun ops' K2 hK2=> ?_)
   repeat (first|((with_reducible refine zq0 ?_);refine zq0a ?_)|((with_reducible refine zq1 ?_);refine zq1a ?_))
   refine cl M1.out rfl rfl (sA _ _ _ _ _) (sizeOf22 _) (fun w6 k6 g6 s6=> ?_);refine az (hK2 _ _ ?_);rw[xQ]at k6;have M6:=hid k6;have O6:=hid (OwnS.kept_ O1.out g6 HN.out);have Z6:=hid (Z1.out.grown g6 (by simp;omega));have B6:=hid (B1.out.trans (ae g6 (by omega) B1.out.size));clear k6 g6 s6 hK2 M1 O1 Z1 B1;have c1':w6.cell? ⟨gm,1,none⟩=some (.slice a1 k c1):=by rw[M6.out.cell,sA]
   go_upto_region 7 with fail;refine aG [0,0,1,0,0,0,2] rfl (fun ops' K2 hK2=> ?_)
   repeat (first|((with_reducible refine zq0 ?_);refine zq0a ?_)|((with_reducible refine zq1 ?_);refine zq1a ?_))
   refine cl (ad:=if c1=k then a1 else a1.map (·.add k)) (n:=r-k) (c:=c1-k) M6.out rfl rfl (uL _ _ _ _ _) (sizeOf22 _) (fun w7 k7 g7 s7=> ?_);refine az (hK2 _ _ ?_);rw[xR]at k7;obtain⟨A2,hA2⟩: ∃A2,A2=(if c1=k then a1 else a1.map (·.add k)):=⟨_,rfl⟩;rw[←hA2]at k7
   (try rw[←hA2])
   have RU:=hid (R1'.out.pre (j:=k) hkr);have rv:=R1'.out.cut (j:=k) (k:=r) hkr (Nat.le_refl _);rw[List.take_of_length_le (by omega),←hA2]at rv;have RV:=hid rv;have M7:=hid k7;have O7:=hid (OwnS.kept_ O6.out g7 HN.out);have Z7:=hid (Z6.out.grown g7 (by simp;omega));have B7:=hid (B6.out.trans (ae g7 (by omega) B6.out.size));clear k7 g7 s7 hK2 M6 O6 Z6 B6 rv hA2 c1';have rr:=M7.out.getMS hxl hyl;have rz:=Z7.out.row;have rw3:=Z7.out.whole;have hms:=ff hxl hyl (.slice ap j cp) (.slice a1 k c1) (.slice A2 (r-k) (c1-k));have hms0:=ff (x:=ac 8 16) (y:=ac 8 16) rfl rfl (.slice none 0 0) (.slice none 0 0) (.slice none 0 0);have hmo:=sB ap a1 A2 j k (r-k) cp c1 (c1-k) x y;have O8:=hid ((OwnS.kept_ O7.out (aK w7 w.heap.size (MSc (.slice ap j cp) (.slice a1 k c1) (.slice A2 (r-k) (c1-k)) x y)) (fun e=>O7.out.apart (Nat.lt_succ_self _) e.symm)).base (Nat.le_succ _));have B8:=hid (below_setRow B7.out (Nat.le_refl _) (MSc (.slice ap j cp) (.slice a1 k c1) (.slice A2 (r-k) (c1-k)) x y));have L8:=hid ((Z7.out.put (MSc (.slice ap j cp) (.slice a1 k c1) (.slice A2 (r-k) (c1-k)) x y)).lt);have r8:=(Z7.out.put (MSc (.slice ap j cp) (.slice a1 k c1) (.slice A2 (r-k) (c1-k)) x y)).row;have eq1:j=L/32:=by have:=HR.out;have:=HJ.out;omega
   have eU:((M.take L).drop (32*j)).take k=((M.take L).drop (32*(L/32))).take 16:=by
    rw[←eq1];have:=HK.out;by_cases h16:16≤r
    ·rw[show k=16 by omega]
    ·rw[show k=r by omega,List.take_of_length_le (l:=(M.take L).drop (32*j)) (by omega),List.take_of_length_le (l:=(M.take L).drop (32*j)) (by omega)]
   have eV:((M.take L).drop (32*j)).drop k=((M.take L).drop (32*(L/32))).drop 16:=by
    rw[←eq1];have:=HK.out;by_cases h16:16≤r
    ·rw[show k=16 by omega]
    ·rw[show k=r by omega,List.drop_eq_nil_of_le (by omega),List.drop_eq_nil_of_le (by omega)]
   have EQ:=hid (And.intro eq1 (And.intro eU eV));clear eq1 eU eV M7 O7 B7;go_wp2;simp only[Exit.jump];refine aj (MSc (.slice ap j cp) (.slice a1 k c1) (.slice A2 (r-k) (c1-k)) x y) rfl rfl rfl (isAgg373 _) (sizeOf373 _) hms r8 ?_;have h1:=EQ.out.1;have h2:=EQ.out.2.1;have h3:=EQ.out.2.2;have hU:=RU.out;have hV:=RV.out;rw[h2]at hU;rw[h3]at hV;exact⟨ap,a1,A2,cp,k,c1,r-k,c1-k,by rw[←h1],by rw[←h1];exact O8.out,hU,hV,by have:=HK.out;omega,by have:=HK.out;omega,B8.out,L8.out⟩
open Go.RowKit
theorem uM(B:Y8)(a:Option Addr)(n c:Nat)(w:World)(hr:Rd8 w a n c B)(hn:n≤1000):
  Calls prog 322 #[.slice a n c] w fun e w' =>e= .returned (.agg (A8 (blk (jp B))))∧Below w.heap.size w w':=by
 obtain⟨W,hW⟩: ∃W,w.alloc (.cells (A8 (ac 8 16)) 42)=W:=⟨_,rfl⟩;obtain⟨b0,hb,hz⟩:=new1 _ _ _ _ hW;have Z0:=hid b0;have B0:=hid hb;have R0:=hid hr;have hBl:=hr.1;have HBL:=hid hBl;clear b0 hb hz hr hBl;go_enter func322,ntmps322;go_wp2_with fail;refine(mb B a n c 16 128#8 W (R0.out.below B0.out) (by omega) (by omega) (by omega)).mono ?_;rintro e w1 ⟨v1,rfl,o1,d1⟩;obtain⟨a1,c1,rfl,hr1,_⟩:=o1.rd;have eM:B++ [128#8]++ac 8 (bV (n+1) 16)=jp B:=by rw[jp,HBL.out]
 rw[eM]at hr1⊢;obtain⟨X,hX⟩: ∃X,X=blk (jp B):=⟨_,rfl⟩;have hXl:X.length=16:=by rw[hX];exact aX _
 have HX:=hid hX.symm;have R1:=hid hr1;have Z1:=hid (Z0.out.belowAll d1);have B1:=hid (B0.out.trans (d1.mono B0.out.size));clear hX hr1 o1 d1 eM Z0 B0;obtain⟨MB,hMB⟩: ∃MB,MB=jp B:=⟨_,rfl⟩;rw[←hMB]at R1 HX⊢;obtain⟨lm,hlm⟩: ∃lm,lm=MB.length:=⟨_,rfl⟩;rw[←hlm]at R1⊢;have HM:=hid hMB;clear hMB hlm;go_wp2_with fail;refine(bD MB a1 lm c1 w1 R1.out).mono ?_;rintro e w2 ⟨rfl,d2⟩;rw[HX.out];have Z2:=Z1.out.belowAll d2;have rr:=Z2.row;have rw3:=Z2.whole;have k2:=(Z2.put (A8 X)).row;have B2:=hid (below_setRow (B1.out.trans (d2.mono B1.out.size)) (Nat.le_refl _) (A8 X));clear Z2 Z1 B1 d2;go_wp2;refine aj (A8 X) rfl rfl rfl (isAgg42 _) (sizeOf42 _) (by rw[ag];exact hXl) k2 ⟨by rw[←HM.out,HX.out],B2.out⟩
def bJ(E:Int→Nat→Y8→Y8)(u v:Y8):Y8:=
 if u.length=0 then ac 8 16 else if u.length=16 then ar (E 0 4 (blk u)) (E 0 5 (blk (jp v)))else E 0 4 (blk (jp u))
theorem nl(E:Int→Nat→Y8→Y8)(hE: ∀j i x,(E j i x).length=16)(u v:Y8):(bJ E u v).length=16:=by
 unfold bJ;split
 ·rfl
 ·split
  ·exact ak _ _
  ·exact hE _ _ _
theorem FN(p pt:Nat)(I J L U V x y:Y8)(ps:Value)(au av:Option Addr)(nu cu nv cv:Nat)(w:World)(H:EzAt w p pt I J L)(hU:Rd8 w au nu cu U)(hV:Rd8 w av nv cv V)(hu:nu≤16)(hv:nv≤16):
  Calls prog 311 #[.agg (MSc ps (.slice au nu cu) (.slice av nv cv) x y),.pointer (some ⟨p,0,none⟩)] w fun e w' =>e= .returned (.agg (A8 (bJ (ezE I J L) U V)))∧Below w.heap.size w w':=by
 obtain⟨W,hW⟩: ∃W,(w.alloc (.cells (MSc ps (.slice au nu cu) (.slice av nv cv) x y) 373)).alloc (.cells (A8 (ac 8 16)) 42)=W:=⟨_,rfl⟩;obtain⟨b0,b1,hb,hz⟩:=new2 _ _ _ _ _ _ hW;have HK:=hid H;have M0:=hid b0;have Z0:=hid b1;have B0:=hid hb;have RU:=hid hU;have RV:=hid hV;have hUl:=hU.1;have HUL:=hid hUl;have cu1:W.cell? ⟨w.heap.size,1,none⟩=some (.slice au nu cu):=by rw[b0.cell,sA]
 have cv1:W.cell? ⟨w.heap.size,2,none⟩=some (.slice av nv cv):=by rw[b0.cell,uL]
 clear b0 b1 hb hz H hU hV hUl;have hEl:=hid (cZ I J L);obtain⟨E,hE⟩: ∃E,E=ezE I J L:=⟨_,rfl⟩;have hEc: ∀(j i:Nat) (x:Y8) (w1:World),Below w.heap.size w w1→j≤10→i≤1000→x.length=16→Calls prog 312 #[.pointer (some ⟨p,0,none⟩),.int .i64 (j:Int),.int .i64 (i:Int),.agg (A8 x)] w1 fun e w' =>e= .returned (.agg (A8 (E j i x)))∧Below w1.heap.size w1 w':=by
  intro j i x w1 hb hj hi hx;rw[hE];exact oz p pt j i I J L x w1 (HK.out.below hb) (by omega) hi hx
 have EC:=hid hEc;rw[←hE]at hEl⊢;clear hE hEc;go_enter func311,ntmps311;by_cases h0:nu=0
 ·subst h0;have r2:=Z0.out.row;have r3:=Z0.out.whole;have hzl:(ac 8 16).length=16:=rfl;have hT:bJ E U V=ac 8 16:=by rw[bJ,if_pos HUL.out]
  have HT:=hid hT;clear hT;go_wp2;refine aj (A8 (ac 8 16)) rfl rfl rfl (isAgg42 _) (sizeOf42 _) (by rw[ag];rfl) (an _ r3) ⟨by rw[HT.out],below_setRow B0.out (by omega) _⟩
 ·by_cases h16:nu=16
  ·have e0: ¬(nu:Int)=0:=by omega
   have e16:(nu:Int)=16:=by omega
   obtain⟨bu,hbu⟩: ∃bu,bu=blk U:=⟨_,rfl⟩;obtain⟨bv,hbv⟩: ∃bv,bv=blk (jp V):=⟨_,rfl⟩;obtain⟨X,hX⟩: ∃X,X=E ((0:Nat):Int) 4 bu:=⟨_,rfl⟩;obtain⟨Y,hY⟩: ∃Y,Y=E ((0:Nat):Int) 5 bv:=⟨_,rfl⟩;obtain⟨R,hR⟩: ∃R,R=ar X Y:=⟨_,rfl⟩;have hbul:bu.length=16:=by rw[hbu];exact aX _
   have hbvl:bv.length=16:=by rw[hbv];exact aX _
   have hXl:X.length=16:=by rw[hX];exact hEl.out _ _ _
   have hYl:Y.length=16:=by rw[hY];exact hEl.out _ _ _
   have hRl:R.length=16:=by rw[hR];exact ak _ _
   have hRR:R=bJ E U V:=by rw[bJ,if_neg (by rw[HUL.out];omega),if_pos (by rw[HUL.out];exact h16),hR,hX,hY,hbu,hbv]<;>rfl
   have HBU:=hid hbu.symm;have HBV:=hid hbv.symm;have HX:=hid hX.symm;have HY:=hid hY.symm;have HR:=hid hR.symm;have HRR:=hid hRR.symm;clear hbu hbv hX hY hR hRR h0 h16;go_upto_region 6 with fail;refine aQ [0,0,5,2,2,0,0,0,5,2,2,2,2,3] [0,1,2,5,6,7,8] [(3,2,_),(4,2,_),(9,2,_),(10,2,_),(11,2,_),(12,2,_)] (fun i=>if i=4 then [3]else if i=10 then [9]else if i=11 then [4,10]else if i=12 then [11]else []) [13] [_,_,_,_,_,_,_] [_] [0,0,5,0,0,0,5] [3] 6 rfl rfl rfl (by kernel_rfl) (by kernel_rfl) (by kernel_rfl) rfl rfl rfl (fun w1=>Below w.heap.size w w1∧Blk w1 w.heap.size 373 (MSc ps (.slice au nu cu) (.slice av nv cv) x y)) (fun _ _ h k=>⟨h.1.trans (Below.mono k h.1.size),h.2.belowAll k⟩) (⟨B0.out.drew,M0.out.drew⟩) (fun K' hK' => ?_);have Q1: ∀w1,(fun w1=>Below w.heap.size w w1∧Blk w1 w.heap.size 373 (MSc ps (.slice au nu cu) (.slice av nv cv) x y)) w1→w1.cell? ⟨w.heap.size,1,none⟩=some (.slice au nu cu):=fun w1 hw=>by rw[hw.2.cell,sA]
   have Q2: ∀w1,(fun w1=>Below w.heap.size w w1∧Blk w1 w.heap.size 373 (MSc ps (.slice au nu cu) (.slice av nv cv) x y)) w1→w1.cell? ⟨w.heap.size,2,none⟩=some (.slice av nv cv):=fun w1 hw=>by rw[hw.2.cell,uL]
   repeat (first|((with_reducible refine hq0 ?_);refine hq0a ?_)|((with_reducible refine hq5 ?_);refine hq5a ?_ (fun _ hcw=>by have fQ1:=Q1 _ hcw;have fQ2:=Q2 _ hcw;go_simp;(try go_bits);exact rfl))|((with_reducible refine hq1 ?_);refine hq1a ?_))
   refine aA ?_;clear Q1 Q2;generalize hAct:Act.mk _ _=act;obtain⟨u,rfl⟩: ∃u:Nat→Value,act={tmps:=(fun u:Nat→Value=>(u 0::Value.pointer (some ⟨p,0,none⟩)::Value.pointer (some ⟨w.heap.size,0,none⟩)::u 3::Value.pointer (some ⟨w.heap.size+1,0,none⟩)::u 5::u 6::u 7::u 8::u 9::u 10::u 11::u 12::u 13::Value.pointer (some ⟨p,0,none⟩)::u 15::Value.slice au nu cu::u 17::u 18::Value.pointer (some ⟨p,0,none⟩)::Value.func (.func 322) #[] #[]::u 21::Value.slice av nv cv::u 23::u 24::u 25::u 26::u 27::u 28::u 29::u 30::u 31::u 32::[]).toArray) u,defers:=[]}:=by
    subst hAct;exact aE _ rfl
   clear hAct;obtain⟨St,hSt⟩: ∃St:(Nat→Bool)→Act→World→Prop,∀dn a' w',St dn a' w'↔(∃x17 x18 x23 x24 x25 x26:Value,a' ={tmps:=(u 0::Value.pointer (some ⟨p,0,none⟩)::Value.pointer (some ⟨w.heap.size,0,none⟩)::u 3::Value.pointer (some ⟨w.heap.size+1,0,none⟩)::u 5::u 6::u 7::u 8::u 9::u 10::u 11::u 12::u 13::Value.pointer (some ⟨p,0,none⟩)::u 15::Value.slice au nu cu::x17::x18::Value.pointer (some ⟨p,0,none⟩)::Value.func (.func 322) #[] #[]::u 21::Value.slice av nv cv::x23::x24::x25::x26::u 27::u 28::u 29::u 30::u 31::u 32::[]).toArray,defers:=[]}∧Below W.drew.heap.size W.drew w'∧(dn 3=true→x17= .agg (A8 bu))∧(dn 4=true→x18= .agg (A8 X))∧(dn 9=true→x23= .agg (A8 bv))∧(dn 10=true→x24= .agg (A8 Y))∧(dn 11=true→ ∃g,x25= .slice (some ⟨g,0,none⟩) 2 2∧Blk w' g 42 (A8 (X++Y)))∧(dn 12=true→x26= .agg (A8 R))):=⟨_,fun _ _ _=>Iff.rfl⟩;refine cG (St:=St) [_,_,_,_,_,_] ⟨?ts1,?ts2,?ts3,?ts4,?ts5,?ts6,trivial⟩ ?td ?tn ?tR ?t0
   case t0=>exact(hSt _ _ _).2 ⟨_,_,_,_,_,_,rfl,Below.refl _ _,fun h=>Bool.noConfusion h,fun h=>Bool.noConfusion h,fun h=>Bool.noConfusion h,fun h=>Bool.noConfusion h,fun h=>Bool.noConfusion h,fun h=>Bool.noConfusion h⟩
   case td=>decide
   case tn=>decide
   case ts1=>
    intro dn a3 w3 hd hs;obtain⟨x17,x18,x23,x24,x25,x26,rfl,D3,h1,h2,h3,h4,h5,h6⟩:=(hSt _ _ _).1 hs;clear hs;clear hd;refine ai ?_;have E3:=B0.out.drew.trans (D3.mono B0.out.size);refine hqc ?_;go_simp;refine af ?_;refine(bD U au nu cu w3 (RU.out.below E3)).mono ?_;rintro e w4 ⟨rfl,d4⟩;refine⟨_,rfl,d4,?_⟩
    try simp only[Act.put,zz1,zz2,zz3]
    rw[HBU.out];exact aA ((hSt _ _ _).2 ⟨_,_,_,_,_,_,rfl,D3.trans (d4.mono D3.size),fun _=>rfl,fun e=>h2 (by simpa using e),fun e=>h3 (by simpa using e),fun e=>h4 (by simpa using e),fun e=>(h5 (by simpa using e)).imp fun _ h=>⟨h.1,h.2.belowAll d4⟩,fun e=>h6 (by simpa using e)⟩)
   case ts2=>
    intro dn a3 w3 hd hs;obtain⟨x17,x18,x23,x24,x25,x26,rfl,D3,h1,h2,h3,h4,h5,h6⟩:=(hSt _ _ _).1 hs;clear hs;obtain rfl:=h1 (hd 3 (by decide));clear hd;refine ai ?_;have E3:=B0.out.drew.trans (D3.mono B0.out.size);refine hqc ?_;go_simp;refine af ?_;refine(EC.out 0 4 bu w3 E3 (by omega) (by omega) hbul).mono ?_;rintro e w4 ⟨rfl,d4⟩;refine⟨_,rfl,d4,?_⟩
    try simp only[Act.put,zz1,zz2,zz3]
    rw[HX.out];exact aA ((hSt _ _ _).2 ⟨_,_,_,_,_,_,rfl,D3.trans (d4.mono D3.size),fun e=>h1 (by simpa using e),fun _=>rfl,fun e=>h3 (by simpa using e),fun e=>h4 (by simpa using e),fun e=>(h5 (by simpa using e)).imp fun _ h=>⟨h.1,h.2.belowAll d4⟩,fun e=>h6 (by simpa using e)⟩)
   case ts3=>
    intro dn a3 w3 hd hs;obtain⟨x17,x18,x23,x24,x25,x26,rfl,D3,h1,h2,h3,h4,h5,h6⟩:=(hSt _ _ _).1 hs;clear hs;clear hd;refine ai ?_;have E3:=B0.out.drew.trans (D3.mono B0.out.size);refine hqc ?_;go_simp;refine af ?_;refine(uM V av nv cv w3 (RV.out.below E3) (by omega)).mono ?_;rintro e w4 ⟨rfl,d4⟩;refine⟨_,rfl,d4,?_⟩
    try simp only[Act.put,zz1,zz2,zz3]
    rw[HBV.out];exact aA ((hSt _ _ _).2 ⟨_,_,_,_,_,_,rfl,D3.trans (d4.mono D3.size),fun e=>h1 (by simpa using e),fun e=>h2 (by simpa using e),fun _=>rfl,fun e=>h4 (by simpa using e),fun e=>(h5 (by simpa using e)).imp fun _ h=>⟨h.1,h.2.belowAll d4⟩,fun e=>h6 (by simpa using e)⟩)
   case ts4=>
    intro dn a3 w3 hd hs;obtain⟨x17,x18,x23,x24,x25,x26,rfl,D3,h1,h2,h3,h4,h5,h6⟩:=(hSt _ _ _).1 hs;clear hs;obtain rfl:=h3 (hd 9 (by decide));clear hd;refine ai ?_;have E3:=B0.out.drew.trans (D3.mono B0.out.size);refine hqc ?_;go_simp;refine af ?_;refine(EC.out 0 5 bv w3 E3 (by omega) (by omega) hbvl).mono ?_;rintro e w4 ⟨rfl,d4⟩;refine⟨_,rfl,d4,?_⟩
    try simp only[Act.put,zz1,zz2,zz3]
    rw[HY.out];exact aA ((hSt _ _ _).2 ⟨_,_,_,_,_,_,rfl,D3.trans (d4.mono D3.size),fun e=>h1 (by simpa using e),fun e=>h2 (by simpa using e),fun e=>h3 (by simpa using e),fun _=>rfl,fun e=>(h5 (by simpa using e)).imp fun _ h=>⟨h.1,h.2.belowAll d4⟩,fun e=>h6 (by simpa using e)⟩)
   case ts5=>
    intro dn a3 w3 hd hs;obtain⟨x17,x18,x23,x24,x25,x26,rfl,D3,h1,h2,h3,h4,h5,h6⟩:=(hSt _ _ _).1 hs;clear hs;obtain rfl:=h2 (hd 4 (by decide));obtain rfl:=h4 (hd 10 (by decide));clear hd;refine ai ?_;refine gu (x:= .agg (A8 X)) (y:= .agg (A8 Y)) (size:=16) rfl rfl (by show(A8 X).size=16;rw[ag,hXl]) (by show(A8 Y).size=16;rw[ag,hYl]) (by omega) (by omega) underlying39 bN (fun w4 g4 b4 d4=> ?_);simp only[Act.put,zz1,zz2,zz3];rw[show(Value.agg (A8 X)).cells++(Value.agg (A8 Y)).cells=A8 (X++Y) from aN X Y]at b4;exact aA ((hSt _ _ _).2 ⟨_,_,_,_,_,_,rfl,D3.trans (d4.mono D3.size),fun e=>h1 (by simpa using e),fun e=>h2 (by simpa using e),fun e=>h3 (by simpa using e),fun e=>h4 (by simpa using e),fun _=>⟨g4,rfl,b4⟩,fun e=>h6 (by simpa using e)⟩)
   case ts6=>
    intro dn a3 w3 hd hs;obtain⟨x17,x18,x23,x24,x25,x26,rfl,D3,h1,h2,h3,h4,h5,h6⟩:=(hSt _ _ _).1 hs;clear hs;obtain⟨g5,rfl,b5⟩:=h5 (hd 11 (by decide));clear hd;refine ai ?_;refine hqc ?_;go_simp;refine af ?_;refine(bX (X++Y) g5 2 2 w3 (RdS.of_blk b5 (by rw[List.length_append,hXl,hYl]) (by omega)) (by omega)).mono ?_;rintro e w4 ⟨rfl,d4⟩;refine⟨_,rfl,d4,?_⟩
    try simp only[Act.put,zz1,zz2,zz3]
    rw[dW X Y hXl hYl,HR.out];exact aA ((hSt _ _ _).2 ⟨_,_,_,_,_,_,rfl,D3.trans (d4.mono D3.size),fun e=>h1 (by simpa using e),fun e=>h2 (by simpa using e),fun e=>h3 (by simpa using e),fun e=>h4 (by simpa using e),fun e=>(h5 (by simpa using e)).imp fun _ h=>⟨h.1,h.2.belowAll d4⟩,fun _=>rfl⟩)
   case tR=>
    intro dn a3 w3 hall hs;obtain⟨x17,x18,x23,x24,x25,x26,rfl,D3,h1,h2,h3,h4,h5,h6⟩:=(hSt _ _ _).1 hs;clear hs hSt;obtain rfl:=h1 (hall 3 (by simp));obtain rfl:=h2 (hall 4 (by simp));obtain rfl:=h3 (hall 9 (by simp));obtain rfl:=h4 (hall 10 (by simp));obtain⟨g5,rfl,b5⟩:=h5 (hall 11 (by simp));obtain rfl:=h6 (hall 12 (by simp));clear hall;refine bI ?_;refine aq (Z0.out.drew.belowAll D3) rfl rfl (by rw[ag,ag,hRl,ah]) (aH _) (by rw[ag,hRl];exact sizeOf42 _) (fun w4 k4 g5 s4=> ?_);have E3:=B0.out.drew.trans (D3.mono B0.out.size);have BD:=E3.trans (ae g5 (by omega) E3.size);refine az ⟨⟨BD,(M0.out.drew.belowAll D3).grown g5 (by simp)⟩,?_⟩;refine cQ (hK' _ _ ?_);have r3:=k4.row;have BB:=hid BD;clear hK' D3 E3 BD g5 s4 k4;go_wp2;refine aj (A8 R) rfl rfl rfl (isAgg42 _) (sizeOf42 _) (by rw[ag];exact hRl) r3 ⟨by rw[HRR.out],BB.out⟩
  ·have e1: ¬(nu:Int)=0:=by omega
   have e2: ¬(nu:Int)=16:=by omega
   obtain⟨bu,hbu⟩: ∃bu,bu=blk (jp U):=⟨_,rfl⟩;obtain⟨X,hX⟩: ∃X,X=E ((0:Nat):Int) 4 bu:=⟨_,rfl⟩;have hbul:bu.length=16:=by rw[hbu];exact aX _
   have hXl:X.length=16:=by rw[hX];exact hEl.out _ _ _
   have hRR:X=bJ E U V:=by rw[bJ,if_neg (by rw[HUL.out];omega),if_neg (by rw[HUL.out];omega),hX,hbu]<;>rfl
   have HBU:=hid hbu.symm;have HX:=hid hX.symm;have HRR:=hid hRR.symm;clear hbu hX hRR;go_wp2_with fail;refine(uM U au nu cu W (RU.out.below B0.out) (by omega)).mono ?_;rintro e w1 ⟨rfl,d1⟩;rw[HBU.out];have Z1:=hid (Z0.out.belowAll d1);have B1:=hid (B0.out.trans (d1.mono B0.out.size));clear d1 cu1 cv1 Z0 B0 hW;go_wp2_with fail;refine(EC.out 0 4 bu w1 B1.out (by omega) (by omega) hbul).mono ?_;rintro e w2 ⟨rfl,d2⟩;rw[HX.out];have Z2:=Z1.out.belowAll d2;have rr:=Z2.row;have rw3:=Z2.whole;have k2:=(Z2.put (A8 X)).row;have B2:=hid (below_setRow (B1.out.trans (d2.mono B1.out.size)) (show w.heap.size≤w.heap.size+1 by omega) (A8 X));clear Z2 Z1 B1 d2;go_wp2;refine aj (A8 X) rfl rfl rfl (isAgg42 _) (sizeOf42 _) (by rw[ag];exact hXl) k2 ⟨by rw[HRR.out],B2.out⟩
open Go.RowKit
section
variable {P:Program} {ops:Array Oper} {K:Act→World→Prop} {ks:List Nat} {l:List Oper} {a:Act} {w:World}
theorem Ao {d:Option Tmp} {p q:Operand} {t ty e:TypeId} {pos:String} {after:Array Edge} {x y z:Value} {size bytes:Nat}(hp:a.eval p=x)(hq:a.eval q=y)(hx:x.cells.size=size)(hy:y.cells.size=size)(h0:0<size)(h1:size≤1000)(ht:P.underlying t=some (.slice e))(hi:(P.info? e).map (fun i=>(i.zero,i.size,i.bytes))=some (some z,size,bytes))
  (h: ∀w1 g,Blk w1 g e (x.cells++y.cells)→Below w.heap.size w w1→wpZ P ops K ks l (a.put d (.slice (some ⟨g,0,none⟩) 2 2)) w1):
  wpZ P ops K (2::ks) (⟨d,.buildSlice t 2 #[(0,p),(1,q)],ty,pos,after,none⟩::l) a w:=by
 obtain⟨i,hi,hz,hs,_⟩:=info_parts hi;have hr:(execOp a.eval ⟨d,.buildSlice t 2 #[(0,p),(1,q)],ty,pos,after,none⟩).run P w= .ok (.value (.slice (some ⟨w.heap.size,0,none⟩) 2 2)) (w.alloc (.cells (x.cells++y.cells) e)):=by
  simp only[execOp,List.map_toArray,List.map_cons,List.map_nil,hp,hq,Sem.run_bind,gI w t e 2 size z #[(0,x),(1,y)] (x.cells++y.cells) ht i hi hz hs (by omega) (by omega) (fun cs hc=>xy cs size x y hx hy hc),Result.andThen_ok,Sem.run_pure]
 have hbel:Below w.heap.size w (w.alloc (.cells (x.cells++y.cells) e)):=(Below.refl _ _).alloc (Nat.le_refl _) _;exact oV rfl hr (h _ _ (Blk.new _ _ _) hbel)
theorem FO {d:Option Tmp} {p:Operand} {t ty e:TypeId} {pos:String} {after:Array Edge} {x z0:Value} {size bytes:Nat}(hp:a.eval p=x)(hx:x.cells.size=size)(h0:0<size)(h1:size≤1000)(ht:P.underlying t=some (.slice e))(hi:(P.info? e).map (fun i=>(i.zero,i.size,i.bytes))=some (some z0,size,bytes))
  (h: ∀w1 g,Blk w1 g e x.cells→Below w.heap.size w w1→wpZ P ops K ks l (a.put d (.slice (some ⟨g,0,none⟩) 1 1)) w1):
  wpZ P ops K (2::ks) (⟨d,.buildSlice t 1 #[(0,p)],ty,pos,after,none⟩::l) a w:=by
 obtain⟨i,hi,hz,hs,_⟩:=info_parts hi;have hr:(execOp a.eval ⟨d,.buildSlice t 1 #[(0,p)],ty,pos,after,none⟩).run P w= .ok (.value (.slice (some ⟨w.heap.size,0,none⟩) 1 1)) (w.alloc (.cells x.cells e)):=by
  simp only[execOp,List.map_toArray,List.map_cons,List.map_nil,hp,Sem.run_bind,gI w t e 1 size z0 #[(0,x)] x.cells ht i hi hz hs (by omega) (by omega) (fun cs hc=>Jh cs size x hx hc),Result.andThen_ok,Sem.run_pure]
 have hbel:Below w.heap.size w (w.alloc (.cells x.cells e)):=(Below.refl _ _).alloc (Nat.le_refl _) _;exact oV rfl hr (h _ _ (Blk.new _ _ _) hbel)
end
def PrAt(w:World)(g np:Nat)(P:Y8):Prop:=P.length=32*np∧ ∃cur:Array Value,Blk w g 383 cur∧cur.toList.take (32*np)=P.map v8
theorem PrAt.below {w w':World} {g np:Nat} {P:Y8}(h:PrAt w g np P)(hb:Below w.heap.size w w'):PrAt w' g np P:=by
 obtain⟨h1,cur,h2,h3⟩:=h;exact⟨h1,cur,h2.belowAll hb,h3⟩
theorem PrAt.drew {w:World} {g np:Nat} {P:Y8}(h:PrAt w g np P):PrAt w.drew g np P:=h
theorem PrAt.alloc {w:World} {g np:Nat} {P:Y8}(h:PrAt w g np P)(o:Obj):PrAt (w.alloc o) g np P:=h.below ((Below.refl _ _).alloc (Nat.le_refl _) _)
theorem PrAt.grown {w w':World} {g np:Nat} {r:Option Nat} {P:Y8}(h:PrAt w g np P)(hg:w.grownBy w' r)(hr:some g≠r):PrAt w' g np P:=by
 obtain⟨h1,cur,h2,h3⟩:=h;exact⟨h1,cur,h2.grown hg hr,h3⟩
theorem PrAt.lt {w:World} {g np:Nat} {P:Y8}(h:PrAt w g np P):g<w.heap.size:=by
 obtain⟨h1,cur,h2,h3⟩:=h;exact h2.lt
theorem PrAt.rd {w:World} {g np:Nat} {P:Y8}(h:PrAt w g np P)(hn:np≤1000):RdS w 16 (some ⟨g,0,none⟩) (2*np) (2*np) P:=by
 obtain⟨h1,cur,h2,h3⟩:=h;refine⟨by omega,Nat.le_refl _,by unfold maxLen;omega,fun _=>⟨g,0,rfl,h2.lt,fun i hi=> ?_⟩⟩;rw[Nat.zero_add,h2.cell];have h4:(cur.toList.take (32*np))[i]? =some (v8 (nth P i)):=by
  rw[h3,List.getElem?_map,eH (by omega)];rfl
 rw[List.getElem?_take]at h4
 split at h4
 ·simpa using h4
 ·cases h4
theorem PrAt.rd32 {w:World} {g np c:Nat} {P:Y8}(h:PrAt w g np P)(hc:np≤c)(hn:32*c≤maxLen):RdS w 32 (some ⟨g,0,none⟩) np c P:=by
 obtain⟨h1,cur,h2,h3⟩:=h;refine⟨by omega,hc,by omega,fun _=>⟨g,0,rfl,h2.lt,fun i hi=> ?_⟩⟩;rw[Nat.zero_add,h2.cell];have h4:(cur.toList.take (32*np))[i]? =some (v8 (nth P i)):=by
  rw[h3,List.getElem?_map,eH (by omega)];rfl
 rw[List.getElem?_take]at h4
 split at h4
 ·simpa using h4
 ·cases h4
theorem jr(w:World)(g j np:Nat)(P X:Y8)(hb:PrAt w g np P)(hj:j<np)(hX:X.length=32):
  ∃w',(bR 383 (.pointer (some ⟨g,j*32,none⟩)) (.agg (A8 X))).run prog w= .ok () w'∧PrAt w' g np (splc P (32*j) X)∧w.grownBy w' (some g)∧w'.heap.size=w.heap.size:=by
 obtain⟨h1,cur,h2,h3⟩:=hb;have hcl:32*np≤cur.size:=by
  have:=congrArg List.length h3;simp[h1]at this;omega
 have hg:w.heap[g]? =some (.cells cur 383 (0,0)):=h2;have hst:=run_storeCells_at (P:=prog) g (j*32) 383 (A8 X).toList 0 cur w hg (by rw[Array.length_toList,ag];omega) (fun v hv=>by
  have:=Array.all_eq_true'.1 (aH X) v (by simpa using hv);exact this)
 have h2':(sizeOf 383).run prog w= .ok (A8 X).size w:=by rw[ag,hX];exact sizeOf383 _
 obtain⟨nw,hnw⟩: ∃c,(cur.toList.take (j*32+0)++(A8 X).toList++cur.toList.drop (j*32+0+(A8 X).toList.length)).toArray=c:=⟨_,rfl⟩;rw[hnw]at hst;refine⟨w.setRow g nw,by simp only[bR,Instr.storeAt,Instr.sureAddr,storeVar,Sem.run_bind,Sem.run_pure,Result.andThen_ok,h2',Value.cells,ne_eq,not_true_eq_false,if_false,hst],?_,?_,?_⟩
 ·refine⟨by rw[bq _ _ _ (by omega),h1],_,h2.put _,?_⟩;rw[←hnw,List.toList_toArray];have e1:(A8 X).toList=X.map v8:=by simp[A8]
  have e3:cur.toList=P.map v8++cur.toList.drop (32*np):=by rw[←h3,List.take_append_drop]
  obtain⟨R,hR⟩: ∃R,R=cur.toList.drop (32*np):=⟨_,rfl⟩;rw[←hR]at e3;rw[e1,Nat.add_zero,Nat.mul_comm j 32,e3,List.length_map,hX];have l1:(P.map v8).length=32*np:=by simp[h1]
  have t1:(P.map v8++R).take (32*j)=(P.map v8).take (32*j):=List.take_append_of_le_length (by rw[l1];omega);have t2:(P.map v8++R).drop (32*j+32)=(P.map v8).drop (32*j+32)++R:=List.drop_append_of_le_length (by rw[l1];omega);rw[t1,t2,←List.append_assoc,List.take_left' (by simp[h1,hX];omega)];simp only[splc,List.map_append,List.map_take,List.map_drop,hX]
 ·exact aK w g _
 ·simp
theorem cN {w w1 w2:World} {r:Option Nat}(h:w.grownBy w1 r)(hb:Below w.heap.size w1 w2):w.grownBy w2 r:=
 ⟨hb.os.trans h.os,hb.tape.trans h.tape,hb.output.trans h.output,Nat.le_trans h.size hb.size,fun k hk hne=>(hb.block k hk).trans (h.block k hk hne)⟩
theorem pO {P:Program} {ops:Array Oper} {ks:List Nat} {l:List Oper} {a:Act} {K:Act→World→Prop} {w w1:World} {e:TypeId} {p q:Operand} {ty:TypeId} {pos:String} {after:Array Edge} {ad:Addr} {c:Y8}(hp:a.eval p= .pointer (some ad))(hv:a.eval q= .agg (A8 c))
  (hr:(bR e (.pointer (some ad)) (.agg (A8 c))).run P w= .ok () w1) (h:wpZ P ops K ks l a w1):wpZ P ops K (2::ks) (⟨none,.store e p q,ty,pos,after,none⟩::l) a w:=by
 have hr':(execOp a.eval ⟨none,.store e p q,ty,pos,after,none⟩).run P w= .ok .skip w1:=by
  rw[aV,hp,hv,hr];simp
 refine kB rfl (fun K' hK' => ?_);unfold Oper.wp;rw[hr'];exact hK' _ _ h
open Go.RowKit
theorem Du(p pt gq np cp:Nat)(I J L Pr x y:Y8)(ap:Option Addr)(us vs:Value)(w0 w:World)(H:EzAt w0 p pt I J L)(h0:Below w0.heap.size w0 w)(hx:x.length=16)(hy:y.length=16)(hnp:np≤20)
  (hP:0<np→ap=some ⟨gq,0,none⟩∧PrAt w gq np Pr) (hgq:w0.heap.size≤gq) (hgw:gq<w.heap.size) (hPl:Pr.length=32*np):
  Calls prog 310 #[.agg (MSc (.slice ap np cp) us vs x y),.pointer (some ⟨p,0,none⟩)] w fun e w' =>e= .returned (.agg (A8 (xsum (xE (ezE I J L) Pr) np)))∧(0<np→PrAt w' gq np (bB (ezE I J L) Pr np))∧w.grownBy w' (some gq):=by
 obtain⟨W,hW⟩: ∃W,((w.alloc (.cells (MSc (.slice ap np cp) us vs x y) 373)).alloc (.cells (A8 (ac 8 16)) 42)).alloc (.cells (A8 (ac 8 16)) 42)=W:=⟨_,rfl⟩;obtain⟨b0,b1,b2,hb,hz⟩:=new3 _ _ _ _ _ _ _ _ hW;have HK:=hid H;have M0:=hid b0;have Z0:=hid b1;have S0:=hid b2;have B0:=hid hb;have D0:=hid (h0.trans (hb.mono h0.size));have PP0:=hid (fun h:0<np=>(hP h).2.below hb);have PA:=hid (fun h:0<np=>(hP h).1);have HPL:=hid hPl;have c0:W.cell? ⟨w.heap.size,0,none⟩=some (.slice ap np cp):=by rw[b0.cell,lV]
 clear b0 b1 b2 hb hz H hP hPl;have hEl:=hid (cZ I J L);obtain⟨E,hE⟩: ∃E,E=ezE I J L:=⟨_,rfl⟩;have hEc: ∀(j i:Nat) (x:Y8) (w1:World),Below w0.heap.size w0 w1→j≤10→i≤1000→x.length=16→Calls prog 312 #[.pointer (some ⟨p,0,none⟩),.int .i64 (j:Int),.int .i64 (i:Int),.agg (A8 x)] w1 fun e w' =>e= .returned (.agg (A8 (E j i x)))∧Below w1.heap.size w1 w':=by
  intro j i x w1 hb hj hi hx;rw[hE];exact oz p pt j i I J L x w1 (HK.out.below hb) (by omega) hi hx
 have EC:=hid hEc;rw[←hE]at hEl⊢;clear hE hEc;go_enter func310,ntmps310;go_wp2_with fail;go_loopw [12] (fun i wr=> ∃j:Nat,j≤np∧i= .int .i64 j∧Blk wr w.heap.size 373 (MSc (.slice ap np cp) us vs x y)∧Blk wr (w.heap.size+1) 42 (A8 (ac 8 16))∧Blk wr (w.heap.size+1+1) 42 (A8 (xsum (xE E Pr) j))∧(0<np→PrAt wr gq np (bB E Pr j++Pr.drop (32*j)))∧w.grownBy wr (some gq)∧Below w0.heap.size w0 wr) (fun i _=>np-(intOf i).toNat)
 case atStart=>exact⟨0,by omega,rfl,M0.out,Z0.out,S0.out,fun h=>by have:=PP0.out h;rw[Nat.mul_zero,List.drop_zero];exact this,aD B0.out _,D0.out⟩
 case round=>
  obtain⟨j,hj,rfl,hM,hZ,hS,hP,hG,hD⟩:=hrel;have M1:=hid hM;have Z1:=hid hZ;have S1:=hid hS;have PP1:=hid hP;have G1:=hid hG;have D1:=hid hD;clear hM hZ hS hP hG hD M0 Z0 S0 PP0 B0 D0 hW c0;have G1s:w.heap.size≤wr.heap.size:=G1.out.size;by_cases hjn:j<np
  ·have j1:(j:Int)<(np:Int):=by omega
   have j0:(0:Int)≤(j:Int):=by omega
   obtain rfl:=PA.out (by omega);have P1:=hid (PP1.out (by omega));obtain⟨N,hN⟩: ∃N,N=j+1:=⟨_,rfl⟩;have f1:(j:Int)+1=(N:Int):=by omega
   have f2:IntKind.i64.wrap (N:Int)=(N:Int):=by rw[IntKind.wrap_i64];omega
   have hN1:N≤1000:=by omega
   obtain⟨A,hA⟩: ∃A,A=aI Pr (2*j):=⟨_,rfl⟩;obtain⟨B,hB⟩: ∃B,B=aI Pr (2*j+1):=⟨_,rfl⟩;have hAl:A.length=16:=by rw[hA,aI,List.length_take,List.length_drop,HPL.out];omega
   have hBl:B.length=16:=by rw[hB,aI,List.length_take,List.length_drop,HPL.out];omega
   have hahl:=lW E Pr j;have hdr: ∀i,2*j≤i→aI (bB E Pr j++Pr.drop (32*j)) i=aI Pr i:=by
    intro i hi;rw[aI,aI,List.drop_append,hahl,List.drop_eq_nil_of_le (by rw[hahl];omega),List.nil_append,List.drop_drop,show 32*j+(i*16-32*j)=i*16 by omega]
   have hGA: ∀w1,PrAt w1 gq np (bB E Pr j++Pr.drop (32*j))→(bt 42 (.pointer (some ⟨gq,j*32,none⟩))).run prog w1= .ok (.agg (A8 A)) w1:=fun w1 h=>by
    have h1:=(h.rd (by omega)).row (t:=42) (isAgg42 _) (sizeOf42 _) (2*j) (by omega);rw[show(List.drop (2*j*16) (bB E Pr j++Pr.drop (32*j))).take 16=A by rw[hA,←hdr (2*j) (by omega)];rfl,show 0+2*j*16=j*32 by omega]at h1;exact h1
   have hGB: ∀w1,PrAt w1 gq np (bB E Pr j++Pr.drop (32*j))→(bt 42 (.pointer (some ⟨gq,j*32+16,none⟩))).run prog w1= .ok (.agg (A8 B)) w1:=fun w1 h=>by
    have h1:=(h.rd (by omega)).row (t:=42) (isAgg42 _) (sizeOf42 _) (2*j+1) (by omega);rw[show(List.drop ((2*j+1)*16) (bB E Pr j++Pr.drop (32*j))).take 16=B by rw[hB,←hdr (2*j+1) (by omega)];rfl,show 0+(2*j+1)*16=j*32+16 by omega]at h1;exact h1
   obtain⟨X,hX⟩: ∃X,X=E ((1:Nat):Int) N B:=⟨_,rfl⟩;have hXl:X.length=16:=by rw[hX];exact hEl.out _ _ _
   obtain⟨Wj,hWj⟩: ∃Wj,Wj=ar A X:=⟨_,rfl⟩;have hWl:Wj.length=16:=by rw[hWj];exact ak _ _
   have hWE:Wj=wE E Pr j:=by rw[hWj,hX,hA,hB,hN];rfl
   obtain⟨Y,hY⟩: ∃Y,Y=E ((0:Nat):Int) 0 Wj:=⟨_,rfl⟩;have hYl:Y.length=16:=by rw[hY];exact hEl.out _ _ _
   obtain⟨Xj,hXj⟩: ∃Xj,Xj=ar B Y:=⟨_,rfl⟩;have hXjl:Xj.length=16:=by rw[hXj];exact ak _ _
   have hXE:Xj=xE E Pr j:=by rw[hXj,hY,hWE,hB];rfl
   have hst:splc (bB E Pr j++Pr.drop (32*j)) (32*j) (Wj++Xj)=bB E Pr (j+1)++Pr.drop (32*(j+1)):=by
    have hl:(Wj++Xj).length=32:=by rw[List.length_append,hWl,hXjl]
    rw[splc,hl,List.take_left' hahl,List.drop_append,hahl,List.drop_eq_nil_of_le (by rw[hahl];omega),List.nil_append,List.drop_drop,show 32*j+(32*j+32-32*j)=32*(j+1) by omega];rw[hWE,hXE];rfl
   have GA:=hid hGA;have GB:=hid hGB;have HX:=hid hX.symm;have HW:=hid hWj.symm;have HY:=hid hY.symm;have HXj:=hid hXj.symm;have HXE:=hid hXE;have HST:=hid hst;have HN:=hid hN;clear hN hA hB hahl hdr hGA hGB hX hWj hWE hY hXj hXE hst PP1;go_upto_region 5 with fail;refine aQ [0,5,0,0,0,5,0,0,0,0,5,0,0,0,5,2,2,2,2,3] [0,1,2,3,4,5,6,7,8,9,10,11,12,13,14] [(15,2,_),(16,2,_),(17,2,_),(18,2,_)] (fun i=>if i=16 then [15]else if i=17 then [16]else []) [19] [_,_,_,_,_,_,_,_,_,_,_,_,_,_,_] [_] [0,5,0,0,0,5,0,0,0,0,5,0,0,0,5] [3] 4 rfl rfl rfl (by kernel_rfl) (by kernel_rfl) (by kernel_rfl) rfl rfl rfl (fun w1=>Below wr.drew.heap.size wr.drew w1) (fun _ _ h k=>h.trans (Below.mono k h.size)) (Below.refl _ _) (fun K' hK' => ?_);have Q1: ∀w1,(fun w1=>Below wr.drew.heap.size wr.drew w1) w1→w1.cell? ⟨w.heap.size,0,none⟩=some (.slice (some ⟨gq,0,none⟩) np cp):=fun w1 hw=>by rw[(M1.out.drew.belowAll hw).cell,lV]
   have Q2: ∀w1,(fun w1=>Below wr.drew.heap.size wr.drew w1) w1→(bt 42 (.pointer (some ⟨gq,j*32,none⟩))).run prog w1= .ok (.agg (A8 A)) w1:=fun w1 hw=>GA.out w1 (P1.out.drew.below hw);have Q3: ∀w1,(fun w1=>Below wr.drew.heap.size wr.drew w1) w1→(bt 42 (.pointer (some ⟨gq,j*32+16,none⟩))).run prog w1= .ok (.agg (A8 B)) w1:=fun w1 hw=>GB.out w1 (P1.out.drew.below hw)
   repeat (first|((with_reducible refine hq0 ?_);refine hq0a ?_)|((with_reducible refine hq5 ?_);refine hq5a ?_ (fun _ hcw=>by have fQ1:=Q1 _ hcw;have fQ2:=Q2 _ hcw;have fQ3:=Q3 _ hcw;go_simp;(try go_bits);exact rfl))|((with_reducible refine hq1 ?_);refine hq1a ?_))
   refine aA ?_;clear Q1 Q2 Q3;generalize hAct:Act.mk _ _=act;obtain⟨u,rfl⟩: ∃u:Nat→Value,act={tmps:=(fun u:Nat→Value=>(Value.agg (MSc (.slice (some ⟨gq,0,none⟩) np cp) us vs x y)::Value.pointer (some ⟨p,0,none⟩)::Value.pointer (some ⟨w.heap.size,0,none⟩)::undef::Value.pointer (some ⟨w.heap.size+1,0,none⟩)::Value.pointer (some ⟨w.heap.size+1+1,0,none⟩)::Value.int .i64 j::u 7::u 8::Value.pointer (some ⟨w.heap.size,0,none⟩)::Value.slice (some ⟨gq,0,none⟩) np cp::Value.int .i64 np::Value.int .i64 j::u 13::u 14::u 15::u 16::u 17::u 18::u 19::Value.agg (A8 A)::Value.pointer (some ⟨p,0,none⟩)::u 22::Value.int .i64 N::u 24::u 25::u 26::u 27::u 28::Value.agg (A8 B)::u 30::u 31::u 32::u 33::u 34::u 35::u 36::u 37::u 38::u 39::u 40::u 41::u 42::u 43::u 44::u 45::u 46::u 47::u 48::u 49::u 50::u 51::u 52::u 53::u 54::u 55::undef::[]).toArray) u,defers:=[]}:=by
    subst hAct;exact aE _ rfl
   clear hAct;obtain⟨St,hSt⟩: ∃St:(Nat→Bool)→Act→World→Prop,∀dn a' w',St dn a' w'↔(∃x30 x31 x32 x7:Value,a' ={tmps:=(Value.agg (MSc (.slice (some ⟨gq,0,none⟩) np cp) us vs x y)::Value.pointer (some ⟨p,0,none⟩)::Value.pointer (some ⟨w.heap.size,0,none⟩)::undef::Value.pointer (some ⟨w.heap.size+1,0,none⟩)::Value.pointer (some ⟨w.heap.size+1+1,0,none⟩)::Value.int .i64 j::x7::u 8::Value.pointer (some ⟨w.heap.size,0,none⟩)::Value.slice (some ⟨gq,0,none⟩) np cp::Value.int .i64 np::Value.int .i64 j::u 13::u 14::u 15::u 16::u 17::u 18::u 19::Value.agg (A8 A)::Value.pointer (some ⟨p,0,none⟩)::u 22::Value.int .i64 N::u 24::u 25::u 26::u 27::u 28::Value.agg (A8 B)::x30::x31::x32::u 33::u 34::u 35::u 36::u 37::u 38::u 39::u 40::u 41::u 42::u 43::u 44::u 45::u 46::u 47::u 48::u 49::u 50::u 51::u 52::u 53::u 54::u 55::undef::[]).toArray,defers:=[]}∧Below wr.drew.heap.size wr.drew w'∧(dn 15=true→x30= .agg (A8 X))∧(dn 16=true→ ∃g,x31= .slice (some ⟨g,0,none⟩) 2 2∧Blk w' g 42 (A8 (A++X)))∧(dn 17=true→x32= .agg (A8 Wj))∧(dn 18=true→ ∃g,x7= .pointer (some ⟨g,0,none⟩)∧wr.heap.size≤g∧Blk w' g 42 (A8 (ac 8 16)))):=⟨_,fun _ _ _=>Iff.rfl⟩;refine cG (St:=St) [_,_,_,_] ⟨?ts1,?ts2,?ts3,?ts4,trivial⟩ ?td ?tn ?tR ?t0
   case t0=>exact(hSt _ _ _).2 ⟨_,_,_,_,rfl,Below.refl _ _,fun h=>Bool.noConfusion h,fun h=>Bool.noConfusion h,fun h=>Bool.noConfusion h,fun h=>Bool.noConfusion h⟩
   case td=>decide
   case tn=>decide
   case ts1=>
    intro dn a3 w3 hd hs;obtain⟨x30,x31,x32,x7,rfl,D3,h1,h2,h3,h4⟩:=(hSt _ _ _).1 hs;clear hs;clear hd;refine ai ?_;have E3:=D1.out.drew.trans (D3.mono (Nat.le_of_lt (Nat.lt_of_le_of_lt hgq P1.out.lt)));refine hqc ?_;go_simp;refine af ?_;refine(EC.out 1 N B w3 E3 (by omega) hN1 hBl).mono ?_;rintro e w4 ⟨rfl,d4⟩;refine⟨_,rfl,d4,?_⟩
    try simp only[Act.put,zz1,zz2,zz3]
    rw[HX.out];exact aA ((hSt _ _ _).2 ⟨_,_,_,_,rfl,D3.trans (d4.mono D3.size),fun _=>rfl,fun e=>(h2 (by simpa using e)).imp fun _ h=>⟨h.1,h.2.belowAll d4⟩,fun e=>h3 (by simpa using e),fun e=>(h4 (by simpa using e)).imp fun _ h=>⟨h.1,h.2.1,h.2.2.belowAll d4⟩⟩)
   case ts2=>
    intro dn a3 w3 hd hs;obtain⟨x30,x31,x32,x7,rfl,D3,h1,h2,h3,h4⟩:=(hSt _ _ _).1 hs;clear hs;obtain rfl:=h1 (hd 15 (by decide));clear hd;refine ai ?_;refine gu (x:= .agg (A8 A)) (y:= .agg (A8 X)) (size:=16) rfl rfl (by show(A8 A).size=16;rw[ag,hAl]) (by show(A8 X).size=16;rw[ag,hXl]) (by omega) (by omega) underlying39 bN (fun w4 g4 b4 d4=> ?_);simp only[Act.put,zz1,zz2,zz3];rw[show(Value.agg (A8 A)).cells++(Value.agg (A8 X)).cells=A8 (A++X) from aN A X]at b4;exact aA ((hSt _ _ _).2 ⟨_,_,_,_,rfl,D3.trans (d4.mono D3.size),fun e=>h1 (by simpa using e),fun _=>⟨g4,rfl,b4⟩,fun e=>h3 (by simpa using e),fun e=>(h4 (by simpa using e)).imp fun _ h=>⟨h.1,h.2.1,h.2.2.belowAll d4⟩⟩)
   case ts3=>
    intro dn a3 w3 hd hs;obtain⟨x30,x31,x32,x7,rfl,D3,h1,h2,h3,h4⟩:=(hSt _ _ _).1 hs;clear hs;obtain⟨g2,rfl,b2⟩:=h2 (hd 16 (by decide));clear hd;refine ai ?_;refine hqc ?_;go_simp;refine af ?_;refine(bX (A++X) g2 2 2 w3 (RdS.of_blk b2 (by rw[List.length_append,hAl,hXl]) (by omega)) (by omega)).mono ?_;rintro e w4 ⟨rfl,d4⟩;refine⟨_,rfl,d4,?_⟩
    try simp only[Act.put,zz1,zz2,zz3]
    rw[dW A X hAl hXl,HW.out];exact aA ((hSt _ _ _).2 ⟨_,_,_,_,rfl,D3.trans (d4.mono D3.size),fun e=>h1 (by simpa using e),fun e=>(h2 (by simpa using e)).imp fun _ h=>⟨h.1,h.2.belowAll d4⟩,fun _=>rfl,fun e=>(h4 (by simpa using e)).imp fun _ h=>⟨h.1,h.2.1,h.2.2.belowAll d4⟩⟩)
   case ts4=>
    intro dn a3 w3 hd hs;obtain⟨x30,x31,x32,x7,rfl,D3,h1,h2,h3,h4⟩:=(hSt _ _ _).1 hs;clear hs;clear hd;refine ai ?_;obtain⟨w4,eu4⟩: ∃u,w3.alloc (.cells (A8 (ac 8 16)) 42)=u:=⟨_,rfl⟩;obtain⟨b4,d4,zu⟩:=new1 _ _ _ _ eu4;obtain⟨pf,hpf⟩: ∃g,g=w3.heap.size:=⟨_,rfl⟩;refine aY (v:= .pointer (some ⟨pf,0,none⟩)) (w':=w4) rfl (by rw[hpf];go_simp;exact eu4) d4 ?_;simp only[Act.put,zz1,zz2,zz3];rw[←hpf]at b4;exact aA ((hSt _ _ _).2 ⟨_,_,_,_,rfl,D3.trans (d4.mono D3.size),fun e=>h1 (by simpa using e),fun e=>(h2 (by simpa using e)).imp fun _ h=>⟨h.1,h.2.belowAll d4⟩,fun e=>h3 (by simpa using e),fun _=>⟨pf,rfl,by rw[hpf];exact D3.size,b4⟩⟩)
   case tR=>
    intro dn a3 w3 hall hs;obtain⟨x30,x31,x32,x7,rfl,D3,h1,h2,h3,h4⟩:=(hSt _ _ _).1 hs;clear hs hSt;obtain rfl:=h1 (hall 15 (by simp));obtain⟨g2,rfl,b2⟩:=h2 (hall 16 (by simp));obtain rfl:=h3 (hall 17 (by simp));obtain⟨g4,rfl,k4,b4⟩:=h4 (hall 18 (by simp));clear hall;refine bI ?_;refine aq b4 rfl rfl (by rw[ag,ag,hWl,ah]) (aH _) (by rw[ag,hWl];exact sizeOf42 _) (fun W5 kk5 g6 s5=> ?_);have BD:=D3.trans (ae g6 k4 D3.size);refine az ⟨BD,?_⟩;refine cQ (hK' _ _ ?_);have hgs:wr.heap.size≤W5.heap.size:=BD.size;have W5b:=hid kk5;have M5:=hid (M1.out.drew.belowAll BD);have Z5:=hid (Z1.out.drew.belowAll BD);have S5:=hid (S1.out.drew.belowAll BD);have P5:=hid (P1.out.drew.below BD);have G5:=hid (ao G1.out (ao (aD ((Below.refl wr.heap.size wr).drew) (some gq)) (aD BD (some gq))));have D5:=hid (D1.out.drew.trans (BD.mono (Nat.le_of_lt (Nat.lt_of_le_of_lt hgq P1.out.lt))));have hg7:wr.heap.size≤g4:=k4;clear hK' D3 BD g6 s5 kk5 h1 h2 h3 h4 b4 k4 M1 Z1 S1 P1 G1 D1;generalize g4=g7 at*;go_upto_region 6 with fail;refine aQ [0,5,0,0,0,5,0,5,2,2,2,2,3] [0,1,2,3,4,5,6,7] [(8,2,_),(9,2,_),(10,2,_),(11,2,_)] (fun i=>if i=9 then [8]else if i=10 then [9]else []) [12] [_,_,_,_,_,_,_,_] [_] [0,5,0,0,0,5,0,5] [3] 4 rfl rfl rfl (by kernel_rfl) (by kernel_rfl) (by kernel_rfl) rfl rfl rfl (fun w1=>Below W5.drew.heap.size W5.drew w1) (fun _ _ h k=>h.trans (Below.mono k h.size)) (Below.refl _ _) (fun K' hK' => ?_)
    have Q1: ∀w1,(fun w1=>Below W5.drew.heap.size W5.drew w1) w1→w1.cell? ⟨w.heap.size,0,none⟩=some (.slice (some ⟨gq,0,none⟩) np cp):=fun w1 hw=>by rw[(M5.out.drew.belowAll hw).cell,lV]
    have Q3: ∀w1,(fun w1=>Below W5.drew.heap.size W5.drew w1) w1→(bt 42 (.pointer (some ⟨gq,j*32+16,none⟩))).run prog w1= .ok (.agg (A8 B)) w1:=fun w1 hw=>GB.out w1 (P5.out.drew.below hw);have Q4: ∀w1,(fun w1=>Below W5.drew.heap.size W5.drew w1) w1→aF w1 g7=A8 Wj:=fun w1 hw=>(W5b.out.drew.belowAll hw).row
    repeat (first|((with_reducible refine hq0 ?_);refine hq0a ?_)|((with_reducible refine hq5 ?_);refine hq5a ?_ (fun _ hcw=>by have fQ1:=Q1 _ hcw;have fQ3:=Q3 _ hcw;have fQ4:=Q4 _ hcw;go_simp;(try go_bits);exact rfl))|((with_reducible refine hq1 ?_);refine hq1a ?_))
    refine aA ?_;clear Q1 Q3 Q4;generalize hAct:Act.mk _ _=act;obtain⟨u,rfl⟩: ∃u:Nat→Value,act={tmps:=(fun u:Nat→Value=>(Value.agg (MSc (.slice (some ⟨gq,0,none⟩) np cp) us vs x y)::Value.pointer (some ⟨p,0,none⟩)::Value.pointer (some ⟨w.heap.size,0,none⟩)::undef::Value.pointer (some ⟨w.heap.size+1,0,none⟩)::Value.pointer (some ⟨w.heap.size+1+1,0,none⟩)::Value.int .i64 j::Value.pointer (some ⟨g7,0,none⟩)::u 8::Value.pointer (some ⟨w.heap.size,0,none⟩)::Value.slice (some ⟨gq,0,none⟩) np cp::Value.int .i64 np::Value.int .i64 j::u 13::u 14::u 15::u 16::u 17::u 18::u 19::u 20::u 21::u 22::u 23::u 24::u 25::u 26::u 27::u 28::u 29::u 30::u 31::u 32::u 33::u 34::u 35::u 36::u 37::Value.agg (A8 B)::Value.pointer (some ⟨p,0,none⟩)::Value.agg (A8 Wj)::u 41::u 42::u 43::u 44::u 45::u 46::u 47::u 48::u 49::u 50::u 51::u 52::u 53::u 54::u 55::undef::[]).toArray) u,defers:=[]}:=by
     subst hAct;exact aE _ rfl
    clear hAct;obtain⟨St,hSt⟩: ∃St:(Nat→Bool)→Act→World→Prop,∀dn a' w',St dn a' w'↔(∃x41 x42 x43 x8:Value,a' ={tmps:=(Value.agg (MSc (.slice (some ⟨gq,0,none⟩) np cp) us vs x y)::Value.pointer (some ⟨p,0,none⟩)::Value.pointer (some ⟨w.heap.size,0,none⟩)::undef::Value.pointer (some ⟨w.heap.size+1,0,none⟩)::Value.pointer (some ⟨w.heap.size+1+1,0,none⟩)::Value.int .i64 j::Value.pointer (some ⟨g7,0,none⟩)::x8::Value.pointer (some ⟨w.heap.size,0,none⟩)::Value.slice (some ⟨gq,0,none⟩) np cp::Value.int .i64 np::Value.int .i64 j::u 13::u 14::u 15::u 16::u 17::u 18::u 19::u 20::u 21::u 22::u 23::u 24::u 25::u 26::u 27::u 28::u 29::u 30::u 31::u 32::u 33::u 34::u 35::u 36::u 37::Value.agg (A8 B)::Value.pointer (some ⟨p,0,none⟩)::Value.agg (A8 Wj)::x41::x42::x43::u 44::u 45::u 46::u 47::u 48::u 49::u 50::u 51::u 52::u 53::u 54::u 55::undef::[]).toArray,defers:=[]}∧Below W5.drew.heap.size W5.drew w'∧(dn 8=true→x41= .agg (A8 Y))∧(dn 9=true→ ∃g,x42= .slice (some ⟨g,0,none⟩) 2 2∧Blk w' g 42 (A8 (B++Y)))∧(dn 10=true→x43= .agg (A8 Xj))∧(dn 11=true→ ∃g,x8= .pointer (some ⟨g,0,none⟩)∧W5.heap.size≤g∧Blk w' g 42 (A8 (ac 8 16)))):=⟨_,fun _ _ _=>Iff.rfl⟩;refine cG (St:=St) [_,_,_,_] ⟨?vs1,?vs2,?vs3,?vs4,trivial⟩ ?vd ?vn ?vR ?v0
    case v0=>exact(hSt _ _ _).2 ⟨_,_,_,_,rfl,Below.refl _ _,fun h=>Bool.noConfusion h,fun h=>Bool.noConfusion h,fun h=>Bool.noConfusion h,fun h=>Bool.noConfusion h⟩
    case vd=>decide
    case vn=>decide
    case vs1=>
     intro dn a3 w3 hd hs;obtain⟨x41,x42,x43,x8,rfl,D3,h1,h2,h3,h4⟩:=(hSt _ _ _).1 hs;clear hs;clear hd;refine ai ?_;have E3:=D5.out.drew.trans (D3.mono (Nat.le_of_lt (Nat.lt_of_le_of_lt hgq P5.out.lt)));refine hqc ?_;go_simp;refine af ?_;refine(EC.out 0 0 Wj w3 E3 (by omega) (by omega) hWl).mono ?_;rintro e w4 ⟨rfl,d4⟩;refine⟨_,rfl,d4,?_⟩
     try simp only[Act.put,zz1,zz2,zz3]
     rw[HY.out];exact aA ((hSt _ _ _).2 ⟨_,_,_,_,rfl,D3.trans (d4.mono D3.size),fun _=>rfl,fun e=>(h2 (by simpa using e)).imp fun _ h=>⟨h.1,h.2.belowAll d4⟩,fun e=>h3 (by simpa using e),fun e=>(h4 (by simpa using e)).imp fun _ h=>⟨h.1,h.2.1,h.2.2.belowAll d4⟩⟩)
    case vs2=>
     intro dn a3 w3 hd hs;obtain⟨x41,x42,x43,x8,rfl,D3,h1,h2,h3,h4⟩:=(hSt _ _ _).1 hs;clear hs;obtain rfl:=h1 (hd 8 (by decide));clear hd;refine ai ?_;refine gu (x:= .agg (A8 B)) (y:= .agg (A8 Y)) (size:=16) rfl rfl (by show(A8 B).size=16;rw[ag,hBl]) (by show(A8 Y).size=16;rw[ag,hYl]) (by omega) (by omega) underlying39 bN (fun w4 g4 b4 d4=> ?_);simp only[Act.put,zz1,zz2,zz3];rw[show(Value.agg (A8 B)).cells++(Value.agg (A8 Y)).cells=A8 (B++Y) from aN B Y]at b4;exact aA ((hSt _ _ _).2 ⟨_,_,_,_,rfl,D3.trans (d4.mono D3.size),fun e=>h1 (by simpa using e),fun _=>⟨g4,rfl,b4⟩,fun e=>h3 (by simpa using e),fun e=>(h4 (by simpa using e)).imp fun _ h=>⟨h.1,h.2.1,h.2.2.belowAll d4⟩⟩)
    case vs3=>
     intro dn a3 w3 hd hs;obtain⟨x41,x42,x43,x8,rfl,D3,h1,h2,h3,h4⟩:=(hSt _ _ _).1 hs;clear hs;obtain⟨g2,rfl,b2⟩:=h2 (hd 9 (by decide));clear hd;refine ai ?_;refine hqc ?_;go_simp;refine af ?_;refine(bX (B++Y) g2 2 2 w3 (RdS.of_blk b2 (by rw[List.length_append,hBl,hYl]) (by omega)) (by omega)).mono ?_;rintro e w4 ⟨rfl,d4⟩;refine⟨_,rfl,d4,?_⟩
     try simp only[Act.put,zz1,zz2,zz3]
     rw[dW B Y hBl hYl,HXj.out];exact aA ((hSt _ _ _).2 ⟨_,_,_,_,rfl,D3.trans (d4.mono D3.size),fun e=>h1 (by simpa using e),fun e=>(h2 (by simpa using e)).imp fun _ h=>⟨h.1,h.2.belowAll d4⟩,fun _=>rfl,fun e=>(h4 (by simpa using e)).imp fun _ h=>⟨h.1,h.2.1,h.2.2.belowAll d4⟩⟩)
    case vs4=>
     intro dn a3 w3 hd hs;obtain⟨x41,x42,x43,x8,rfl,D3,h1,h2,h3,h4⟩:=(hSt _ _ _).1 hs;clear hs;clear hd;refine ai ?_;obtain⟨w4,eu4⟩: ∃u,w3.alloc (.cells (A8 (ac 8 16)) 42)=u:=⟨_,rfl⟩;obtain⟨b4,d4,zu⟩:=new1 _ _ _ _ eu4;obtain⟨pf,hpf⟩: ∃g,g=w3.heap.size:=⟨_,rfl⟩;refine aY (v:= .pointer (some ⟨pf,0,none⟩)) (w':=w4) rfl (by rw[hpf];go_simp;exact eu4) d4 ?_;simp only[Act.put,zz1,zz2,zz3];rw[←hpf]at b4;exact aA ((hSt _ _ _).2 ⟨_,_,_,_,rfl,D3.trans (d4.mono D3.size),fun e=>h1 (by simpa using e),fun e=>(h2 (by simpa using e)).imp fun _ h=>⟨h.1,h.2.belowAll d4⟩,fun e=>h3 (by simpa using e),fun _=>⟨pf,rfl,by rw[hpf];exact D3.size,b4⟩⟩)
    case vR=>
     intro dn a3 w3 hall hs;obtain⟨x41,x42,x43,x8,rfl,D3,h1,h2,h3,h4⟩:=(hSt _ _ _).1 hs;clear hs hSt;obtain rfl:=h1 (hall 8 (by simp));obtain⟨g2,rfl,b2⟩:=h2 (hall 9 (by simp));obtain rfl:=h3 (hall 10 (by simp));obtain⟨g4,rfl,k4,b4⟩:=h4 (hall 11 (by simp));clear hall;refine bI ?_;refine aq b4 rfl rfl (by rw[ag,ag,hXjl,ah]) (aH _) (by rw[ag,hXjl];exact sizeOf42 _) (fun W6 kk6 g6 s6=> ?_);have BD:=D3.trans (ae g6 k4 D3.size);refine az ⟨BD,?_⟩;refine cQ (hK' _ _ ?_);have X6b:=hid kk6;have W6b:=hid (W5b.out.drew.belowAll BD);have M6:=hid (M5.out.drew.belowAll BD);have Z6:=hid (Z5.out.drew.belowAll BD);have S6:=hid (S5.out.drew.belowAll BD);have P6:=hid (P5.out.drew.below BD);have G6:=hid (ao G5.out (ao (aD ((Below.refl W5.heap.size W5).drew) (some gq)) (aD BD (some gq))));have D6:=hid (D5.out.drew.trans (BD.mono (Nat.le_of_lt (Nat.lt_of_le_of_lt hgq P5.out.lt))));have hg8:W5.heap.size≤g4:=k4;generalize g4=g8 at*;clear hK' D3 BD g6 s6 kk6 h1 h2 h3 h4 b4 k4 M5 Z5 S5 P5 G5 D5 W5b;have hwg:w.heap.size≤wr.heap.size:=G1s;have cq:W6.cell? ⟨w.heap.size,0,none⟩=some (.slice (some ⟨gq,0,none⟩) np cp):=by rw[M6.out.cell,lV]
     have r7:=W6b.out.row;have r8:=X6b.out.row;have hWX:(Wj++Xj).length=32:=by rw[List.length_append,hWl,hXjl]
     have bp:=mv Wj Xj hWl hXjl;obtain⟨W7,hr7,P7,G7,s7⟩:=jr W6 gq j np _ (Wj++Xj) P6.out hjn hWX;rw[HST.out]at P7;go_upto_region 7 with fail;refine aG [0,1,0,1,1,2,0,2] rfl (fun ops' K2 hK2=> ?_)
     repeat (first|((with_reducible refine zq0 ?_);refine zq0a ?_)|((with_reducible refine zq1 ?_);refine zq1a ?_))
     refine oV (v:= .agg (A8 (Wj++Xj))) (w1:=W6) rfl (by rw[io];show((dM _ (.agg (A8 Wj)) (.agg (A8 Xj))).run _ W6).andThen _=_;rw[bp];rfl) ?_;simp only[Act.put,zz1,zz2,zz3]
     repeat (first|((with_reducible refine zq0 ?_);refine zq0a ?_)|((with_reducible refine zq1 ?_);refine zq1a ?_))
     refine pO rfl rfl hr7 (az (hK2 _ _ ?_));have hgq6:gq<W6.heap.size:=P6.out.lt;have M7:=hid (M6.out.grown G7 (by simp;omega));have Z7:=hid (Z6.out.grown G7 (by simp;omega));have S7:=hid (S6.out.grown G7 (by simp;omega));have X7:=hid (X6b.out.grown G7 (by simp;omega));have GG7:=hid (ao G6.out G7);have D7:=hid (D6.out.trans (ae G7 hgq D6.out.size));have P7h:=hid P7;have hs7:w.heap.size≤W7.heap.size:=by rw[s7];have:=G6.out.size;omega
     clear cq r7 r8 bp hr7 P7 G7 hK2 M6 Z6 S6 X6b W6b P6 G6 D6;have r5:=S7.out.row;have r8:=X7.out.row;have hsl:(xsum (xE E Pr) j).length=16:=eD _ _;obtain⟨Sm,hSm⟩: ∃Sm,Sm=xsum (xE E Pr) j:=⟨_,rfl⟩;rw[←hSm]at r5 hsl S7;have hSX:ar Sm Xj=xsum (xE E Pr) (j+1):=by rw[hSm,HXE.out];rfl
     have HSX:=hid hSX;clear hSm hSX;go_upto_region 8 with fail;refine aG [1,1,2,2,2] rfl (fun ops' K2 hK2=> ?_)
     repeat (first|((with_reducible refine zq0 ?_);refine zq0a ?_)|((with_reducible refine zq1 ?_);refine zq1a ?_))
     refine Ao (x:= .agg (A8 Sm)) (y:= .agg (A8 Xj)) (size:=16) rfl rfl (by show(A8 Sm).size=16;rw[ag,hsl]) (by show(A8 Xj).size=16;rw[ag,hXjl]) (by omega) (by omega) underlying39 bN (fun w8 g9 b8 d8=> ?_);simp only[Act.put,zz1,zz2,zz3];rw[show(Value.agg (A8 Sm)).cells++(Value.agg (A8 Xj)).cells=A8 (Sm++Xj) from aN Sm Xj]at b8
     (with_reducible refine bC rfl ?_)
     go_simp;refine af ?_;refine(bX (Sm++Xj) g9 2 2 w8 (RdS.of_blk b8 (by rw[List.length_append,hsl,hXjl]) (by omega)) (by omega)).mono ?_;rintro e w9 ⟨rfl,d9⟩;refine⟨_,rfl,?_⟩
     try simp only[Act.put,zz1,zz2,zz3]
     rw[dW Sm Xj hsl hXjl];have d89:=d8.trans (d9.mono d8.size);have hxl2:=ak Sm Xj;refine aq (S7.out.belowAll d89) rfl rfl (by rw[ag,ag,hxl2,hsl]) (aH _) (by rw[ag,hxl2];exact sizeOf42 _) (fun w10 k10 g10 s10=> ?_);refine az (hK2 _ _ ?_);rw[HSX.out]at k10;have S10:=hid k10;have M10:=hid ((M7.out.belowAll d89).grown g10 (by simp;omega));have Z10:=hid ((Z7.out.belowAll d89).grown g10 (by simp));have P10:=hid ((P7h.out.below d89).grown g10 (by simp;omega));have GG8:=ao GG7.out (aD d89 (some gq));have hs9:w.heap.size≤w9.heap.size:=Nat.le_trans hs7 d89.size;have G10:=hid (cN GG8 (ae g10 (by omega) hs9));have D9:=D7.out.trans (d89.mono D7.out.size);have D10:=hid (D9.trans (ae g10 (by omega) D9.size));clear hK2 d8 b8 d9 d89 k10 g10 s10 GG8 D9 r5 r8 M7 Z7 S7 X7 GG7 D7 P7h;go_wp2;refine⟨?_,by simp[intOf];omega⟩;have hN:=HN.out;have inv: ∃j':Nat,j'≤np∧Value.int .i64 (N:Int)= .int .i64 (j':Int)∧Blk w10 w.heap.size 373 (MSc (.slice (some ⟨gq,0,none⟩) np cp) us vs x y)∧Blk w10 (w.heap.size+1) 42 (A8 (ac 8 16))∧Blk w10 (w.heap.size+1+1) 42 (A8 (xsum (xE E Pr) j'))∧(0<np→PrAt w10 gq np (bB E Pr j'++Pr.drop (32*j')))∧w.grownBy w10 (some gq)∧Below w0.heap.size w0 w10:=⟨j+1,by omega,by rw[hN],M10.out,Z10.out,S10.out,fun _=>P10.out,G10.out,D10.out⟩
     first|exact inv|exact⟨_,_,_,_,inv,rfl,rfl,rfl,rfl⟩|exact⟨_,_,_,_,inv,rfl⟩
  ·obtain rfl:j=np:=by omega
   have hsl:(xsum (xE E Pr) j).length=16:=eD _ _;obtain⟨Sm,hSm⟩: ∃Sm,Sm=xsum (xE E Pr) j:=⟨_,rfl⟩;rw[←hSm]at S1 hsl;have HSm:=hid hSm;have r5:=S1.out.row;have r2:=Z1.out.row;have r3:=Z1.out.whole;have hPf:0<j→PrAt (wr.setRow (w.heap.size+1) (A8 Sm)) gq j (bB E Pr j):=fun h=>by
    have h1:=PP1.out h;rw[List.drop_eq_nil_of_le (by rw[HPL.out];omega),List.append_nil]at h1;exact h1.grown (aK wr (w.heap.size+1) (A8 Sm)) (by simp;omega)
   have hGf:w.grownBy (wr.setRow (w.heap.size+1) (A8 Sm)) (some gq):=cN G1.out (below_setRow (Below.refl _ _) (by omega) _);have PF:=hid hPf;have GF:=hid hGf;clear hPf hGf hSm;go_wp2;refine aj (A8 Sm) rfl rfl rfl (isAgg42 _) (sizeOf42 _) (by rw[ag];exact hsl) (an _ r3) ⟨by rw[HSm.out],PF.out,GF.out⟩
end Go.Proofs.YtddkbkbpogcffaaGreatDoor
