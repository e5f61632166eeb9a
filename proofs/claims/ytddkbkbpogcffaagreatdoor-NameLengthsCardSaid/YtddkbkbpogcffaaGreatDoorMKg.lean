/-eztiny:counted,Step (by genet.py)-/
import Derived.Test.YtddkbkbpogcffaaGreatDoorMKc
import Derived.Test.YtddkbkbpogcffaaGreatDoorMKa
import Derived.Test.YtddkbkbpogcffaaGreatDoorMIi
import Derived.Test.YtddkbkbpogcffaaGreatDoorMGb
import Derived.Test.YtddkbkbpogcffaaGreatDoorMNc
namespace Go.Proofs.YtddkbkbpogcffaaGreatDoor
open Go.Proofs.Tryz
open Lib (hid)
set_option linter.unusedSimpArgs false
set_option linter.unusedVariables false
set_option maxRecDepth 100000
set_option maxHeartbeats 1600000
open Go.RowKit
def nm(l:Y8):Nat→Y8
 |0=>ac 8 16
 |j+1=>(nm l j).set (15-j) (nth l j)
theorem jQ(l:Y8): ∀j,(nm l j).length=16
 |0=>rfl
 |j+1=>by rw[nm,List.length_set,jQ l j]
def cntB(n:Nat):Y8:=nm (le64 (BitVec.ofNat 64 n)) 8
theorem pP(n:Nat):(cntB n).length=16:=jQ _ _
theorem xW(n:Nat)(w:World):
  Calls prog 320 #[.int .i64 n] w fun e w' =>e= .returned (.agg (A8 (cntB n)))∧Below w.heap.size w w':=by
 obtain⟨W,hW⟩: ∃W,(w.alloc (.cells (A8 (ac 8 16)) 42)).alloc (.cells (A8 (ac 8 16)) 42)=W:=⟨_,rfl⟩;obtain⟨b0,b1,hb,hz⟩:=new2 _ _ _ _ _ _ hW;have Z0:=hid b0;have O0:=hid b1;have B0:=hid hb;obtain⟨N,hN⟩: ∃N,N=BitVec.ofInt 64 (n:Int):=⟨_,rfl⟩;have hc:BitVec.ofInt 64 (n:Int)=N:=hN.symm;obtain⟨l,hl⟩: ∃l,l=le64 N:=⟨_,rfl⟩;have hll:l.length=8:=by rw[hl];rfl
 have hf:nm l 8=cntB n:=by rw[hl,hN,BitVec.ofInt_natCast];rfl
 have HF:=hid hf;have HL:=hid hl.symm;clear b0 b1 hb hz hN hl hf;go_enter func320,ntmps320;go_wp2_with fail;refine(aM N _).mono ?_;rintro e w1 ⟨rfl,d1⟩;rw[HL.out];have Z1:=hid (Z0.out.belowAll d1);have O1:=hid (O0.out.belowAll d1);have B1:=hid (B0.out.trans (d1.mono B0.out.size));clear d1 Z0 O0 B0 hW hc;go_wp2_with fail;go_loopw [9] (fun i wr=> ∃j:Nat,j≤8∧i= .int .i64 j∧Blk wr w.heap.size 42 (A8 (ac 8 16))∧Blk wr (w.heap.size+1) 42 (A8 (nm l j))∧Below w.heap.size w wr) (fun i _=>8-(intOf i).toNat)
 case atStart=>exact⟨0,by omega,rfl,Z1.out,O1.out,B1.out⟩
 case round=>
  obtain⟨j,hj,rfl,hZ,hO,hB⟩:=hrel;have Z2:=hid hZ;have O2:=hid hO;have B2:=hid hB;clear hZ hO hB Z1 O1 B1;have ul:=jQ l j;by_cases hj8:j<8
  ·have j0:(0:Int)≤(j:Int):=by omega
   have j1:(j:Int)<8:=by omega
   have jl:j<l.length:=by omega
   obtain⟨s,hs⟩: ∃s,s=15-j:=⟨_,rfl⟩;have e1:(15:Int)-(j:Int)=(s:Int):=by omega
   have e2:IntKind.i64.wrap (s:Int)=(s:Int):=by rw[IntKind.wrap_i64];omega
   have s0:(0:Int)≤(s:Int):=by omega
   have s1:(s:Int)<16:=by omega
   have co:=O2.out.cell8 ul s (by omega);have fo:=O2.out.frozen s;have kk:=O2.out.set_ s (v8 (nth l j));rw[eL,show(nm l j).set s (nth l j)=nm l (j+1) by rw[nm,hs]]at kk;have O3:=hid kk;have Z3:=hid (Z2.out.far (p:=⟨w.heap.size+1,s,none⟩) (by simp) (v8 (nth l j)));have B3:=hid (B2.out.setCell (p:=⟨w.heap.size+1,s,none⟩) (by simp) (v8 (nth l j)));clear hs kk O2 Z2 B2;go_wp2;exact⟨⟨j+1,by omega,by go_num,Z3.out,O3.out,B3.out⟩,by simp[intOf];omega⟩
  ·obtain rfl:j=8:=by omega
   have zz:=O2.out;rw[HF.out]at zz;have r1:=zz.row;have r2:=Z2.out.row;have r3:=Z2.out.whole;have hcl:=pP n;clear zz;go_wp2;refine aj (A8 (cntB n)) rfl rfl rfl (isAgg42 _) (sizeOf42 _) (by rw[ag];exact hcl) (an _ r3) ⟨rfl,below_setRow B2.out (Nat.le_refl _) _⟩
def iM(E:Int→Nat→Y8→Y8)(h:Y8)(i j:Nat)(H:Y8):Y8:=
 hbs (E 0 i (ar (ar (blk (eE (H++ [8#8]))) h) (cntB j))) 0 H.length
theorem jR(E:Int→Nat→Y8→Y8)(h:Y8)(i j:Nat)(H:Y8):(iM E h i j H).length=H.length:=aL _ _ _
theorem xX(p pt i j:Nat)(I J L h H:Y8)(a:Option Addr)(n c:Nat)(w:World)(HH:EzAt w p pt I J L)(hh:h.length=16)(hi:i≤1000)(hj:j<2^63)(hr:Rd8 w a n c H)(hn:n≤31):
  Calls prog 306 #[.pointer (some ⟨p,0,none⟩),.agg (A8 h),.int .i64 i,.int .i64 j,.slice a n c] w fun e w' => ∃v,e= .returned v∧Own8 w' w.heap.size 5 v (iM (ezE I J L) h i j H)∧Below w.heap.size w w':=by
 obtain⟨W0,hW⟩: ∃W,w.alloc (.cells (A8 h) 42)=W:=⟨_,rfl⟩;obtain⟨b0,hb,hz⟩:=new1 _ _ _ _ hW;have HK:=hid HH;have P0:=hid b0;have B0:=hid hb;have R0:=hid hr;have hHl:=hr.1;have hEl:=hid (cZ I J L);obtain⟨E,hE⟩: ∃E,E=ezE I J L:=⟨_,rfl⟩;have hEc: ∀(i:Nat) (x:Y8) (w1:World),Below w.heap.size w w1→i≤1000→x.length=16→Calls prog 312 #[.pointer (some ⟨p,0,none⟩),.int .i64 0,.int .i64 i,.agg (A8 x)] w1 fun e w' =>e= .returned (.agg (A8 (E 0 i x)))∧Below w1.heap.size w1 w':=by
  intro i x w1 hb hi hx;rw[hE];exact oz p pt 0 i I J L x w1 (HK.out.below hb) (by omega) hi hx
 have EC:=hid hEc;rw[←hE]at hEl⊢;obtain⟨b,hbe⟩: ∃b,b=blk (eE (H++ [8#8])):=⟨_,rfl⟩;have hbl:b.length=16:=by rw[hbe];exact aX _
 obtain⟨t,ht⟩: ∃t,t=cntB j:=⟨_,rfl⟩;have htl:t.length=16:=by rw[ht];exact pP _
 obtain⟨S,hS⟩: ∃S,S=ar (ar b h) t:=⟨_,rfl⟩;have hSl:S.length=16:=by rw[hS];exact ak _ _
 obtain⟨X,hX⟩: ∃X,X=E 0 i S:=⟨_,rfl⟩;have hXl:X.length=16:=by rw[hX];exact hEl.out _ _ _
 have hHH:iM E h i j H=hbs X 0 n:=by rw[iM,hX,hS,hbe,ht,hHl]
 have HB:=hid hbe.symm;have HT:=hid ht.symm;have HS:=hid hS.symm;have HX:=hid hX.symm;have HL:=hid hHl;have i0:(0:Int)≤(i:Int):=by omega
 have j0:(0:Int)≤(j:Int):=by omega
 have n31:(n:Int)≤31:=by omega
 have i1: ¬(i:Int)<0:=by omega
 have j1: ¬(j:Int)<0:=by omega
 have n1: ¬(31:Int)<(n:Int):=by omega
 clear hE hEc hbe ht hS hX b0 hb hz hr HH hHl;have HH:=hid hHH;clear hHH;go_enter func306,ntmps306;go_upto_region 3 with fail;refine aG [0,2,2,2,2,2,2,2] rfl (fun ops' K2 hK2=> ?_)
 repeat (first|((with_reducible refine zq0 ?_);refine zq0a ?_)|((with_reducible refine zq1 ?_);refine zq1a ?_))
 (with_reducible refine bC rfl ?_)
 go_simp;refine af ?_;refine(nV H a n c W0 (R0.out.below B0.out) (by omega)).mono ?_;rintro e w1 ⟨v1,rfl,o1,d1⟩;refine⟨_,rfl,?_⟩
 try simp only[Act.put,zz1,zz2,zz3]
 refine iB (x:=8#8) rfl underlying22 bM (fun w2 b2 hr2 d2=> ?_);simp only[Act.put,zz1,zz2,zz3];refine bE (o1.below d2) hr2 rfl rfl underlying22 bM (by have:=HL.out;omega) (Nat.le_trans d1.size d2.size) (fun w3 v3 o3 g3 d3=> ?_);simp only[Act.put,zz1,zz2,zz3];obtain⟨a3,c3,rfl,hr3,_⟩:=o3.rd;have hl3:(H++ [8#8]).length=n+1:=by rw[List.length_append,HL.out];rfl
 rw[hl3]at hr3⊢
 (with_reducible refine bC rfl ?_)
 go_simp;refine af ?_;refine(sy (H++ [8#8]) a3 (n+1) c3 w3 hr3 (by omega)).mono ?_;rintro e w4 ⟨v4,rfl,o4,d4⟩;refine⟨_,rfl,?_⟩
 try simp only[Act.put,zz1,zz2,zz3]
 obtain⟨a4,c4,rfl,hr4,_⟩:=o4.rd;have hjl:(eE (H++ [8#8])).length=(n+1+1)/2:=by rw[cV,hl3]
 rw[hjl]at hr4⊢
 (with_reducible refine bC rfl ?_)
 go_simp;refine af ?_;refine(bD (eE (H++ [8#8])) a4 _ c4 w4 hr4).mono ?_;rintro e w5 ⟨rfl,d5⟩;refine⟨_,rfl,?_⟩
 try simp only[Act.put,zz1,zz2,zz3]
 rw[HB.out];have E1:=B0.out.trans (d1.mono B0.out.size);have E2:=E1.trans (d2.mono E1.size);have E3:=E2.trans (d3.mono B0.out.size);have E4:=E3.trans (d4.mono E3.size);have E5:=E4.trans (d5.mono E4.size);have F2:=d1.trans (d2.mono d1.size);have F3:=F2.trans (d3.mono (Nat.le_refl _));have F4:=F3.trans (d4.mono F3.size);have F5:=F4.trans (d5.mono F4.size);obtain⟨w6,eu6⟩: ∃u,w5.alloc (.cells (A8 (ac 8 16)) 42)=u:=⟨_,rfl⟩;obtain⟨b6,d6,zu⟩:=new1 _ _ _ _ eu6;obtain⟨gb,hgb⟩: ∃g,g=w5.heap.size:=⟨_,rfl⟩;refine oV (v:= .pointer (some ⟨gb,0,none⟩)) (w1:=w6) rfl (by rw[hgb];go_simp<;>exact eu6) ?_;simp only[Act.put,zz1,zz2,zz3];rw[←hgb]at b6;refine aq b6 rfl rfl (by rw[ag,ag,hbl,ah]) (aH _) (by rw[ag,hbl];exact sizeOf42 _) (fun W k7 g7 s7=> ?_);refine az (hK2 _ _ ?_);have NB:=hid k7;have F6:=F5.trans (d6.mono F5.size);have E6:=E5.trans (d6.mono E5.size);have hgl:w.heap.size<gb:=by have:=P0.out.lt;have:=F5.size;rw[hgb];omega
 have PH:=hid ((P0.out.belowAll F6).grown g7 (by simp;omega));have B1:=hid (E6.trans (ae g7 (by omega) E6.size));clear hjl o1 d1 hr2 d2 o3 g3 d3 hr3 o4 d4 hr4 d5 E1 E2 E3 E4 E5 F2 F3 F4 F5 eu6 b6 d6 zu hgb k7 g7 s7 F6 E6 hK2 hl3 P0 B0 R0;have hWl:w.heap.size≤W.heap.size:=B1.out.size;go_upto_region 4 with fail;refine aQ [0,0,5,5,0,2,2,2,2,2,3] [0,1,2,3,4] [(5,2,_),(6,2,_),(7,2,_),(8,2,_),(9,2,_)] (fun i=>if i=6 then [5]else if i=7 then [6]else if i=8 then [7]else []) [10] [_,_,_,_,_] [_] [0,0,5,5,0] [3] 5 rfl rfl rfl (by kernel_rfl) (by kernel_rfl) (by kernel_rfl) rfl rfl rfl (fun w1=>Below W.drew.heap.size W.drew w1) (fun _ _ h k=>h.trans (Below.mono k h.size)) (Below.refl _ _) (fun K' hK' => ?_);have Q1: ∀w1,(fun w1=>Below W.drew.heap.size W.drew w1) w1→aF w1 gb=A8 b:=fun w1 hw=>(NB.out.drew.belowAll hw).row;have Q2: ∀w1,(fun w1=>Below W.drew.heap.size W.drew w1) w1→aF w1 w.heap.size=A8 h:=fun w1 hw=>(PH.out.drew.belowAll hw).row
 repeat (first|((with_reducible refine hq0 ?_);refine hq0a ?_)|((with_reducible refine hq5 ?_);refine hq5a ?_ (fun _ hcw=>by have fQ1:=Q1 _ hcw;have fQ2:=Q2 _ hcw;go_simp;(try go_bits);exact rfl))|((with_reducible refine hq1 ?_);refine hq1a ?_))
 refine aA ?_;clear Q1 Q2;generalize hAct:Act.mk _ _=act;obtain⟨u,rfl⟩: ∃u:Nat→Value,act={tmps:=(fun u:Nat→Value=>(Value.pointer (some ⟨p,0,none⟩)::u 1::Value.int .i64 i::Value.int .i64 j::Value.slice a n c::u 5::Value.pointer (some ⟨w.heap.size,0,none⟩)::u 7::u 8::u 9::u 10::Value.pointer (some ⟨gb,0,none⟩)::u 12::u 13::u 14::u 15::u 16::u 17::u 18::u 19::u 20::u 21::u 22::u 23::u 24::u 25::u 26::u 27::u 28::u 29::u 30::u 31::u 32::u 33::u 34::u 35::Value.pointer (some ⟨p,0,none⟩)::Value.int .i64 i::Value.agg (A8 b)::Value.agg (A8 h)::Value.int .i64 j::u 41::u 42::u 43::u 44::u 45::u 46::u 47::u 48::u 49::u 50::u 51::u 52::u 53::u 54::[]).toArray) u,defers:=[]}:=by
  subst hAct;exact aE _ rfl
 clear hAct;obtain⟨St,hSt⟩: ∃St:(Nat→Bool)→Act→World→Prop,∀dn a' w',St dn a' w'↔(∃x41 x42 x43 x44 x12:Value,a' ={tmps:=(Value.pointer (some ⟨p,0,none⟩)::u 1::Value.int .i64 i::Value.int .i64 j::Value.slice a n c::u 5::Value.pointer (some ⟨w.heap.size,0,none⟩)::u 7::u 8::u 9::u 10::Value.pointer (some ⟨gb,0,none⟩)::x12::u 13::u 14::u 15::u 16::u 17::u 18::u 19::u 20::u 21::u 22::u 23::u 24::u 25::u 26::u 27::u 28::u 29::u 30::u 31::u 32::u 33::u 34::u 35::Value.pointer (some ⟨p,0,none⟩)::Value.int .i64 i::Value.agg (A8 b)::Value.agg (A8 h)::Value.int .i64 j::x41::x42::x43::x44::u 45::u 46::u 47::u 48::u 49::u 50::u 51::u 52::u 53::u 54::[]).toArray,defers:=[]}∧Below W.drew.heap.size W.drew w'∧(dn 5=true→x41= .agg (A8 t))∧(dn 6=true→ ∃g,x42= .slice (some ⟨g,0,none⟩) 3 3∧Blk w' g 42 (A8 (b++h++t)))∧(dn 7=true→x43= .agg (A8 S))∧(dn 8=true→x44= .agg (A8 X))∧(dn 9=true→ ∃g,x12= .pointer (some ⟨g,0,none⟩)∧W.heap.size≤g∧Blk w' g 42 (A8 (ac 8 16)))):=⟨_,fun _ _ _=>Iff.rfl⟩;refine cG (St:=St) [_,_,_,_,_] ⟨?ts1,?ts2,?ts3,?ts4,?ts5,trivial⟩ ?td ?tn ?tR ?t0
 case t0=>exact(hSt _ _ _).2 ⟨_,_,_,_,_,rfl,Below.refl _ _,fun h=>Bool.noConfusion h,fun h=>Bool.noConfusion h,fun h=>Bool.noConfusion h,fun h=>Bool.noConfusion h,fun h=>Bool.noConfusion h⟩
 case td=>decide
 case tn=>decide
 case ts1=>
  intro dn a3 w3 hd hs;obtain⟨x41,x42,x43,x44,x12,rfl,D3,h1,h2,h3,h4,h5⟩:=(hSt _ _ _).1 hs;clear hs;clear hd;refine ai ?_;refine hqc ?_;go_simp;refine af ?_;refine(xW j w3).mono ?_;rintro e w4 ⟨rfl,d4⟩;refine⟨_,rfl,d4,?_⟩
  try simp only[Act.put,zz1,zz2,zz3]
  rw[HT.out];exact aA ((hSt _ _ _).2 ⟨_,_,_,_,_,rfl,D3.trans (d4.mono D3.size),fun _=>rfl,fun e=>(h2 (by simpa using e)).imp fun _ h=>⟨h.1,h.2.belowAll d4⟩,fun e=>h3 (by simpa using e),fun e=>h4 (by simpa using e),fun e=>(h5 (by simpa using e)).imp fun _ h=>⟨h.1,h.2.1,h.2.2.belowAll d4⟩⟩)
 case ts2=>
  intro dn a3 w3 hd hs;obtain⟨x41,x42,x43,x44,x12,rfl,D3,h1,h2,h3,h4,h5⟩:=(hSt _ _ _).1 hs;clear hs;obtain rfl:=h1 (hd 5 (by decide));clear hd;refine ai ?_;refine vT (x:= .agg (A8 b)) (y:= .agg (A8 h)) (z:= .agg (A8 t)) (size:=16) rfl rfl rfl (by show(A8 b).size=16;rw[ag,hbl]) (by show(A8 h).size=16;rw[ag,hh]) (by show(A8 t).size=16;rw[ag,htl]) (by omega) (by omega) underlying39 bN (fun w4 g4 b4 d4=> ?_);simp only[Act.put,zz1,zz2,zz3];rw[show(Value.agg (A8 b)).cells++(Value.agg (A8 h)).cells++(Value.agg (A8 t)).cells=A8 (b++h++t) by rw[←aN,←aN];rfl]at b4;exact aA ((hSt _ _ _).2 ⟨_,_,_,_,_,rfl,D3.trans (d4.mono D3.size),fun e=>h1 (by simpa using e),fun _=>⟨g4,rfl,b4⟩,fun e=>h3 (by simpa using e),fun e=>h4 (by simpa using e),fun e=>(h5 (by simpa using e)).imp fun _ h=>⟨h.1,h.2.1,h.2.2.belowAll d4⟩⟩)
 case ts3=>
  intro dn a3 w3 hd hs;obtain⟨x41,x42,x43,x44,x12,rfl,D3,h1,h2,h3,h4,h5⟩:=(hSt _ _ _).1 hs;clear hs;obtain⟨g2,rfl,b2⟩:=h2 (hd 6 (by decide));clear hd;refine ai ?_;refine hqc ?_;go_simp;refine af ?_;refine(Dn (b++h++t) g2 3 3 w3 (RdS.of_blk b2 (by rw[List.length_append,List.length_append,hbl,hh,htl]) (by omega)) (by omega)).mono ?_;rintro e w4 ⟨rfl,d4⟩;refine⟨_,rfl,d4,?_⟩
  try simp only[Act.put,zz1,zz2,zz3]
  rw[Fw b h t hbl hh htl,HS.out];exact aA ((hSt _ _ _).2 ⟨_,_,_,_,_,rfl,D3.trans (d4.mono D3.size),fun e=>h1 (by simpa using e),fun e=>(h2 (by simpa using e)).imp fun _ h=>⟨h.1,h.2.belowAll d4⟩,fun _=>rfl,fun e=>h4 (by simpa using e),fun e=>(h5 (by simpa using e)).imp fun _ h=>⟨h.1,h.2.1,h.2.2.belowAll d4⟩⟩)
 case ts4=>
  intro dn a3 w3 hd hs;obtain⟨x41,x42,x43,x44,x12,rfl,D3,h1,h2,h3,h4,h5⟩:=(hSt _ _ _).1 hs;clear hs;obtain rfl:=h3 (hd 7 (by decide));clear hd;refine ai ?_;have E3:=B1.out.drew.trans (D3.mono B1.out.size);refine hqc ?_;go_simp;refine af ?_;refine(EC.out i S w3 E3 hi hSl).mono ?_;rintro e w4 ⟨rfl,d4⟩;refine⟨_,rfl,d4,?_⟩
  try simp only[Act.put,zz1,zz2,zz3]
  rw[HX.out];exact aA ((hSt _ _ _).2 ⟨_,_,_,_,_,rfl,D3.trans (d4.mono D3.size),fun e=>h1 (by simpa using e),fun e=>(h2 (by simpa using e)).imp fun _ h=>⟨h.1,h.2.belowAll d4⟩,fun e=>h3 (by simpa using e),fun _=>rfl,fun e=>(h5 (by simpa using e)).imp fun _ h=>⟨h.1,h.2.1,h.2.2.belowAll d4⟩⟩)
 case ts5=>
  intro dn a3 w3 hd hs;obtain⟨x41,x42,x43,x44,x12,rfl,D3,h1,h2,h3,h4,h5⟩:=(hSt _ _ _).1 hs;clear hs;clear hd;refine ai ?_;obtain⟨w4,eu4⟩: ∃u,w3.alloc (.cells (A8 (ac 8 16)) 42)=u:=⟨_,rfl⟩;obtain⟨b4,d4,zu⟩:=new1 _ _ _ _ eu4;obtain⟨pf,hpf⟩: ∃g,g=w3.heap.size:=⟨_,rfl⟩;refine aY (v:= .pointer (some ⟨pf,0,none⟩)) (w':=w4) rfl (by rw[hpf];go_simp;exact eu4) d4 ?_;simp only[Act.put,zz1,zz2,zz3];rw[←hpf]at b4;exact aA ((hSt _ _ _).2 ⟨_,_,_,_,_,rfl,D3.trans (d4.mono D3.size),fun e=>h1 (by simpa using e),fun e=>(h2 (by simpa using e)).imp fun _ h=>⟨h.1,h.2.belowAll d4⟩,fun e=>h3 (by simpa using e),fun e=>h4 (by simpa using e),fun _=>⟨pf,rfl,by rw[hpf];exact D3.size,b4⟩⟩)
 case tR=>
  intro dn a3 w3 hall hs;obtain⟨x41,x42,x43,x44,x12,rfl,D3,h1,h2,h3,h4,h5⟩:=(hSt _ _ _).1 hs;clear hs hSt;obtain rfl:=h1 (hall 5 (by simp));obtain⟨g2,rfl,b2⟩:=h2 (hall 6 (by simp));obtain rfl:=h3 (hall 7 (by simp));obtain rfl:=h4 (hall 8 (by simp));obtain⟨g5,rfl,k5,b5⟩:=h5 (hall 9 (by simp));clear hall;refine bI ?_;refine aq b5 rfl rfl (by rw[ag,ag,hXl,ah]) (aH _) (by rw[ag,hXl];exact sizeOf42 _) (fun w4 kk4 g6 s4=> ?_);have BD:=D3.trans (ae g6 k5 D3.size);refine az ⟨BD,?_⟩;refine cQ (hK' _ _ ?_);have E4:=hid (B1.out.drew.trans (BD.mono B1.out.size));have X4:=kk4.rd8 16 (by omega) (by rw[hXl];unfold maxLen;omega);rw[List.take_of_length_le (by omega),hXl]at X4;have X4:=hid X4;have hlv:=hid (mr X (some ⟨g5,0,none⟩) 16 16 0 n w4 X4.out (by omega) (by omega));clear hK' D3 BD g6 s4 kk4 h1 h2 h3 h4 h5 b5;rw[flt0]at hlv;obtain⟨D,hD⟩: ∃D,D=flt n:=⟨_,rfl⟩;have f1:floatOfInt .f64 (n:Int)=D:=hD.symm;rw[←hD]at hlv;clear hD;go_wp2_with fail;refine hlv.out.mono ?_;rintro e w5 ⟨v,rfl,o5,d5⟩;have O5:=hid (o5.base E4.out.size);have E5:=hid (E4.out.trans (d5.mono E4.out.size));clear o5 d5 hlv;go_wp2;refine bodyPost_ret (results_tmp rfl _ _ _) rfl ?_;exact⟨_,rfl,by rw[HH.out];exact O5.out,E5.out⟩
open Go.RowKit
theorem sK(a1:Option Addr)(n1 c1:Nat)(a2:Option Addr)(n2 c2:Nat)(w:World):(dM 368 (.slice a1 n1 c1) (.slice a2 n2 c2)).run prog w= .ok (.agg #[.slice a1 n1 c1,.slice a2 n2 c2]) w:=by kernel_rfl
theorem xZ(p n c:Nat)(h M:Y8)(a:Option Addr)(w:World)(hr:Rd8 w a n c M)(hn:16≤n)(hn2:n≤31):
  Calls prog 304 #[.pointer (some ⟨p,0,none⟩),.agg (A8 h),.slice a n c] w fun e w' => ∃v,e= .returned v∧Own8 w' w.heap.size 5 v M∧Below w.heap.size w w':=by
 obtain⟨W,hW⟩: ∃W,w.alloc (.cells (A8 h) 42)=W:=⟨_,rfl⟩;obtain⟨b0,hb,hz⟩:=new1 _ _ _ _ hW;have B0:=hid hb;have R0:=hid hr;have n1: ¬(n:Int)=0:=by omega
 have n2:(16:Int)≤(n:Int):=by omega
 clear b0 hb hz hr;go_enter func304,ntmps304;go_wp2_with fail;refine(nV M a n c W (R0.out.below B0.out) (by omega)).mono ?_;rintro e w1 ⟨v1,rfl,o1,d1⟩;have O1:=hid (o1.base B0.out.size);have B1:=hid (B0.out.trans (d1.mono B0.out.size));clear o1 d1;go_wp2;refine bodyPost_ret (results_tmp rfl _ _ _) rfl ?_;exact⟨_,rfl,O1.out,B1.out⟩
theorem jS(n:Nat)(w:World)(hn:16≤n)(hn2:n≤31):
  Calls prog 303 #[.int .i64 n] w fun e w' =>e= .returned (.int .i64 8)∧w=w':=by
 have n1: ¬(n:Int)<1:=by omega
 have n2: ¬(31:Int)<(n:Int):=by omega
 have n3: ¬(n:Int)=1:=by omega
 have n4: ¬(n:Int)=2:=by omega
 have n5: ¬(n:Int)<16:=by omega
 go_enter func303,ntmps303;go_wp2;refine bodyPost_ret (results_tmp rfl _ _ _) rfl ?_;exact⟨rfl,rfl⟩
theorem pQ(n c:Nat)(M:Y8)(a:Option Addr)(w:World)(hr:Rd8 w a n c M)(hn2:n≤31):
  Calls prog 305 #[.slice a n c] w fun e w' => ∃v1 v2,e= .returned (.agg #[v1,v2])∧Own8 w' w.heap.size 5 v1 (hbs M 0 n)∧Own8 w' w.heap.size 5 v2 (hbs M n n)∧Below w.heap.size w w':=by
 obtain⟨W,hW⟩: ∃W,w.alloc (.cells #[.slice none 0 0,.slice none 0 0] 368)=W:=⟨_,rfl⟩;obtain⟨b0,hb,hz⟩:=new1 _ _ _ _ hW;have P0:=hid b0;have B0:=hid hb;have R0:=hid hr;have hv0:=hid (fun(w1:World) (h:Rd8 w1 a n c M)=>mr M a n c 0 n w1 h (by omega) hn2);have hv1:=hid (fun(w1:World) (h:Rd8 w1 a n c M)=>mr M a n c n n w1 h (by omega) hn2);rw[flt0]at hv0;obtain⟨D,hD⟩: ∃D,D=flt n:=⟨_,rfl⟩;have f1:floatOfInt .f64 (n:Int)=D:=hD.symm;rw[←hD]at hv0 hv1;clear hD b0 hb hz hr;go_enter func305,ntmps305;go_wp2_with fail;refine(hv0.out W (R0.out.below B0.out)).mono ?_;rintro e w1 ⟨v1,rfl,o1,d1⟩;have O1:=hid o1;have B1:=hid (B0.out.trans (d1.mono B0.out.size));have P1:=hid (P0.out.belowAll d1);clear o1 d1;go_wp2_with fail;refine(hv1.out w1 (R0.out.below B1.out)).mono ?_;rintro e w2 ⟨v2,rfl,o2,d2⟩;have O2:=hid o2;have O3:=hid (O1.out.below d2);have B2:=hid (B1.out.trans (d2.mono B1.out.size));have P2:=hid (P1.out.belowAll d2);clear d2 o2;obtain⟨a1,c1,rfl,_,_⟩:=O3.out.rd;obtain⟨a2,c2,rfl,_,_⟩:=O2.out.rd;rw[aL]at O2 O3⊢;have r1:=P2.out.row;have r2:=P2.out.whole;have e1:=sK a1 n c1 a2 n c2;have e2:ones #[Value.slice a1 n c1,Value.slice a2 n c2]=true:=by simp[ones,Value.oneCell']
 have P3:=P2.out.put #[.slice a1 n c1,.slice a2 n c2];have B3:=hid (below_setRow B2.out (Nat.le_refl _) #[Value.slice a1 n c1,Value.slice a2 n c2]);have G3:=aK w2 w.heap.size #[Value.slice a1 n c1,Value.slice a2 n c2];have hWs:w.heap.size<W.heap.size:=P0.out.lt;have hw1:w.heap.size<w1.heap.size:=P1.out.lt;have Q2:=hid ((O2.out.grown G3 hw1).base (Nat.le_of_lt hw1));have Q1:=hid ((O3.out.grown G3 hWs).base (Nat.le_of_lt hWs));have r3:=P3.row;clear P3 G3 O2 O3 hv0 hv1 f1 hW;go_wp2;refine aj #[.slice a1 n c1,.slice a2 n c2] rfl rfl rfl (isAgg368 _) (sizeOf368 _) rfl r3 ⟨_,_,rfl,Q1.out,Q2.out,B3.out⟩
open Go.RowKit
theorem Own8.keptNe {w w':World} {B g:Nat} {e:TypeId} {v:Value} {l:Y8}(h:Own8 w B e v l)(hg:w.grownBy w' (some g))(hne:v.ownBlock≠some g):Own8 w' B e v l:=
 World.ownsRow.kept h hg (by
  cases hv:v.ownBlock with
  |none=>exact .inl rfl
  |some k=>exact .inr fun e=>hne (by rw[hv,←e]))
section
variable (S:Nat→Y8→Y8) (σ:Nat→Nat)
def genT(p:Y8×Y8):Nat→Y8×Y8
 |0=>p
 |k+1=>((genT p k).2,xorl (genT p k).1 (S (σ k) (genT p k).2))
theorem sL(n:Nat)(hS: ∀j x,x.length=n→(S j x).length=n)(p:Y8×Y8)(h1:p.1.length=n)(h2:p.2.length=n): ∀k,(genT S σ p k).1.length=n∧(genT S σ p k).2.length=n
 |0=>⟨h1,h2⟩
 |k+1=>by
  have h:=sL n hS p h1 h2 k;exact⟨h.2,by rw[genT,aJ,h.1,hS _ _ h.2];omega⟩
theorem ya(p:Y8×Y8): ∀k,genT S (fun k=>k) p k=encT S k p
 |0=>rfl
 |k+1=>by rw[genT,encT,ya p k]
theorem yb(p:Y8×Y8): ∀k,k≤8→decT S (8-k) (genT S (fun k=>7-k) p k)=decT S 8 p
 |0,_=>rfl
 |k+1,h=>by
  rw[←yb p k (by omega),show 8-k=(8-(k+1))+1 by omega,vf,genT,show 8-(k+1)=7-k by omega]
end
def TyE(w:World)(p n:Nat)(h:Y8)(G:Nat→Y8×Y8)(a':Act)(w':World):Prop:=
 ∃(k gh gb:Nat) (v0 v1:Value) (a2:Option Addr) (c2:Nat),(∃u:Nat→Value,a' ={tmps:=(fun u:Nat→Value=>(Value.pointer (some ⟨p,0,none⟩)::u 1::Value.slice a2 n c2::Value.bool false::u 4::u 5::u 6::u 7::u 8::u 9::Value.pointer (some ⟨gh,0,none⟩)::Value.int .i64 6::Value.int .i64 (((k:Nat):Int))::Value.int .i64 (1)::Value.pointer (some ⟨gb,0,none⟩)::u 15::u 16::u 17::u 18::u 19::u 20::u 21::u 22::u 23::u 24::u 25::u 26::u 27::u 28::u 29::u 30::u 31::u 32::u 33::u 34::u 35::u 36::u 37::u 38::u 39::u 40::u 41::u 42::u 43::u 44::u 45::u 46::u 47::u 48::u 49::u 50::u 51::u 52::u 53::u 54::u 55::u 56::u 57::u 58::u 59::u 60::u 61::u 62::u 63::u 64::u 65::u 66::u 67::u 68::u 69::u 70::u 71::u 72::u 73::u 74::u 75::u 76::u 77::u 78::u 79::u 80::u 81::u 82::[]).toArray) u,defers:=[]})∧
  k<8∧w.heap.size≤gh∧w.heap.size≤gb∧gh≠gb∧gb<w'.heap.size∧Blk w' gh 42 (A8 h)∧Blk w' gb 368 #[v0,v1]∧Own8 w' w.heap.size 5 v0 (G k).1∧Own8 w' w.heap.size 5 v1 (G k).2∧v0.ownBlock≠some gb∧v1.ownBlock≠some gb∧Below w.heap.size w w'
def TyD(w:World)(p n:Nat)(h:Y8)(G:Nat→Y8×Y8)(a':Act)(w':World):Prop:=
 ∃(k gh gb:Nat) (v0 v1:Value) (a2:Option Addr) (c2:Nat),(∃u:Nat→Value,a' ={tmps:=(fun u:Nat→Value=>(Value.pointer (some ⟨p,0,none⟩)::u 1::Value.slice a2 n c2::Value.bool true::u 4::u 5::u 6::u 7::u 8::u 9::Value.pointer (some ⟨gh,0,none⟩)::Value.int .i64 6::Value.int .i64 (((7-k:Nat):Int))::Value.int .i64 (-1)::Value.pointer (some ⟨gb,0,none⟩)::u 15::u 16::u 17::u 18::u 19::u 20::u 21::u 22::u 23::u 24::u 25::u 26::u 27::u 28::u 29::u 30::u 31::u 32::u 33::u 34::u 35::u 36::u 37::u 38::u 39::u 40::u 41::u 42::u 43::u 44::u 45::u 46::u 47::u 48::u 49::u 50::u 51::u 52::u 53::u 54::u 55::u 56::u 57::u 58::u 59::u 60::u 61::u 62::u 63::u 64::u 65::u 66::u 67::u 68::u 69::u 70::u 71::u 72::u 73::u 74::u 75::u 76::u 77::u 78::u 79::u 80::u 81::u 82::[]).toArray) u,defers:=[]})∧
  k<8∧w.heap.size≤gh∧w.heap.size≤gb∧gh≠gb∧gb<w'.heap.size∧Blk w' gh 42 (A8 h)∧Blk w' gb 368 #[v0,v1]∧Own8 w' w.heap.size 5 v0 (G k).1∧Own8 w' w.heap.size 5 v1 (G k).2∧v0.ownBlock≠some gb∧v1.ownBlock≠some gb∧Below w.heap.size w w'
def Ji:Value→Nat
 | .int _ n=>(8-n).toNat
 |_=>0
def Jj:Value→Nat
 | .int _ n=>(n+1).toNat
 |_=>0
theorem yc(p pt gr m cr n c:Nat)(I J L M:Y8)(cells:Array Value)(rows:List (Y8))(a:Option Addr)(w:World)(H:EzAt w p pt I J L)(hb:Blk w gr 22 cells)(hs:SlsAt w cells rows)(hm:rows.length=m)(hm1:m≤100)(hlen: ∀k,k<m→(rows.getD k []).length≤16000)
  (hr:Rd8 w a n c M) (hn:16≤n) (hn2:n≤31):
  Calls prog 300 #[.pointer (some ⟨p,0,none⟩),.slice (some ⟨gr,0,none⟩) m cr,.slice a n c,.bool false] w fun e w' => ∃v,e= .returned (.tuple #[v,.int .i64 0])∧Own8 w' w.heap.size 5 v (kj (iM (ezE I J L) (eg (ezE I J L) rows m) 6) 8 M)∧Below w.heap.size w w':=by
 have hMl:=hr.1;have hH:=oB p pt gr m cr I J L cells rows w H hb hs hm hm1 hlen;have HK:=hid H;have R0:=hid hr;obtain⟨h,hh⟩: ∃h,h=eg (ezE I J L) rows m:=⟨_,rfl⟩;have hhl:h.length=16:=by rw[hh];exact gL _ _ _
 rw[←hh]at hH⊢;have hSt: ∀(j:Nat) (x:Y8) (ax:Option Addr) (cx:Nat) (w1:World),Below w.heap.size w w1→j≤100→Rd8 w1 ax n cx x→Calls prog 306 #[.pointer (some ⟨p,0,none⟩),.agg (A8 h),.int .i64 6,.int .i64 j,.slice ax n cx] w1 fun e w' => ∃v,e= .returned v∧Own8 w' w1.heap.size 5 v (iM (ezE I J L) h 6 j x)∧Below w1.heap.size w1 w':=
  fun j x ax cx w1 hb hj hx=>xX p pt 6 j I J L h x ax n cx w1 (HK.out.below hb) hhl (by omega) (by omega) hx hn2
 obtain⟨S,hS⟩: ∃S,S=iM (ezE I J L) h 6:=⟨_,rfl⟩;have hSl: ∀j x,x.length=n→(S j x).length=n:=fun j x hx=>by rw[hS,jR,hx]
 rw[←hS]at hSt⊢;obtain⟨P0,hP0⟩: ∃P0,P0=(hbs M 0 n,hbs M n n):=⟨_,rfl⟩;obtain⟨G,hG⟩: ∃G,G=genT S (fun k=>k) P0:=⟨_,rfl⟩;have hGl: ∀k,(G k).1.length=n∧(G k).2.length=n:=fun k=>by rw[hG];exact sL S _ n hSl P0 (by rw[hP0];exact aL _ _ _) (by rw[hP0];exact aL _ _ _) k
 have hG0:(G 0).1=hbs M 0 n∧(G 0).2=hbs M n n:=by rw[hG,genT,hP0];exact⟨rfl,rfl⟩
 have hGs: ∀k,(G (k+1)).1=(G k).2∧(G (k+1)).2=xorl (G k).1 (S (k) (G k).2):=fun k=>by rw[hG,genT];exact⟨rfl,rfl⟩
 have hfin:eE ((G 8).2++(G 8).1)=kj S 8 M:=by
  rw[hG,ya,kj,hP0,hMl]
 have ST:=hid hSt;have HSL:=hid hSl;have HS:=hid hH;have HGL:=hid hGl;have HG0:=hid hG0;have HGS:=hid hGs;have HFIN:=hid hfin;have HML:=hid hMl;have n0: ¬(n:Int)=0:=by omega
 have n1: ¬(31:Int)<(n:Int):=by omega
 have n2:(16:Int)≤(n:Int):=by omega
 clear hr H hb hs hh hS hSl hP0 hG hGl hG0 hGs hfin hSt hH hMl;go_enter func300,ntmps300;go_wp2_with fail;refine bd 0 (TyE w p n h G) (fun a' _=>Ji (a'.tmps.getD 12 undef)) rfl (fun hrest=> ?_) ?_
 ·go_wp2_with fail;refine HS.out.mono ?_;rintro e w1 ⟨rfl,d1⟩;have A1:=hid (Blk.new w1 42 (A8 h));have B1:=hid (d1.alloc d1.size (.cells (A8 h) 42));have hge:=d1.size;clear d1 HS;go_wp2_with fail;generalize w1.alloc (.cells (A8 h) 42)=W1 at*;generalize w1.heap.size=gh at*;have RM:=hid (R0.out.below B1.out);have A2:=hid A1.out;have B2:=hid B1.out;have hge2:gh<W1.heap.size:=A2.out.lt;clear A1 B1;refine(pQ n c M a W1 RM.out hn2).mono ?_;rintro e w3 ⟨v0,v1,rfl,o0,o1,d3⟩;obtain⟨a0,c0,rfl,_,_⟩:=o0.rd;obtain⟨a1,c1,rfl,_,_⟩:=o1.rd;rw[aL]at o0 o1⊢;have hbase:=B2.out.size;have O0:=hid (o0.base hbase);have O1:=hid (o1.base hbase);have hl0:=World.ownsRow.lt o0;have hl1:=World.ownsRow.lt o1;have A3:=hid (A2.out.belowAll d3);have B3:=hid (B2.out.trans (d3.mono B2.out.size));clear o0 o1 d3 A2 B2;have e2:ones #[Value.slice a0 n c0,Value.slice a1 n c1]=true:=by simp[ones,Value.oneCell']
  have A4:=hid (A3.out.alloc (.cells #[Value.slice a0 n c0,Value.slice a1 n c1] 368));have N4:=hid (Blk.new w3 368 #[Value.slice a0 n c0,Value.slice a1 n c1]);have O4:=hid (O0.out.below ((Below.refl w3.heap.size w3).alloc (Nat.le_refl _) (.cells #[Value.slice a0 n c0,Value.slice a1 n c1] 368)));have P4:=hid (O1.out.below ((Below.refl w3.heap.size w3).alloc (Nat.le_refl _) (.cells #[Value.slice a0 n c0,Value.slice a1 n c1] 368)));have B4:=hid (B3.out.alloc B3.out.size (.cells #[Value.slice a0 n c0,Value.slice a1 n c1] 368));have hne0:Value.ownBlock (.slice a0 n c0)≠some w3.heap.size:=fun e=>by have:=(hl0 _ e).2;omega
  have hne1:Value.ownBlock (.slice a1 n c1)≠some w3.heap.size:=fun e=>by have:=(hl1 _ e).2;omega
  have hg3:w.heap.size≤w3.heap.size:=B3.out.size;have hgb:gh<w3.heap.size:=A3.out.lt;have HE:=hid (And.intro hne0 hne1);clear O0 O1 A3 B3 hl0 hl1 hne0 hne1;go_wp2_with fail;refine wp_label ?_;simp only[Exit.then];refine ‹∀(a:Act) (w_1:World),Code.wp _ _ _ a w_1→_› _ _ (hrest _ _ ?_);exact⟨0,gh,w3.heap.size,_,_,a,c,aE _ rfl,by omega,hge,hg3,by omega,by simp,A4.out,N4.out,by rw[HG0.out.1];exact O4.out,by rw[HG0.out.2];exact P4.out,HE.out.1,HE.out.2,B4.out⟩
 ·rintro a' w' ⟨k,gh,gb,v0,v1,a2,c2,⟨u,rfl⟩,hk,hgh,hgb,hne,hlt,hA,hN,ho0,ho1,hn0,hn1,hB⟩;clear HS R0 HG0;have hl0:=(HGL.out k).1;have hl1:=(HGL.out k).2;have hgs:=HGS.out k;obtain⟨X0,hX0⟩: ∃X,X=(G k).1:=⟨_,rfl⟩;obtain⟨X1,hX1⟩: ∃X,X=(G k).2:=⟨_,rfl⟩;rw[←hX0]at ho0 hl0 hgs;rw[←hX1]at ho1 hl1 hgs;clear hX0 hX1;obtain⟨a0,c0,rfl,hr0,_⟩:=ho0.rd;obtain⟨a1,c1,rfl,hr1,_⟩:=ho1.rd;rw[hl0]at hr0 ho0 hn0 hN;rw[hl1]at hr1 ho1 hn1 hN
  skip
  have A1:=hid hA;have N1:=hid hN;have O1:=hid ho0;have P1:=hid ho1;have B1:=hid hB;have R0:=hid hr0;have R1:=hid hr1;have HE:=hid (And.intro hn0 hn1);have HX:=hid hgs;obtain⟨Y,hY⟩: ∃Y,Y=S k X1:=⟨_,rfl⟩;have hYG:(G (k+1)).2=xorl X0 Y:=by rw[hgs.2,hY]
  have hYl:Y.length=n:=by rw[hY];exact HSL.out _ _ hl1
  have HYG:=hid hYG;have HY:=hid hY.symm;clear hA hN ho0 ho1 hB hr0 hr1 hn0 hn1 hgs hY hYG;go_upto_region 15 with fail;refine aw [0,5,0,5,0,5,0,0,0,5,2,2,0,3,0,3] (by kernel_rfl) (by kernel_rfl) (fun C0 hC0 hCb K' hK' => ?_);have Q0: ∀w1,C0 w1→w1.cell? ⟨gb,0,none⟩=some (.slice a0 n c0):=fun w1 hw=>by rw[(N1.out.drew.belowAll (hCb w1 hw)).cell];rfl
  have Q1: ∀w1,C0 w1→w1.cell? ⟨gb,1,none⟩=some (.slice a1 n c1):=fun w1 hw=>by rw[(N1.out.drew.belowAll (hCb w1 hw)).cell];rfl
  have Q2: ∀w1,C0 w1→aF w1 gh=A8 h:=fun w1 hw=>(A1.out.drew.belowAll (hCb w1 hw)).row
  repeat (first|((with_reducible refine hq0 ?_);refine hq0a ?_)|((with_reducible refine hq5 ?_);refine hq5a ?_ (fun _ hcw=>by have f0:=Q0 _ hcw;have f1:=Q1 _ hcw;have f2:=Q2 _ hcw;go_simp;(try go_bits);exact rfl))|((with_reducible refine hq1 ?_);refine hq1a ?_))
  refine hqc ?_;go_simp;refine af ?_;refine(ST.out k X1 a1 c1 w'.drew B1.out.drew (by omega) R1.out.drew).mono ?_;rintro e w4 ⟨vs,rfl,os,d4⟩;refine⟨_,rfl,d4,?_⟩
  try simp only[Act.put,zz1,zz2,zz3]
  obtain⟨ay,cy,rfl,hrs,_⟩:=os.rd;rw[HY.out,hYl]at hrs;rw[HY.out,hYl];refine hqc ?_;go_simp;refine af ?_;refine(fK X0 Y a0 ay n c0 n cy w4 (R0.out.drew.below d4) hrs (by omega)).mono ?_;rintro e w5 ⟨vx,rfl,ox,d5⟩;refine⟨_,rfl,d5,?_⟩
  try simp only[Act.put,zz1,zz2,zz3]
  obtain⟨ax,cx,rfl,hrx,_⟩:=ox.rd;have hxl:(xorl X0 Y).length=n:=by rw[aJ,hl0,hYl,Nat.min_self]
  rw[hxl]at hrx ox⊢
  repeat (first|((with_reducible refine hq0 ?_);refine hq0a ?_)|((with_reducible refine hq5 ?_);refine hq5a ?_)|((with_reducible refine hq1 ?_);refine hq1a ?_))
  have d45:=d4.trans (d5.mono d4.size);have hgb4:gb<w4.heap.size:=Nat.lt_of_lt_of_le hlt d4.size;refine aU [2,0,2] rfl (by simp) ?_;refine cl (N1.out.drew.belowAll d45) rfl rfl rfl (sizeOf22 _) (fun w6 k6 g6 s6=> ?_)
  repeat (first|((with_reducible refine zq0 ?_);refine zq0a ?_)|((with_reducible refine zq1 ?_);refine zq1a ?_))
  refine cl k6 rfl rfl rfl (sizeOf22 _) (fun w7 k7 g7 s7=> ?_);refine az (hK' _ _ ?_);have k8:Blk w7 gb 368 #[.slice a1 n c1,.slice ax n cx]:=k7;have N7:=hid k8;have A7:=hid (((A1.out.drew.belowAll d45).grown g6 (by simp;omega)).grown g7 (by simp;omega));have P7:=hid (((P1.out.drew.below d45).keptNe g6 HE.out.2).keptNe g7 HE.out.2);have O7:=hid (((ox.grown g6 hgb4).grown g7 hgb4).base (Nat.le_trans B1.out.size d4.size));have hxne:=(ox.apart hgb4).symm;have E5:=B1.out.drew.trans (d45.mono B1.out.size);have E6:=E5.trans (ae g6 hgb E5.size);have B7:=hid (E6.trans (ae g7 hgb E6.size));have HE7:=hid (And.intro HE.out.2 hxne);have HG7:=hid ((ox.apart (Nat.lt_of_lt_of_le A1.out.lt d4.size)).symm);have hlt7:gb<w7.heap.size:=k8.lt;clear Q0 Q1 Q2 hC0 hCb hK' d4 d5 d45 os hrs ox hrx k6 k7 k8 g6 g7 s6 s7 E5 E6 hxne A1 N1 O1 P1 B1 R0 R1 HE hgb4;obtain⟨K,hK⟩: ∃K,K=k+1:=⟨_,rfl⟩;have e1:(k:Int)+1=(K:Int):=by omega
  have e2:IntKind.i64.wrap (K:Int)=(K:Int):=by rw[IntKind.wrap_i64];omega
  have e3:(0:Int)≤(K:Int):=by omega
  have HK2:=hid hK;by_cases hk7:K<8
  ·have e4:(K:Int)<8:=by omega
   clear hK;go_wp2_with fail;refine(jS n w7 hn hn2).mono ?_;rintro e w8 ⟨rfl,rfl⟩;go_wp2_with fail;refine wp_goto ?_;refine⟨rfl,⟨K,gh,gb,_,_,a2,c2,aE _ rfl,hk7,hgh,hgb,hne,hlt7,A7.out,N7.out,?_,?_,HE7.out.1,HE7.out.2,B7.out⟩,?_⟩
   ·rw[HK2.out,HX.out.1];exact P7.out
   ·rw[HK2.out,HYG.out];exact O7.out
   ·have:=HK2.out;simp[Ji];omega
  ·have e4: ¬(K:Int)<8:=by omega
   have ek:k=7:=by omega
   clear hK;go_wp2_with fail;refine(jS n w7 hn hn2).mono ?_;rintro e w8 ⟨rfl,rfl⟩;have hG8:eE (xorl X0 Y++X1)=kj S 8 M:=by
    have e8:G 8=G (k+1):=by rw[ek]
    rw[←HFIN.out,e8,HX.out.1,HYG.out]
   have HG8:=hid hG8;clear hG8;have cA:w7.cell? ⟨gb,0,none⟩=some (.slice a1 n c1):=by rw[N7.out.cell];rfl
   have cB:w7.cell? ⟨gb,1,none⟩=some (.slice ax n cx):=by rw[N7.out.cell];rfl
   go_upto_region 18 with fail;refine aG [0,1,0,1,2,2,0] rfl (fun ops' K2 hK2=> ?_)
   repeat (first|((with_reducible refine zq0 ?_);refine zq0a ?_)|((with_reducible refine zq1 ?_);refine zq1a ?_))
   refine bE O7.out P7.out.rdAt rfl rfl underlying22 bM (by rw[hxl];omega) B7.out.size (fun w8 v8 o8 g8 b8=> ?_);simp only[Act.put,zz1,zz2,zz3];obtain⟨a8,c8,rfl,hr8,_⟩:=o8.rd;have hl8:(xorl X0 Y++X1).length=2*n:=by rw[List.length_append,hxl,hl1];omega
   have hl9:=congrArg List.length HG8.out;rw[cV,hl8,show(2*n+1)/2=n by omega]at hl9;have HL9:=hid hl9;clear hl9;rw[hl8]at hr8⊢
   (with_reducible refine bC rfl ?_)
   go_simp;refine af ?_;refine(sy (xorl X0 Y++X1) a8 (2*n) c8 w8 hr8 (by omega)).mono ?_;rintro e w9 ⟨v9,rfl,o9,d9⟩;refine⟨_,rfl,?_⟩
   try simp only[Act.put,zz1,zz2,zz3]
   rw[HG8.out]at o9
   repeat (first|((with_reducible refine zq0 ?_);refine zq0a ?_)|((with_reducible refine zq1 ?_);refine zq1a ?_))
   refine az (hK2 _ _ ?_);have E8:=B7.out.trans b8;have B9:=hid (E8.trans (d9.mono E8.size));have O9:=hid (o9.base E8.size);have A9:=hid ((A7.out.grown g8 HG7.out.symm).belowAll d9);clear cA cB o8 g8 b8 hr8 o9 d9 E8 hK2 N7 O7 P7 A7 B7;obtain⟨a9,c9,rfl,hr9,_⟩:=O9.out.rd;rw[←HL9.out]at hr9 O9⊢;have rA:=A9.out.row;have R9:=hid hr9;clear hr9;go_wp2_with fail;refine(xZ p n c9 h (kj S 8 M) a9 w9 R9.out hn hn2).mono ?_;rintro e w10 ⟨v10,rfl,o10,d10⟩;have O10:=hid (o10.base B9.out.size);have B10:=hid (B9.out.trans (d10.mono B9.out.size));clear o10 d10;go_wp2
   (try simp only[Exit.jump])
   go_ret2;exact⟨_,rfl,O10.out,B10.out⟩
theorem yd(p pt gr m cr n c:Nat)(I J L M:Y8)(cells:Array Value)(rows:List (Y8))(a:Option Addr)(w:World)(H:EzAt w p pt I J L)(hb:Blk w gr 22 cells)(hs:SlsAt w cells rows)(hm:rows.length=m)(hm1:m≤100)(hlen: ∀k,k<m→(rows.getD k []).length≤16000)
  (hr:Rd8 w a n c M) (hn:16≤n) (hn2:n≤31):
  Calls prog 300 #[.pointer (some ⟨p,0,none⟩),.slice (some ⟨gr,0,none⟩) m cr,.slice a n c,.bool true] w fun e w' => ∃v,e= .returned (.tuple #[v,.int .i64 0])∧Own8 w' w.heap.size 5 v (kT (iM (ezE I J L) (eg (ezE I J L) rows m) 6) 8 M)∧Below w.heap.size w w':=by
 have hMl:=hr.1;have hH:=oB p pt gr m cr I J L cells rows w H hb hs hm hm1 hlen;have HK:=hid H;have R0:=hid hr;obtain⟨h,hh⟩: ∃h,h=eg (ezE I J L) rows m:=⟨_,rfl⟩;have hhl:h.length=16:=by rw[hh];exact gL _ _ _
 rw[←hh]at hH⊢;have hSt: ∀(j:Nat) (x:Y8) (ax:Option Addr) (cx:Nat) (w1:World),Below w.heap.size w w1→j≤100→Rd8 w1 ax n cx x→Calls prog 306 #[.pointer (some ⟨p,0,none⟩),.agg (A8 h),.int .i64 6,.int .i64 j,.slice ax n cx] w1 fun e w' => ∃v,e= .returned v∧Own8 w' w1.heap.size 5 v (iM (ezE I J L) h 6 j x)∧Below w1.heap.size w1 w':=
  fun j x ax cx w1 hb hj hx=>xX p pt 6 j I J L h x ax n cx w1 (HK.out.below hb) hhl (by omega) (by omega) hx hn2
 obtain⟨S,hS⟩: ∃S,S=iM (ezE I J L) h 6:=⟨_,rfl⟩;have hSl: ∀j x,x.length=n→(S j x).length=n:=fun j x hx=>by rw[hS,jR,hx]
 rw[←hS]at hSt⊢;obtain⟨P0,hP0⟩: ∃P0,P0=(hbs M 0 n,hbs M n n):=⟨_,rfl⟩;obtain⟨G,hG⟩: ∃G,G=genT S (fun k=>7-k) P0:=⟨_,rfl⟩;have hGl: ∀k,(G k).1.length=n∧(G k).2.length=n:=fun k=>by rw[hG];exact sL S _ n hSl P0 (by rw[hP0];exact aL _ _ _) (by rw[hP0];exact aL _ _ _) k
 have hG0:(G 0).1=hbs M 0 n∧(G 0).2=hbs M n n:=by rw[hG,genT,hP0];exact⟨rfl,rfl⟩
 have hGs: ∀k,(G (k+1)).1=(G k).2∧(G (k+1)).2=xorl (G k).1 (S (7-k) (G k).2):=fun k=>by rw[hG,genT];exact⟨rfl,rfl⟩
 have hfin:eE ((G 8).2++(G 8).1)=kT S 8 M:=by
  rw[hG,kT,hMl,←hP0,←yb S P0 8 (Nat.le_refl _)];rfl
 have ST:=hid hSt;have HSL:=hid hSl;have HS:=hid hH;have HGL:=hid hGl;have HG0:=hid hG0;have HGS:=hid hGs;have HFIN:=hid hfin;have HML:=hid hMl;have n0: ¬(n:Int)=0:=by omega
 have n1: ¬(31:Int)<(n:Int):=by omega
 have n2:(16:Int)≤(n:Int):=by omega
 clear hr H hb hs hh hS hSl hP0 hG hGl hG0 hGs hfin hSt hH hMl;go_enter func300,ntmps300;go_wp2_with fail;refine bd 0 (TyD w p n h G) (fun a' _=>Jj (a'.tmps.getD 12 undef)) rfl (fun hrest=> ?_) ?_
 ·go_wp2_with fail;refine HS.out.mono ?_;rintro e w1 ⟨rfl,d1⟩;have A1:=hid (Blk.new w1 42 (A8 h));have B1:=hid (d1.alloc d1.size (.cells (A8 h) 42));have hge:=d1.size;clear d1 HS;go_wp2_with fail;generalize w1.alloc (.cells (A8 h) 42)=W1 at*;generalize w1.heap.size=gh at*;refine(jS n W1 hn hn2).mono ?_;rintro e w2 ⟨rfl,rfl⟩;have rA:=A1.out.row;go_wp2_with fail;refine(xZ p n c h M a W1 (R0.out.below B1.out) hn hn2).mono ?_;rintro e w2 ⟨vm,rfl,om,dm⟩;obtain⟨am,cm,rfl,hrm,_⟩:=om.rd;rw[HML.out]at hrm⊢;have RM:=hid hrm;have A2:=hid (A1.out.belowAll dm);have B2:=hid (B1.out.trans (dm.mono B1.out.size));have hge2:gh<w2.heap.size:=A2.out.lt;clear om hrm dm rA A1 B1;go_wp2_with fail;refine(pQ n cm M am w2 RM.out hn2).mono ?_;rintro e w3 ⟨v0,v1,rfl,o0,o1,d3⟩;obtain⟨a0,c0,rfl,_,_⟩:=o0.rd;obtain⟨a1,c1,rfl,_,_⟩:=o1.rd;rw[aL]at o0 o1⊢;have hbase:=B2.out.size;have O0:=hid (o0.base hbase);have O1:=hid (o1.base hbase);have hl0:=World.ownsRow.lt o0;have hl1:=World.ownsRow.lt o1;have A3:=hid (A2.out.belowAll d3);have B3:=hid (B2.out.trans (d3.mono B2.out.size));clear o0 o1 d3 A2 B2;have e2:ones #[Value.slice a0 n c0,Value.slice a1 n c1]=true:=by simp[ones,Value.oneCell']
  have A4:=hid (A3.out.alloc (.cells #[Value.slice a0 n c0,Value.slice a1 n c1] 368));have N4:=hid (Blk.new w3 368 #[Value.slice a0 n c0,Value.slice a1 n c1]);have O4:=hid (O0.out.below ((Below.refl w3.heap.size w3).alloc (Nat.le_refl _) (.cells #[Value.slice a0 n c0,Value.slice a1 n c1] 368)));have P4:=hid (O1.out.below ((Below.refl w3.heap.size w3).alloc (Nat.le_refl _) (.cells #[Value.slice a0 n c0,Value.slice a1 n c1] 368)));have B4:=hid (B3.out.alloc B3.out.size (.cells #[Value.slice a0 n c0,Value.slice a1 n c1] 368));have hne0:Value.ownBlock (.slice a0 n c0)≠some w3.heap.size:=fun e=>by have:=(hl0 _ e).2;omega
  have hne1:Value.ownBlock (.slice a1 n c1)≠some w3.heap.size:=fun e=>by have:=(hl1 _ e).2;omega
  have hg3:w.heap.size≤w3.heap.size:=B3.out.size;have hgb:gh<w3.heap.size:=A3.out.lt;have HE:=hid (And.intro hne0 hne1);clear O0 O1 A3 B3 hl0 hl1 hne0 hne1;go_wp2_with fail;refine wp_label ?_;simp only[Exit.then];refine ‹∀(a:Act) (w_1:World),Code.wp _ _ _ a w_1→_› _ _ (hrest _ _ ?_);exact⟨0,gh,w3.heap.size,_,_,am,cm,aE _ rfl,by omega,hge,hg3,by omega,by simp,A4.out,N4.out,by rw[HG0.out.1];exact O4.out,by rw[HG0.out.2];exact P4.out,HE.out.1,HE.out.2,B4.out⟩
 ·rintro a' w' ⟨k,gh,gb,v0,v1,a2,c2,⟨u,rfl⟩,hk,hgh,hgb,hne,hlt,hA,hN,ho0,ho1,hn0,hn1,hB⟩;clear HS R0 HG0;have hl0:=(HGL.out k).1;have hl1:=(HGL.out k).2;have hgs:=HGS.out k;obtain⟨X0,hX0⟩: ∃X,X=(G k).1:=⟨_,rfl⟩;obtain⟨X1,hX1⟩: ∃X,X=(G k).2:=⟨_,rfl⟩;rw[←hX0]at ho0 hl0 hgs;rw[←hX1]at ho1 hl1 hgs;clear hX0 hX1;obtain⟨a0,c0,rfl,hr0,_⟩:=ho0.rd;obtain⟨a1,c1,rfl,hr1,_⟩:=ho1.rd;rw[hl0]at hr0 ho0 hn0 hN;rw[hl1]at hr1 ho1 hn1 hN;obtain⟨jj,hjj⟩: ∃jj:Nat,jj=7-k:=⟨_,rfl⟩;rw[←hjj]at hgs⊢;have hj100:jj≤100:=by omega
  have HJ:=hid hjj;clear hjj;have A1:=hid hA;have N1:=hid hN;have O1:=hid ho0;have P1:=hid ho1;have B1:=hid hB;have R0:=hid hr0;have R1:=hid hr1;have HE:=hid (And.intro hn0 hn1);have HX:=hid hgs;obtain⟨Y,hY⟩: ∃Y,Y=S jj X1:=⟨_,rfl⟩;have hYG:(G (k+1)).2=xorl X0 Y:=by rw[hgs.2,hY]
  have hYl:Y.length=n:=by rw[hY];exact HSL.out _ _ hl1
  have HYG:=hid hYG;have HY:=hid hY.symm;clear hA hN ho0 ho1 hB hr0 hr1 hn0 hn1 hgs hY hYG;go_upto_region 15 with fail;refine aw [0,5,0,5,0,5,0,0,0,5,2,2,0,3,0,3] (by kernel_rfl) (by kernel_rfl) (fun C0 hC0 hCb K' hK' => ?_);have Q0: ∀w1,C0 w1→w1.cell? ⟨gb,0,none⟩=some (.slice a0 n c0):=fun w1 hw=>by rw[(N1.out.drew.belowAll (hCb w1 hw)).cell];rfl
  have Q1: ∀w1,C0 w1→w1.cell? ⟨gb,1,none⟩=some (.slice a1 n c1):=fun w1 hw=>by rw[(N1.out.drew.belowAll (hCb w1 hw)).cell];rfl
  have Q2: ∀w1,C0 w1→aF w1 gh=A8 h:=fun w1 hw=>(A1.out.drew.belowAll (hCb w1 hw)).row
  repeat (first|((with_reducible refine hq0 ?_);refine hq0a ?_)|((with_reducible refine hq5 ?_);refine hq5a ?_ (fun _ hcw=>by have f0:=Q0 _ hcw;have f1:=Q1 _ hcw;have f2:=Q2 _ hcw;go_simp;(try go_bits);exact rfl))|((with_reducible refine hq1 ?_);refine hq1a ?_))
  refine hqc ?_;go_simp;refine af ?_;refine(ST.out jj X1 a1 c1 w'.drew B1.out.drew (by omega) R1.out.drew).mono ?_;rintro e w4 ⟨vs,rfl,os,d4⟩;refine⟨_,rfl,d4,?_⟩
  try simp only[Act.put,zz1,zz2,zz3]
  obtain⟨ay,cy,rfl,hrs,_⟩:=os.rd;rw[HY.out,hYl]at hrs;rw[HY.out,hYl];refine hqc ?_;go_simp;refine af ?_;refine(fK X0 Y a0 ay n c0 n cy w4 (R0.out.drew.below d4) hrs (by omega)).mono ?_;rintro e w5 ⟨vx,rfl,ox,d5⟩;refine⟨_,rfl,d5,?_⟩
  try simp only[Act.put,zz1,zz2,zz3]
  obtain⟨ax,cx,rfl,hrx,_⟩:=ox.rd;have hxl:(xorl X0 Y).length=n:=by rw[aJ,hl0,hYl,Nat.min_self]
  rw[hxl]at hrx ox⊢
  repeat (first|((with_reducible refine hq0 ?_);refine hq0a ?_)|((with_reducible refine hq5 ?_);refine hq5a ?_)|((with_reducible refine hq1 ?_);refine hq1a ?_))
  have d45:=d4.trans (d5.mono d4.size);have hgb4:gb<w4.heap.size:=Nat.lt_of_lt_of_le hlt d4.size;refine aU [2,0,2] rfl (by simp) ?_;refine cl (N1.out.drew.belowAll d45) rfl rfl rfl (sizeOf22 _) (fun w6 k6 g6 s6=> ?_)
  repeat (first|((with_reducible refine zq0 ?_);refine zq0a ?_)|((with_reducible refine zq1 ?_);refine zq1a ?_))
  refine cl k6 rfl rfl rfl (sizeOf22 _) (fun w7 k7 g7 s7=> ?_);refine az (hK' _ _ ?_);have k8:Blk w7 gb 368 #[.slice a1 n c1,.slice ax n cx]:=k7;have N7:=hid k8;have A7:=hid (((A1.out.drew.belowAll d45).grown g6 (by simp;omega)).grown g7 (by simp;omega));have P7:=hid (((P1.out.drew.below d45).keptNe g6 HE.out.2).keptNe g7 HE.out.2);have O7:=hid (((ox.grown g6 hgb4).grown g7 hgb4).base (Nat.le_trans B1.out.size d4.size));have hxne:=(ox.apart hgb4).symm;have E5:=B1.out.drew.trans (d45.mono B1.out.size);have E6:=E5.trans (ae g6 hgb E5.size);have B7:=hid (E6.trans (ae g7 hgb E6.size));have HE7:=hid (And.intro HE.out.2 hxne);have HG7:=hid ((ox.apart (Nat.lt_of_lt_of_le A1.out.lt d4.size)).symm);have hlt7:gb<w7.heap.size:=k8.lt;clear Q0 Q1 Q2 hC0 hCb hK' d4 d5 d45 os hrs ox hrx k6 k7 k8 g6 g7 s6 s7 E5 E6 hxne A1 N1 O1 P1 B1 R0 R1 HE hgb4;have hjj:=HJ.out;by_cases hk7:1≤jj
  ·obtain⟨K,hK⟩: ∃K,K=jj-1:=⟨_,rfl⟩;have e1:(jj:Int)+(-1)=(K:Int):=by omega
   have e1':(jj:Int)-1=(K:Int):=by omega
   have e2:IntKind.i64.wrap (K:Int)=(K:Int):=by rw[IntKind.wrap_i64];omega
   have e3:(0:Int)≤(K:Int):=by omega
   have e4:(K:Int)<8:=by omega
   have HK2:=hid hK;clear hK hjj;go_wp2_with fail;refine(jS n w7 hn hn2).mono ?_;rintro e w8 ⟨rfl,rfl⟩;go_wp2_with fail;refine wp_goto ?_;have hK:=HK2.out;have hjj:=HJ.out;have e5:K=7-(k+1):=by omega
   refine⟨rfl,⟨k+1,gh,gb,_,_,a2,c2,aE _ (by rw[e5];rfl),by omega,hgh,hgb,hne,hlt7,A7.out,N7.out,?_,?_,HE7.out.1,HE7.out.2,B7.out⟩,?_⟩
   ·rw[HX.out.1];exact P7.out
   ·rw[HYG.out];exact O7.out
   ·simp[Jj];omega
  ·have ek:k=7:=by omega
   obtain rfl:jj=0:=by omega
   clear hjj;have hG8:eE (xorl X0 Y++X1)=kT S 8 M:=by
    have e8:G 8=G (k+1):=by rw[ek]
    rw[←HFIN.out,e8,HX.out.1,HYG.out]
   have HG8:=hid hG8;clear hG8;have cA:w7.cell? ⟨gb,0,none⟩=some (.slice a1 n c1):=by rw[N7.out.cell];rfl
   have cB:w7.cell? ⟨gb,1,none⟩=some (.slice ax n cx):=by rw[N7.out.cell];rfl
   go_upto_region 18 with fail;refine aG [0,1,0,1,2,2,0] rfl (fun ops' K2 hK2=> ?_)
   repeat (first|((with_reducible refine zq0 ?_);refine zq0a ?_)|((with_reducible refine zq1 ?_);refine zq1a ?_))
   refine bE O7.out P7.out.rdAt rfl rfl underlying22 bM (by rw[hxl];omega) B7.out.size (fun w8 v8 o8 g8 b8=> ?_);simp only[Act.put,zz1,zz2,zz3];obtain⟨a8,c8,rfl,hr8,_⟩:=o8.rd;have hl8:(xorl X0 Y++X1).length=2*n:=by rw[List.length_append,hxl,hl1];omega
   have hl9:=congrArg List.length HG8.out;rw[cV,hl8,show(2*n+1)/2=n by omega]at hl9;have HL9:=hid hl9;clear hl9;rw[hl8]at hr8⊢
   (with_reducible refine bC rfl ?_)
   go_simp;refine af ?_;refine(sy (xorl X0 Y++X1) a8 (2*n) c8 w8 hr8 (by omega)).mono ?_;rintro e w9 ⟨v9,rfl,o9,d9⟩;refine⟨_,rfl,?_⟩
   try simp only[Act.put,zz1,zz2,zz3]
   rw[HG8.out]at o9
   repeat (first|((with_reducible refine zq0 ?_);refine zq0a ?_)|((with_reducible refine zq1 ?_);refine zq1a ?_))
   refine az (hK2 _ _ ?_);have E8:=B7.out.trans b8;have B9:=hid (E8.trans (d9.mono E8.size));have O9:=hid (o9.base E8.size);have A9:=hid ((A7.out.grown g8 HG7.out.symm).belowAll d9);clear cA cB o8 g8 b8 hr8 o9 d9 E8 hK2 N7 O7 P7 A7 B7;go_wp2
   (try simp only[Exit.jump])
   go_ret2;exact⟨_,rfl,O9.out,B9.out⟩
end Go.Proofs.YtddkbkbpogcffaaGreatDoor
