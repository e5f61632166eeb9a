/-hctr:plus-/
import Derived.Test.YtddkbkbpogcffaaGreatDoorMGx
import Derived.Test.YtddkbkbpogcffaaGreatDoorMHk
namespace Go.Proofs.YtddkbkbpogcffaaGreatDoor
open Go.Proofs.Tryz
open Lib (hid)
set_option linter.unusedSimpArgs false
set_option linter.unusedVariables false
set_option maxRecDepth 100000
set_option maxHeartbeats 1600000
open Go.RowKit
def cC(L:Y8):Nat→Y8
 |0=>ac 8 16
 |j+1=>ar (cC L j) (aI L j)
theorem dP(L:Y8): ∀j,(cC L j).length=16
 |0=>rfl
 |_+1=>ak _ _
theorem lf(a b:Y8)(h:a.length=16):upd (fun i=>nth a i^^^nth b i) a 16=ar a b:=by
 unfold upd;rw[h];rfl
theorem ml(x:Y8)(h:x.length=16):ar (ac 8 16) x=x:=by
 apply aO (by rw[ak,h]);intro i hi;rw[ak]at hi;rw[ar,bP _ _ hi,dg,BitVec.zero_xor]
theorem dW(x y:Y8)(hx:x.length=16)(hy:y.length=16):cC (x++y) 2=ar x y:=by
 have e0:aI (x++y) 0=x:=by rw[aI,Nat.zero_mul,List.drop_zero,List.take_left' hx]
 have e1:aI (x++y) 1=y:=by rw[aI,Nat.one_mul,List.drop_left' hx,List.take_of_length_le (by omega)]
 rw[cC,cC,cC,e0,e1,ml _ hx]
theorem Fw(x y z:Y8)(hx:x.length=16)(hy:y.length=16)(hz:z.length=16):cC (x++y++z) 3=ar (ar x y) z:=by
 have e0:aI (x++y++z) 0=x:=by rw[aI,Nat.zero_mul,List.drop_zero,List.append_assoc,List.take_left' hx]
 have e1:aI (x++y++z) 1=y:=by rw[aI,Nat.one_mul,List.append_assoc,List.drop_left' hx,List.take_left' hy]
 have e2:aI (x++y++z) 2=z:=by rw[aI,List.drop_left' (by rw[List.length_append];omega),List.take_of_length_le (by omega)]
 rw[cC,cC,cC,cC,e0,e1,e2,ml _ hx]
theorem qu(L:Y8)(m j:Nat)(h:L.length=m*16)(hj:j<m):(aI L j).length=16:=by
 rw[aI,List.length_take,List.length_drop,h];omega
theorem ol(L:Y8)(g m c:Nat)(w:World)(hr:RdS w 16 (some ⟨g,0,none⟩) m c L)(hm:m≤3):
  Calls prog 278 #[.slice (some ⟨g,0,none⟩) m c] w fun e w' =>e= .returned (.agg (A8 (cC L m)))∧Below w.heap.size w w':=by
 obtain⟨W,hW⟩: ∃W,(w.alloc (.cells (A8 (ac 8 16)) 42)).alloc (.cells (A8 (ac 8 16)) 42)=W:=⟨_,rfl⟩;obtain⟨b0,b1,hb,hz⟩:=new2 _ _ _ _ _ _ hW;have Z0:=hid b0;have P0:=hid b1;have B0:=hid hb;have RR:=hid hr;have hl:=hr.1;clear b0 b1 hb hz hr;go_enter func278,ntmps278;go_wp2_with fail;go_loopw [9] (fun i wr=> ∃j:Nat,j≤m∧i= .int .i64 j∧Blk wr w.heap.size 42 (A8 (ac 8 16))∧Blk wr (w.heap.size+1) 42 (A8 (cC L j))∧Below w.heap.size w wr) (fun i _=>m-(intOf i).toNat)
 case atStart=>exact⟨0,Nat.zero_le _,rfl,Z0.out,P0.out,B0.out⟩
 case round=>
  obtain⟨j,hj,rfl,hZ,hP,hB⟩:=hrel;have Z1:=hid hZ;have P1:=hid hP;have B1:=hid hB;clear hZ hP hB Z0 P0 B0 hW;by_cases hjm:j<m
  ·have j1:(j:Int)<(m:Int):=by omega
   have j0:(0:Int)≤(j:Int):=by omega
   have c3:=(RR.out.below B1.out).row (t:=42) (isAgg42 _) (sizeOf42 _) j hjm;rw[Nat.zero_add,show(L.drop (j*16)).take 16=aI L j from rfl]at c3;have hXl:=qu L m j hl hjm;have hAl:=dP L j;obtain⟨X,hX⟩: ∃X,X=aI L j:=⟨_,rfl⟩;obtain⟨A,hA⟩: ∃A,A=cC L j:=⟨_,rfl⟩;rw[←hX]at c3 hXl;rw[←hA]at P1 hAl;have hfin:ar A X=cC L (j+1):=by rw[hX,hA,cC]
   have HF:=hid hfin;have X1:=hid (Blk.new wr 42 (A8 X));have Z2:=hid (Z1.out.alloc (.cells (A8 X) 42));have P2:=hid (P1.out.alloc (.cells (A8 X) 42));have B2:=hid (B1.out.alloc B1.out.size (.cells (A8 X) 42));have hne:wr.heap.size≠w.heap.size+1:=by have:=P1.out.lt;omega
   have hge:w.heap.size≤wr.heap.size:=B1.out.size;clear hX hA hfin Z1 P1 B1;go_wp2_with fail;generalize wr.alloc (.cells (A8 X) 42)=V at*;generalize wr.heap.size=q at*;have huf:=lf A X hAl;obtain⟨f,hf⟩: ∃f:Nat→BitVec 8,f=fun i=>nth A i^^^nth X i:=⟨_,rfl⟩;rw[←hf]at huf;have HU:=hid huf;have HFf:=hid hf;clear huf hf c3;go_loopw [13] (fun i2 wi=> ∃k:Nat,k≤16∧i2= .int .i64 k∧Blk wi w.heap.size 42 (A8 (ac 8 16))∧Blk wi (w.heap.size+1) 42 (A8 (upd f A k))∧Blk wi q 42 (A8 X)∧Below w.heap.size w wi) (fun i2 _=>16-(intOf i2).toNat)
   case atStart=>exact⟨0,Nat.zero_le _,rfl,Z2.out,by rw[fR];exact P2.out,X1.out,B2.out⟩
   case round=>
    obtain⟨k,hk,rfl,hZ,hP,hX,hB⟩:=hrel;have Z3:=hid hZ;have P3:=hid hP;have X3:=hid hX;have B3:=hid hB;clear hZ hP hX hB Z2 P2 X1 B2;by_cases hk16:k<16
    ·have k1:(k:Int)<16:=by omega
     have k0:(0:Int)≤(k:Int):=by omega
     have kx:k<A.length:=by omega
     have c1:=P3.out.drew.cell8 (bL f A k) k kx;have c2:=X3.out.drew.cell8 hXl k hk16;rw[qW f A k kx]at c1;go_upto_region 8 with fail;refine aB [0,0,1,0,0,1,0,0,2] (by kernel_rfl) (by kernel_rfl) (fun ops' K2 hK2=> ?_)
     repeat (first|((with_reducible refine zq0 ?_);refine zq0a ?_)|((with_reducible refine zq1 ?_);refine zq1a ?_))
     refine dy P3.out.drew rfl rfl (by rw[bL];exact kx) (sizeOf5 _) (fun w1 kk1 g1 s1=> ?_);refine az (hK2 _ _ ?_);rw[show nth A k^^^nth X k=f k by rw[HFf.out],gC f A k kx]at kk1;have P4:=hid kk1;have X4:=hid (X3.out.drew.grown g1 (by simpa using hne));have Z4:=hid (Z3.out.drew.grown g1 (by simp));have B4:=hid (B3.out.drew.trans (ae g1 (by omega) B3.out.size));clear kk1 g1 s1 c1 c2 hK2 P3 X3 Z3 B3;go_wp2;exact⟨⟨k+1,by omega,by go_num,Z4.out,P4.out,X4.out,B4.out⟩,by simp[intOf];omega⟩
    ·obtain rfl:k=16:=by omega
     have zz:=P3.out;rw[HU.out,HF.out]at zz;have P5:=hid zz;clear zz;go_wp2;exact⟨⟨j+1,by omega,by go_num,Z3.out,P5.out,B3.out⟩,by simp[intOf];omega⟩
  ·obtain rfl:j=m:=by omega
   have hAl:=dP L j;have r1:=P1.out.row;have r2:=Z1.out.row;have r3:=Z1.out.whole;go_wp2;refine aj (A8 (cC L j)) rfl rfl rfl (isAgg42 _) (sizeOf42 _) (by rw[ag];exact hAl) (an _ r3) ⟨rfl,below_setRow B1.out (by omega) _⟩
open Go.RowKit
structure CiAt(w:World)(p k pt m:Nat)(L h lb:Y8):Prop where
 key:KeyAt w k pt m L
 blk:Blk w p 163 (PB (.pointer (some ⟨k,0,none⟩)) (h++lb))
 lh:h.length=16
 ll:lb.length=16
theorem CiAt.below {w w':World} {p k pt m:Nat} {L h lb:Y8}(H:CiAt w p k pt m L h lb)(hb:Below w.heap.size w w'):CiAt w' p k pt m L h lb:=
 ⟨H.key.below hb,H.blk.belowAll hb,H.lh,H.ll⟩
theorem CiAt.drew {w:World} {p k pt m:Nat} {L h lb:Y8}(H:CiAt w p k pt m L h lb):CiAt w.drew p k pt m L h lb:=⟨H.key.drew,H.blk.drew,H.lh,H.ll⟩
theorem CiAt.cell {w:World} {p k pt m:Nat} {L h lb:Y8}(H:CiAt w p k pt m L h lb):w.cell? ⟨p,0,none⟩=some (.pointer (some ⟨k,0,none⟩)):=by
 rw[H.blk.cell,qs]
theorem CiAt.rd {w:World} {p k pt m:Nat} {L h lb:Y8}(H:CiAt w p k pt m L h lb):RdS w 16 (some ⟨p,1,none⟩) 2 2 (h++lb):=by
 have hl:(h++lb).length=32:=by rw[List.length_append,H.lh,H.ll]
 have h8:=H.blk.rdPB (by rw[hl];unfold maxLen;omega);refine⟨hl,Nat.le_refl _,by unfold maxLen;omega,fun _=> ?_⟩;obtain⟨b,o,e,hb,hc⟩:=h8.2.2.2 (by omega);cases e;exact⟨_,_,rfl,hb,fun i hi=>hc i (by omega)⟩
theorem CiAt.getH {w:World} {p k pt m:Nat} {L h lb:Y8}(H:CiAt w p k pt m L h lb):(bt 42 (.pointer (some ⟨p,1,none⟩))).run prog w= .ok (.agg (A8 h)) w:=by
 have:=H.rd.row (t:=42) (isAgg42 _) (sizeOf42 _) 0 (by omega)
 rwa [Nat.zero_mul,List.drop_zero,List.take_left' H.lh,Nat.add_zero]at this
theorem CiAt.getL {w:World} {p k pt m:Nat} {L h lb:Y8}(H:CiAt w p k pt m L h lb):(bt 42 (.pointer (some ⟨p,17,none⟩))).run prog w= .ok (.agg (A8 lb)) w:=by
 have:=H.rd.row (t:=42) (isAgg42 _) (sizeOf42 _) 1 (by omega)
 rwa [Nat.one_mul,List.drop_left' H.lh,List.take_of_length_le (by rw[H.ll];omega),show 1+16=17 from rfl]at this
theorem uG(S:Y8→Y8)(F cp p k pt m:Nat)(L h lb T M:Y8)(a b:Option Addr)(n c len d:Nat)(w:World)(hc:CiAt w p k pt m L h lb)(hm:3≤m)(hm2:m≤100)
  (ht:Rd8 w a n c T) (hM:Rd8 w b len d M) (hn:n≤1000) (h16:16≤len) (hlen:len≤520) (hSl: ∀x:Y8,x.length=16→(S x).length=16)
  (hF: ∀(args:Array Value) (w:World),(callFunc F args).run prog w= .ok (.enter F args) w)
  (hS: ∀(w1:World) (x:Y8),Below w.heap.size w w1→x.length=16→Calls prog F #[.agg (A8 x),.pointer (some ⟨cp,0,none⟩)] w1 fun e w' =>e= .returned (.agg (A8 (S x)))∧Below w1.heap.size w1 w'):
  Calls prog 275 #[.pointer (some ⟨p,0,none⟩),.slice a n c,.slice b len d,.func (.func F) #[] #[.pointer (some ⟨cp,0,none⟩)]] w fun e w' => ∃v,e= .returned (.tuple #[v,.int .i64 0])∧Own8 w' w.heap.size 5 v (ew S L m h lb T M)∧Below w.heap.size w w':=by
 have hMl:=hM.1;obtain⟨E,hE⟩: ∃E,E=len-16:=⟨_,rfl⟩;obtain⟨_,_,_,_,g5,g6⟩:=nU len hlen;obtain⟨g5a,g5b⟩:=g5 h16;rw[←hE]at g5b;have of1:=fun(w1:World) (hr:Rd8 w1 b len d M)=>rL M b len d 0 16 w1 hr (by omega) hlen g6 g5a;have of2:=fun(w1:World) (hr:Rd8 w1 b len d M)=>rL M b len d 16 E w1 hr (by omega) hlen g5a g5b;have f1:floatOfInt .f64 (E:Int)=flt E:=rfl;obtain⟨D,hD⟩: ∃D,D=flt E:=⟨_,rfl⟩;rw[←hD]at of2 f1;rw[flt0,Bp]at of1;rw[Bp]at of2;have f2:(len:Int)-16=(E:Int):=by omega
 have f3:IntKind.i64.wrap (E:Int)=(E:Int):=by rw[IntKind.wrap_i64];omega
 have f4: ¬(len:Int)<16:=by omega
 have e1:(M.drop 0).take 16=M.take 16:=by rw[List.drop_zero]
 have e2:(M.drop 16).take E=M.drop 16:=List.take_of_length_le (by rw[List.length_drop];omega);rw[e1]at of1;rw[e2]at of2;have hBl:(M.drop 16).length=E:=by rw[List.length_drop];omega
 have hAl:(M.take 16).length=16:=by rw[List.length_take];omega
 obtain⟨B,hB⟩: ∃B,B=M.drop 16:=⟨_,rfl⟩;obtain⟨A,hA⟩: ∃A,A=M.take 16:=⟨_,rfl⟩;rw[←hA]at of1 hAl;rw[←hB]at of2 hBl;have HA:=hid hA;have HB:=hid hB;have OF1:=hid of1;have OF2:=hid of2;have HC:=hid hc;have HT:=hid ht;have HM:=hid hM;have HSl:=hid hSl;have HS:=hid hS;have hE5:E≤520:=by omega
 clear g5 g6 g5a g5b hD hA hB of1 of2 hc ht hM hSl hS e1 e2 hE hMl;go_enter func275,ntmps275;go_wp2_with fail;refine(OF1.out w HM.out).mono ?_;rintro e w1 ⟨v1,rfl,o1,d1⟩;obtain⟨a1,c1,rfl,hr1,_⟩:=o1.rd;rw[hAl]at hr1⊢;have A1:=hid hr1;have D1:=hid d1;clear o1 hr1 d1;go_wp2_with fail;refine(OF2.out w1 (HM.out.below D1.out)).mono ?_;rintro e w2 ⟨v2,rfl,o2,d2⟩;obtain⟨a2,c2,rfl,hr2,_⟩:=o2.rd;rw[hBl]at hr2⊢;have A2:=hid (A1.out.below d2);have B2:=hid hr2;have D2:=hid (D1.out.trans (d2.mono D1.out.size));clear o2 hr2 d2 A1 D1 OF1 OF2 f1 f2 f3;have hHl:=HC.out.lh;obtain⟨H1,hH1⟩: ∃H1,H1=kG h T B:=⟨_,rfl⟩;have hH1l:H1.length=16:=by rw[hH1];exact jE _ _ _
 have HH1:=hid hH1;obtain⟨one,hone⟩: ∃one,one=ar A H1:=⟨_,rfl⟩;have honel:one.length=16:=by rw[hone];exact ak _ _
 have HONE:=hid hone;clear hH1 hone;go_upto_region 7 with fail;refine cS [0,2,0,0,0,5,0,0,2,2,2,2,3] [0,2,3,4,5,6,7] [(1,2,_),(8,2,_),(9,2,_),(10,2,_),(11,2,_)] (fun i=>if i=8 then [1]else if i=9 then [8]else if i=10 then [9]else []) [12] [_,_,_,_,_,_,_] [_] [0,0,0,0,5,0,0] [3] 5 rfl rfl rfl (by kernel_rfl) (by kernel_rfl) (by kernel_rfl) rfl rfl rfl (fun C0 hC0 hCb hCe K' hK' => ?_);have R5: ∀w1,C0 w1→(bt 42 (.pointer (some ⟨p,1,none⟩))).run prog w1= .ok (.agg (A8 h)) w1:=fun w1 hw=>((HC.out.below D2.out).drew.below (hCb w1 hw)).getH
 repeat (first|((with_reducible refine hq0 ?_);refine hq0a ?_)|((with_reducible refine hq5 ?_);refine hq5a ?_ (fun _ hcw=>by have f:=R5 _ hcw;go_simp;(try go_bits);exact rfl))|((with_reducible refine hq1 ?_);refine hq1a ?_))
 refine aA ?_;clear R5;generalize hAct:Act.mk _ _=act;obtain⟨u,rfl⟩: ∃u:Nat→Value,act={tmps:=(fun u:Nat→Value=>(Value.pointer (some ⟨p,0,none⟩)::Value.slice a n c::Value.slice b len d::Value.func (Fn.func F) #[] #[Value.pointer (some ⟨cp,0,none⟩)]::u 4::u 5::u 6::u 7::u 8::u 9::u 10::u 11::Value.slice a2 E c2::u 13::u 14::u 15::u 16::u 17::u 18::u 19::u 20::u 21::u 22::u 23::u 24::u 25::u 26::u 27::u 28::u 29::u 30::u 31::u 32::u 33::u 34::u 35::u 36::u 37::u 38::Value.slice a1 16 c1::u 40::u 41::u 42::u 43::Value.agg (A8 h)::Value.slice a n c::Value.slice a2 E c2::u 47::u 48::u 49::u 50::u 51::u 52::u 53::u 54::u 55::u 56::u 57::u 58::u 59::u 60::u 61::u 62::u 63::u 64::u 65::u 66::u 67::u 68::u 69::u 70::u 71::u 72::u 73::u 74::u 75::u 76::u 77::u 78::u 79::u 80::u 81::u 82::u 83::[]).toArray) u,defers:=[]}:=by
  subst hAct;exact aE _ rfl
 clear hAct;obtain⟨St,hSt⟩: ∃St:Nat→Bool→Act→World→Prop,∀k fr a' w',St k fr a' w'↔(∃x40 x47 x48 x49 x14:Value,a' ={tmps:=(Value.pointer (some ⟨p,0,none⟩)::Value.slice a n c::Value.slice b len d::Value.func (Fn.func F) #[] #[Value.pointer (some ⟨cp,0,none⟩)]::u 4::u 5::u 6::u 7::u 8::u 9::u 10::u 11::Value.slice a2 E c2::u 13::x14::u 15::u 16::u 17::u 18::u 19::u 20::u 21::u 22::u 23::u 24::u 25::u 26::u 27::u 28::u 29::u 30::u 31::u 32::u 33::u 34::u 35::u 36::u 37::u 38::Value.slice a1 16 c1::x40::u 41::u 42::u 43::Value.agg (A8 h)::Value.slice a n c::Value.slice a2 E c2::x47::x48::x49::u 50::u 51::u 52::u 53::u 54::u 55::u 56::u 57::u 58::u 59::u 60::u 61::u 62::u 63::u 64::u 65::u 66::u 67::u 68::u 69::u 70::u 71::u 72::u 73::u 74::u 75::u 76::u 77::u 78::u 79::u 80::u 81::u 82::u 83::[]).toArray,defers:=[]}∧Below w2.drew.heap.size w2.drew w'∧(1≤k→x40= .agg (A8 A))∧(2≤k→x47= .agg (A8 H1))∧(3≤k→ ∃g,x48= .slice (some ⟨g,0,none⟩) 2 2∧Blk w' g 42 (A8 (A++H1)))∧(4≤k→x49= .agg (A8 one))∧(fr=true→ ∃g,x14= .pointer (some ⟨g,0,none⟩)∧w2.heap.size≤g∧Blk w' g 42 (A8 (ac 8 16)))):=⟨_,fun _ _ _ _=>Iff.rfl⟩;refine cI (St:=St) [_,_,_,_] _ 0 ⟨?s1,?s2,?s3,?s4,trivial⟩ ?hf ?hch ?hnd ?hR _ _ ?h0
 case h0=>exact(hSt _ _ _ _).2 ⟨_,_,_,_,_,rfl,Below.refl _ _,fun h=>by omega,fun h=>by omega,fun h=>by omega,fun h=>by omega,fun h=>by cases h⟩
 case hch=>exact⟨by decide,by decide,by decide,trivial⟩
 case hnd=>decide
 case s1=>
  intro fr a3 w3 hs;obtain⟨x40,x47,x48,x49,x14,rfl,D3,h1,h2,h3,h4,hf⟩:=(hSt _ _ _ _).1 hs;clear hs;refine ai ?_;refine hqc ?_;go_simp;refine af ?_;refine(bD A a1 16 c1 w3 (A2.out.drew.below D3)).mono ?_;rintro e w4 ⟨rfl,d4⟩;refine⟨_,rfl,d4,?_⟩
  try simp only[Act.put,zz1,zz2,zz3]
  rw[vU A hAl];refine aA ((hSt _ _ _ _).2 ⟨_,_,_,_,_,rfl,D3.trans (d4.mono D3.size),fun _=>rfl,fun h=>by omega,fun h=>by omega,fun h=>by omega,fun e=> ?_⟩);obtain⟨g,e1,e2,e3⟩:=hf e;exact⟨g,e1,e2,e3.belowAll d4⟩
 case s2=>
  intro fr a3 w3 hs;obtain⟨x40,x47,x48,x49,x14,rfl,D3,h1,h2,h3,h4,hf⟩:=(hSt _ _ _ _).1 hs;clear hs;obtain rfl:=h1 (by omega);refine ai ?_;refine hqc ?_;go_simp;refine af ?_;refine(uk h T B hHl a a2 n c E c2 w3 ((HT.out.below D2.out).drew.below D3) (B2.out.drew.below D3) (by omega) (by omega)).mono ?_;rintro e w4 ⟨rfl,d4⟩;refine⟨_,rfl,d4,?_⟩
  try simp only[Act.put,zz1,zz2,zz3]
  rw[show kG h T B=H1 from HH1.out.symm];refine aA ((hSt _ _ _ _).2 ⟨_,_,_,_,_,rfl,D3.trans (d4.mono D3.size),fun _=>rfl,fun _=>rfl,fun h=>by omega,fun h=>by omega,fun e=> ?_⟩);obtain⟨g,e1,e2,e3⟩:=hf e;exact⟨g,e1,e2,e3.belowAll d4⟩
 case s3=>
  intro fr a3 w3 hs;obtain⟨x40,x47,x48,x49,x14,rfl,D3,h1,h2,h3,h4,hf⟩:=(hSt _ _ _ _).1 hs;clear hs;obtain rfl:=h1 (by omega);obtain rfl:=h2 (by omega);refine ai ?_;refine gu (x:= .agg (A8 A)) (y:= .agg (A8 H1)) (size:=16) rfl rfl (by show(A8 A).size=16;rw[ag,hAl]) (by show(A8 H1).size=16;rw[ag,hH1l]) (by omega) (by omega) underlying39 bN (fun w4 g4 b4 d4=> ?_);simp only[Act.put,zz1,zz2,zz3];rw[show(Value.agg (A8 A)).cells++(Value.agg (A8 H1)).cells=A8 (A++H1) from aN A H1]at b4;refine aA ((hSt _ _ _ _).2 ⟨_,_,_,_,_,rfl,D3.trans (d4.mono D3.size),fun _=>rfl,fun _=>rfl,fun _=>⟨g4,rfl,b4⟩,fun h=>by omega,fun e=> ?_⟩);obtain⟨g,e1,e2,e3⟩:=hf e;exact⟨g,e1,e2,e3.belowAll d4⟩
 case s4=>
  intro fr a3 w3 hs;obtain⟨x40,x47,x48,x49,x14,rfl,D3,h1,h2,h3,h4,hf⟩:=(hSt _ _ _ _).1 hs;clear hs;obtain rfl:=h1 (by omega);obtain rfl:=h2 (by omega);obtain⟨g4,rfl,b4⟩:=h3 (by omega);refine ai ?_;have hAH:(A++H1).length=2*16:=by rw[List.length_append,hAl,hH1l]
  refine hqc ?_;go_simp;refine af ?_;refine(ol (A++H1) g4 2 2 w3 (RdS.of_blk b4 hAH (by omega)) (by omega)).mono ?_;rintro e w4 ⟨rfl,d4⟩;refine⟨_,rfl,d4,?_⟩
  try simp only[Act.put,zz1,zz2,zz3]
  rw[dW A H1 hAl hH1l,←HONE.out];refine aA ((hSt _ _ _ _).2 ⟨_,_,_,_,_,rfl,D3.trans (d4.mono D3.size),fun _=>rfl,fun _=>rfl,fun _=>⟨g4,rfl,b4.belowAll d4⟩,fun _=>rfl,fun e=> ?_⟩);obtain⟨g,e1,e2,e3⟩:=hf e;exact⟨g,e1,e2,e3.belowAll d4⟩
 case hf=>
  intro j hj a3 w3 hs;obtain⟨x40,x47,x48,x49,x14,rfl,D3,h1,h2,h3,h4,hf⟩:=(hSt _ _ _ _).1 hs;clear hs;refine ai ?_;obtain⟨u3,eu3⟩: ∃u,w3.alloc (.cells (A8 (ac 8 16)) 42)=u:=⟨_,rfl⟩;obtain⟨bf,du,zu⟩:=new1 _ _ _ _ eu3;obtain⟨pf,hpf⟩: ∃g,g=w3.heap.size:=⟨_,rfl⟩;refine aY (v:= .pointer (some ⟨pf,0,none⟩)) (w':=u3) rfl (by rw[hpf];go_simp;exact eu3) du ?_;simp only[Act.put,zz1,zz2,zz3];rw[←hpf]at bf;refine aA ((hSt _ _ _ _).2 ⟨_,_,_,_,_,rfl,D3.trans (du.mono D3.size),h1,h2,fun e=> ?_,h4,fun _=>⟨pf,rfl,by rw[hpf];exact D3.size,bf⟩⟩);obtain⟨g,e1,e2⟩:=h3 e;exact⟨g,e1,e2.belowAll du⟩
 case hR=>
  intro a3 w3 hs;obtain⟨x40,x47,x48,x49,x14,rfl,D3,h1,h2,h3,h4,hf⟩:=(hSt _ _ _ _).1 hs;clear hs;obtain rfl:=h4 (by decide);obtain⟨g,rfl,hg,bg⟩:=hf rfl;refine bI ?_;refine aq bg rfl rfl (by rw[ag,ag,honel,ah]) (aH _) (by rw[ag,honel];exact sizeOf42 _) (fun w4 k4 g4 s4=> ?_);have BD:=D3.trans (ae g4 hg D3.size);refine az ⟨hCe _ BD,?_⟩;refine cQ (hK' _ _ ?_);have D4:=hid ((D2.out.drew.trans (BD.mono D2.out.size)));have E4:Below w2.heap.size w2 w4:=((Below.refl w2.heap.size w2).drew).trans BD;have hgw:w.heap.size≤g:=Nat.le_trans D2.out.size hg;have K4:=hid k4;have B4:=hid (B2.out.below E4);clear hK' hC0 hCb hCe BD D3 h1 h2 h3 h4 hf bg g4 s4 k4 E4 A2 B2;have kk:=K4.out;have r4:=kk.row;clear kk;go_wp2_with fail;refine(HS.out w4 one D4.out honel).mono ?_;rintro e w5 ⟨rfl,d5⟩;have htwol:=HSl.out one honel;obtain⟨two,htwo⟩: ∃two,two=S one:=⟨_,rfl⟩;rw[←htwo]at htwol⊢;have HTWO:=hid htwo;have K5:=hid ((K4.out.belowAll d5).alloc (.cells (A8 two) 42));have J5:=hid (Blk.new w5 42 (A8 two));have B5:=hid ((B4.out.below d5).alloc (.cells (A8 two) 42));have D5':=D4.out.trans (d5.mono D4.out.size);have D5:=hid (D5'.alloc D5'.size (.cells (A8 two) 42));have hg2:w.heap.size≤w5.heap.size:=D5'.size;clear d5 htwo r4 D5' D4 K4 B4;go_upto_region 9 with fail;generalize w5.alloc (.cells (A8 two) 42)=W5 at*;generalize w5.heap.size=g2 at*;refine aw [0,0,0,5,5,5,0,0,0,5,2,2,0,2,0,0,0,0] (by kernel_rfl) (by kernel_rfl) (fun C0 hC0 hCb K' hK' => ?_)
  have Q1: ∀w1,C0 w1→w1.cell? ⟨p,0,none⟩=some (.pointer (some ⟨k,0,none⟩)):=fun w1 hw=>((HC.out.below D5.out).drew.below (hCb w1 hw)).cell;have Q2: ∀w1,C0 w1→(bt 42 (.pointer (some ⟨p,17,none⟩))).run prog w1= .ok (.agg (A8 lb)) w1:=fun w1 hw=>((HC.out.below D5.out).drew.below (hCb w1 hw)).getL;have Q3: ∀w1,C0 w1→aF w1 g=A8 one:=fun w1 hw=>(K5.out.drew.belowAll (hCb w1 hw)).row;have Q4: ∀w1,C0 w1→aF w1 g2=A8 two:=fun w1 hw=>(J5.out.drew.belowAll (hCb w1 hw)).row
  repeat (first|((with_reducible refine hq0 ?_);refine hq0a ?_)|((with_reducible refine hq5 ?_);refine hq5a ?_ (fun _ hcw=>by have f1:=Q1 _ hcw;have f2:=Q2 _ hcw;have f3:=Q3 _ hcw;have f4:=Q4 _ hcw;go_simp;(try go_bits);exact rfl))|((with_reducible refine hq1 ?_);refine hq1a ?_))
  refine vT (x:= .agg (A8 one)) (y:= .agg (A8 two)) (z:= .agg (A8 lb)) (size:=16) rfl rfl rfl (by show(A8 one).size=16;rw[ag,honel]) (by show(A8 two).size=16;rw[ag,htwol]) (by show(A8 lb).size=16;rw[ag,HC.out.ll]) (by omega) (by omega) underlying39 bN (fun w6 g6 b6 d6=> ?_);simp only[Act.put,zz1,zz2,zz3];rw[show(Value.agg (A8 one)).cells++(Value.agg (A8 two)).cells++(Value.agg (A8 lb)).cells=A8 (one++two++lb) by rw[←aN,←aN];rfl]at b6;have h3l:(one++two++lb).length=3*16:=by rw[List.length_append,List.length_append,honel,htwol,HC.out.ll]
  refine hqc ?_;go_simp;refine af ?_;refine(ol (one++two++lb) g6 3 3 w6 (RdS.of_blk b6 h3l (by omega)) (by omega)).mono ?_;rintro e w7 ⟨rfl,d7⟩;refine⟨_,rfl,d7,?_⟩
  try simp only[Act.put,zz1,zz2,zz3]
  rw[Fw one two lb honel htwol HC.out.ll];have hstl:(ar (ar one two) lb).length=16:=ak _ _;obtain⟨st,hst⟩: ∃st,st=ar (ar one two) lb:=⟨_,rfl⟩;rw[←hst]at hstl⊢;have HST:=hid hst;clear hst;have d67:=d6.trans (d7.mono d6.size)
  repeat (first|((with_reducible refine hq0 ?_);refine hq0a ?_)|((with_reducible refine hq5 ?_);refine hq5a ?_)|((with_reducible refine hq1 ?_);refine hq1a ?_))
  refine hqc ?_;go_simp;refine af ?_;refine(Ah k pt m L st B a2 E c2 w7 ((HC.out.below D5.out).drew.below d67).key hstl hm hm2 (B5.out.drew.below d67) (by omega)).mono ?_;rintro e w8 ⟨v8_,rfl,o8,d8⟩;refine⟨_,rfl,d8,?_⟩
  try simp only[Act.put,zz1,zz2,zz3]
  obtain⟨X,hX⟩: ∃X,X=iX L m st B:=⟨_,rfl⟩;rw[←hX]at o8;have hXl:X.length=E:=by rw[hX,fN];exact hBl
  have HX:=hid hX;obtain⟨a3_,c3,rfl,hr8,_⟩:=o8.rd;rw[hXl]at hr8⊢
  repeat (first|((with_reducible refine hq0 ?_);refine hq0a ?_)|((with_reducible refine hq5 ?_);refine hq5a ?_)|((with_reducible refine hq1 ?_);refine hq1a ?_))
  refine aU [] rfl (by simp) (az (hK' _ _ ?_));have d68:=d67.trans (d8.mono d67.size);have D8:=hid (D5.out.drew.trans (d68.mono D5.out.size));have J8:=hid (J5.out.drew.belowAll d68);have X8:=hid hr8;clear Q1 Q2 Q3 Q4 hC0 hCb hK' d6 d7 d67 d68 d8 b6 h3l o8 hr8 hX K5 B5 J5;obtain⟨H2,hH2⟩: ∃H2,H2=kG h T X:=⟨_,rfl⟩;have hH2l:H2.length=16:=by rw[hH2];exact jE _ _ _
  have HH2:=hid hH2;obtain⟨fst,hfst⟩: ∃fst,fst=ar two H2:=⟨_,rfl⟩;have hfstl:fst.length=16:=by rw[hfst];exact ak _ _
  have HFST:=hid hfst;clear hH2 hfst;go_upto_region 10 with fail;refine cS [5,0,0,0,5,0,0,2,2,2,2,3] [0,1,2,3,4,5,6] [(7,2,_),(8,2,_),(9,2,_),(10,2,_)] (fun i=>if i=8 then [7]else if i=9 then [8]else []) [11] [_,_,_,_,_,_,_] [_] [5,0,0,0,5,0,0] [3] 4 rfl rfl rfl (by kernel_rfl) (by kernel_rfl) (by kernel_rfl) rfl rfl rfl (fun C0 hC0 hCb hCe K' hK' => ?_);have R5: ∀w1,C0 w1→(bt 42 (.pointer (some ⟨p,1,none⟩))).run prog w1= .ok (.agg (A8 h)) w1:=fun w1 hw=>((HC.out.below D8.out).drew.below (hCb w1 hw)).getH;have R6: ∀w1,C0 w1→aF w1 g2=A8 two:=fun w1 hw=>(J8.out.drew.belowAll (hCb w1 hw)).row
  repeat (first|((with_reducible refine hq0 ?_);refine hq0a ?_)|((with_reducible refine hq5 ?_);refine hq5a ?_ (fun _ hcw=>by have f:=R5 _ hcw;have f2:=R6 _ hcw;go_simp;(try go_bits);exact rfl))|((with_reducible refine hq1 ?_);refine hq1a ?_))
  refine aA ?_;clear R5 R6 hSt;generalize hAct:Act.mk _ _=act;obtain⟨u,rfl⟩: ∃u:Nat→Value,act={tmps:=(fun u:Nat→Value=>(Value.pointer (some ⟨p,0,none⟩)::Value.slice a n c::Value.slice b len d::u 3::u 4::u 5::u 6::u 7::u 8::u 9::u 10::u 11::Value.slice a3_ E c3::u 13::Value.pointer (some ⟨g,0,none⟩)::Value.pointer (some ⟨g2,0,none⟩)::u 16::u 17::u 18::u 19::u 20::u 21::u 22::u 23::u 24::u 25::u 26::u 27::u 28::u 29::u 30::u 31::u 32::u 33::u 34::u 35::u 36::u 37::u 38::u 39::u 40::u 41::u 42::u 43::u 44::u 45::u 46::u 47::u 48::u 49::u 50::u 51::u 52::u 53::u 54::u 55::u 56::u 57::u 58::u 59::u 60::u 61::u 62::u 63::u 64::u 65::u 66::u 67::u 68::u 69::Value.agg (A8 two)::u 71::u 72::u 73::Value.agg (A8 h)::Value.slice a n c::Value.slice a3_ E c3::u 77::u 78::u 79::u 80::u 81::u 82::u 83::[]).toArray) u,defers:=[]}:=by
   subst hAct;exact aE _ rfl
  clear hAct;obtain⟨St,hSt⟩: ∃St:Nat→Bool→Act→World→Prop,∀k fr a' w',St k fr a' w'↔(∃x77 x78 x79 x16:Value,a' ={tmps:=(Value.pointer (some ⟨p,0,none⟩)::Value.slice a n c::Value.slice b len d::u 3::u 4::u 5::u 6::u 7::u 8::u 9::u 10::u 11::Value.slice a3_ E c3::u 13::Value.pointer (some ⟨g,0,none⟩)::Value.pointer (some ⟨g2,0,none⟩)::x16::u 17::u 18::u 19::u 20::u 21::u 22::u 23::u 24::u 25::u 26::u 27::u 28::u 29::u 30::u 31::u 32::u 33::u 34::u 35::u 36::u 37::u 38::u 39::u 40::u 41::u 42::u 43::u 44::u 45::u 46::u 47::u 48::u 49::u 50::u 51::u 52::u 53::u 54::u 55::u 56::u 57::u 58::u 59::u 60::u 61::u 62::u 63::u 64::u 65::u 66::u 67::u 68::u 69::Value.agg (A8 two)::u 71::u 72::u 73::Value.agg (A8 h)::Value.slice a n c::Value.slice a3_ E c3::x77::x78::x79::u 80::u 81::u 82::u 83::[]).toArray,defers:=[]}∧Below w8.drew.heap.size w8.drew w'∧(1≤k→x77= .agg (A8 H2))∧(2≤k→ ∃g,x78= .slice (some ⟨g,0,none⟩) 2 2∧Blk w' g 42 (A8 (two++H2)))∧(3≤k→x79= .agg (A8 fst))∧(fr=true→ ∃g,x16= .pointer (some ⟨g,0,none⟩)∧w8.heap.size≤g∧Blk w' g 42 (A8 (ac 8 16)))):=⟨_,fun _ _ _ _=>Iff.rfl⟩;refine cI (St:=St) [_,_,_] _ 0 ⟨?t1,?t2,?t3,trivial⟩ ?tf ?tch ?tnd ?tR _ _ ?t0
  case t0=>exact(hSt _ _ _ _).2 ⟨_,_,_,_,rfl,Below.refl _ _,fun h=>by omega,fun h=>by omega,fun h=>by omega,fun h=>by cases h⟩
  case tch=>exact⟨by decide,by decide,trivial⟩
  case tnd=>decide
  case t1=>
   intro fr a3 w3 hs;obtain⟨x77,x78,x79,x16,rfl,D3,h1,h2,h3,hf⟩:=(hSt _ _ _ _).1 hs;clear hs;refine ai ?_;refine hqc ?_;go_simp;refine af ?_;refine(uk h T X hHl a _ n c E c3 w3 ((HT.out.below D8.out).drew.below D3) (X8.out.drew.below D3) (by omega) (by omega)).mono ?_;rintro e w4 ⟨rfl,d4⟩;refine⟨_,rfl,d4,?_⟩
   try simp only[Act.put,zz1,zz2,zz3]
   rw[show kG h T X=H2 from HH2.out.symm];refine aA ((hSt _ _ _ _).2 ⟨_,_,_,_,rfl,D3.trans (d4.mono D3.size),fun _=>rfl,fun h=>by omega,fun h=>by omega,fun e=> ?_⟩);obtain⟨g,e1,e2,e3⟩:=hf e;exact⟨g,e1,e2,e3.belowAll d4⟩
  case t2=>
   intro fr a3 w3 hs;obtain⟨x77,x78,x79,x16,rfl,D3,h1,h2,h3,hf⟩:=(hSt _ _ _ _).1 hs;clear hs;obtain rfl:=h1 (by omega);refine ai ?_;refine gu (x:= .agg (A8 two)) (y:= .agg (A8 H2)) (size:=16) rfl rfl (by show(A8 two).size=16;rw[ag,htwol]) (by show(A8 H2).size=16;rw[ag,hH2l]) (by omega) (by omega) underlying39 bN (fun w4 g4 b4 d4=> ?_);simp only[Act.put,zz1,zz2,zz3];rw[show(Value.agg (A8 two)).cells++(Value.agg (A8 H2)).cells=A8 (two++H2) from aN two H2]at b4;refine aA ((hSt _ _ _ _).2 ⟨_,_,_,_,rfl,D3.trans (d4.mono D3.size),fun _=>rfl,fun _=>⟨g4,rfl,b4⟩,fun h=>by omega,fun e=> ?_⟩);obtain⟨g,e1,e2,e3⟩:=hf e;exact⟨g,e1,e2,e3.belowAll d4⟩
  case t3=>
   intro fr a3 w3 hs;obtain⟨x77,x78,x79,x16,rfl,D3,h1,h2,h3,hf⟩:=(hSt _ _ _ _).1 hs;clear hs;obtain rfl:=h1 (by omega);obtain⟨g4,rfl,b4⟩:=h2 (by omega);refine ai ?_;have hAH:(two++H2).length=2*16:=by rw[List.length_append,htwol,hH2l]
   refine hqc ?_;go_simp;refine af ?_;refine(ol (two++H2) g4 2 2 w3 (RdS.of_blk b4 hAH (by omega)) (by omega)).mono ?_;rintro e w4 ⟨rfl,d4⟩;refine⟨_,rfl,d4,?_⟩
   try simp only[Act.put,zz1,zz2,zz3]
   rw[dW two H2 htwol hH2l,←HFST.out];refine aA ((hSt _ _ _ _).2 ⟨_,_,_,_,rfl,D3.trans (d4.mono D3.size),fun _=>rfl,fun _=>⟨g4,rfl,b4.belowAll d4⟩,fun _=>rfl,fun e=> ?_⟩);obtain⟨g,e1,e2,e3⟩:=hf e;exact⟨g,e1,e2,e3.belowAll d4⟩
  case tf=>
   intro j hj a3 w3 hs;obtain⟨x77,x78,x79,x16,rfl,D3,h1,h2,h3,hf⟩:=(hSt _ _ _ _).1 hs;clear hs;refine ai ?_;obtain⟨u3,eu3⟩: ∃u,w3.alloc (.cells (A8 (ac 8 16)) 42)=u:=⟨_,rfl⟩;obtain⟨bf,du,zu⟩:=new1 _ _ _ _ eu3;obtain⟨pf,hpf⟩: ∃g,g=w3.heap.size:=⟨_,rfl⟩;refine aY (v:= .pointer (some ⟨pf,0,none⟩)) (w':=u3) rfl (by rw[hpf];go_simp;exact eu3) du ?_;simp only[Act.put,zz1,zz2,zz3];rw[←hpf]at bf;refine aA ((hSt _ _ _ _).2 ⟨_,_,_,_,rfl,D3.trans (du.mono D3.size),h1,fun e=> ?_,h3,fun _=>⟨pf,rfl,by rw[hpf];exact D3.size,bf⟩⟩);obtain⟨g,e1,e2⟩:=h2 e;exact⟨g,e1,e2.belowAll du⟩
  case tR=>
   intro a3 w3 hs;obtain⟨x77,x78,x79,x16,rfl,D3,h1,h2,h3,hf⟩:=(hSt _ _ _ _).1 hs;clear hs hSt;obtain rfl:=h3 (by decide);obtain⟨g3,rfl,hg3,bg⟩:=hf rfl;refine bI ?_;refine aq bg rfl rfl (by rw[ag,ag,hfstl,ah]) (aH _) (by rw[ag,hfstl];exact sizeOf42 _) (fun w4 k4 g4 s4=> ?_);have BD:=D3.trans (ae g4 hg3 D3.size);refine az ⟨hCe _ BD,?_⟩;refine cQ (hK' _ _ ?_);have D9:=hid ((D8.out.drew.trans (BD.mono D8.out.size)));have E9:Below w8.heap.size w8 w4:=((Below.refl w8.heap.size w8).drew).trans BD;have X9:=hid (X8.out.below E9);have F9:Rd8 w4 (some ⟨g3,0,none⟩) 16 16 fst:=by
    have:=k4.rd8 16 (by omega) (by rw[hfstl];unfold maxLen;omega)
    rwa [hfstl,List.take_of_length_le (by omega)]at this
   have F9:=hid F9;clear hK' hC0 hCb hCe BD D3 h1 h2 h3 hf bg g4 s4 k4 E9;obtain⟨i,hi,hz,hs,_⟩:=info_parts od;have hlit:(Instr.buildSlice 113 2 #[(0,.slice (some ⟨g3,0,none⟩) 16 16),(1,.slice a3_ E c3)]).run prog w4= .ok (.slice (some ⟨w4.heap.size,0,none⟩) 2 2) (w4.alloc (.cells ((Value.slice (some ⟨g3,0,none⟩) 16 16).cells++(Value.slice a3_ E c3).cells) 22)):=
    gI w4 _ _ 2 1 _ _ _ underlying113 i hi hz hs (by omega) (by omega) (fun cs hc=>xy cs 1 _ _ rfl rfl hc)
   have hB9:Below w.heap.size w (w4.alloc (.cells ((Value.slice (some ⟨g3,0,none⟩) 16 16).cells++(Value.slice a3_ E c3).cells) 22)):=D9.out.alloc D9.out.size _;have G9:=Blk.new w4 22 ((Value.slice (some ⟨g3,0,none⟩) 16 16).cells++(Value.slice a3_ E c3).cells);have sl:=sls2 (F9.out.alloc (.cells ((Value.slice (some ⟨g3,0,none⟩) 16 16).cells++(Value.slice a3_ E c3).cells) 22)) (X9.out.alloc _);have hfl:([fst,X]:List (Y8)).flatten.length≤70368744177664:=by
    simp only[List.flatten_cons,List.flatten_nil,List.length_append,List.length_nil];omega
   have cc:=jF _ _ _ 2 _ G9 sl rfl (by omega) hfl;have hres:([fst,X]:List (Y8)).flatten=ew S L m h lb T M:=by
    have e1:one=oneH h T M:=by rw[HONE.out,HA.out,HH1.out,HB.out];rfl
    have e2:X=lQ S L m h lb T M:=by rw[HX.out,HST.out,HTWO.out,e1,HB.out];rfl
    simp only[List.flatten_cons,List.flatten_nil,List.append_nil];rw[HFST.out,HH2.out,e2,HTWO.out,e1];rfl
   have CC:=hid cc;have BB:=hid hB9;have RES:=hid hres;clear cc hB9 G9 sl hfl hres;go_wp2_with fail;refine CC.out.mono ?_;rintro e w5 ⟨v,rfl,own,d5⟩;rw[RES.out]at own;have O:=hid (Own8.base own BB.out.size);have B9:=hid (BB.out.trans (d5.mono BB.out.size));clear own d5;go_wp2;go_ret2;exact⟨v,rfl,O.out,B9.out⟩
end Go.Proofs.YtddkbkbpogcffaaGreatDoor
