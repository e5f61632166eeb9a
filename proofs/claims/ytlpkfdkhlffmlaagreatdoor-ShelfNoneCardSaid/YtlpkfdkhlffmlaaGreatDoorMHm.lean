/-adiantum:Encipher-/
import Derived.Test.YtlpkfdkhlffmlaaGreatDoorMHj
import Derived.Test.YtlpkfdkhlffmlaaGreatDoorMHk
import Derived.Test.YtlpkfdkhlffmlaaGreatDoorMGh
namespace Go.Proofs.YtlpkfdkhlffmlaaGreatDoor
open Go.Proofs.Tryz
open Lib (hid)
set_option linter.unusedSimpArgs false
set_option linter.unusedVariables false
set_option maxRecDepth 100000
set_option maxHeartbeats 1600000
open Go.RowKit
theorem wA(q p:Nat)(key T M:Y8)(a b:Option Addr)(n c len d:Nat)(w:World)(hA:AcAt w q p key)(hkl:key.length=32)(ht:Rd8 w a n c T)(hM:Rd8 w b len d M)(h16:16≤len)(hlen:len≤520):
  Calls prog 221 #[.pointer (some ⟨q,0,none⟩),.slice a n c,.slice b len d] w fun e w' => ∃v,e= .returned (.tuple #[v,.int .i64 0])∧Own8 w' w.heap.size 5 v (encA key T M)∧Below w.heap.size w w':=by
 have hMl:=hM.1;obtain⟨kk,ks,hq,hK,hS⟩:=hA;rw[show sch 8 ((ownA key).take 32) 52=aesA key from rfl]at hK;rw[show(ownA key).drop 32=cN key from rfl]at hS;obtain⟨E,hE⟩: ∃E,E=len-16:=⟨_,rfl⟩;obtain⟨B,hB⟩: ∃B,B=dS M:=⟨_,rfl⟩;obtain⟨R,hR⟩: ∃R,R=eF M:=⟨_,rfl⟩;have hBl:B.length=E:=by rw[hB,dS,List.length_take];omega
 have eB:M.take E=B:=by rw[hB,dS,hMl,hE]
 have eR:bS (M.drop E)=R:=by rw[hR,eF,hMl,hE]
 have HP:=hid hq;have HK:=hid hK;have HS:=hid hS;have HT:=hid ht;have HM:=hid hM;have HB:=hid hB;have HR:=hid hR;have hp:=lM M b len d;rw[←hE,eB,eR]at hp;have OP:=hid hp;clear hq hK hS ht hM hB hR hp eB eR hMl;have hE520:E≤520:=by omega
 clear hE;go_enter func221,ntmps221;go_wp2_with fail;refine(nf q b len d w h16).mono ?_;rintro e w0 ⟨rfl,rfl⟩;go_wp2_with fail;refine(OP.out _ HM.out h16 hlen).mono ?_;rintro e w1 ⟨a1,c1,rfl,r1,d1⟩;have N1:=hid (Blk.new w1 242 (A64 (wl R)));have XW:Below w1.heap.size w1 (w1.alloc (.cells (A64 (wl R)) 242)):=(Below.refl w1.heap.size w1).alloc (Nat.le_refl _) _;have D1':=d1.trans (XW.mono d1.size);have A1:=hid (r1.below XW);have P1:=hid (HP.out.belowAll D1');have K1:=hid (HK.out.below D1');have S1:=hid (HS.out.below D1');have T1:=hid (HT.out.below D1');have D1:=hid D1';clear r1 d1 XW D1' OP HM;go_upto_region 5 with fail;generalize w1.alloc (.cells (A64 (wl R)) 242)=V at*;generalize w1.heap.size=g0 at*;refine cq [0,0,0,5,0,5,0,0,0,5,0,0,2,2,2,2,3] [0,1,2,3,4,5,6,7,8,9,10,11] [(12,2,_),(13,2,_),(14,2,_),(15,2,_)] (fun i=>if i=13 then [12]else if i=14 then [13]else []) [16] [_,_,_,_,_,_,_,_,_,_,_,_] [_] [0,0,0,5,0,5,0,0,0,5,0,0] [3] 4 rfl rfl rfl (by kernel_rfl) (by kernel_rfl) (by kernel_rfl) rfl rfl rfl (fun C0 hC0 hCb hCe K' hK' => ?_);have Q1: ∀w1,C0 w1→w1.cell? ⟨q,32,none⟩=some (.pointer (some ⟨kk,0,none⟩)):=fun w1 hw=>by rw[(P1.out.drew.belowAll (hCb w1 hw)).cell,eV hkl]
 have Q2: ∀w1,C0 w1→w1.cell? ⟨q,33,none⟩=some (.pointer (some ⟨ks,0,none⟩)):=fun w1 hw=>by rw[(P1.out.drew.belowAll (hCb w1 hw)).cell,fW hkl]
 have Q3: ∀w1,C0 w1→ar w1 g0=A64 (wl R):=fun w1 hw=>(N1.out.drew.belowAll (hCb w1 hw)).row
 repeat (first|((with_reducible refine hq0 ?_);refine hq0a ?_)|((with_reducible refine hq5 ?_);refine hq5a ?_ (fun _ hcw=>by have f1:=Q1 _ hcw;have f2:=Q2 _ hcw;have f3:=Q3 _ hcw;go_simp;(try go_bits);exact rfl))|((with_reducible refine hq1 ?_);refine hq1a ?_))
 refine ax ?_;clear Q1 Q2 Q3;generalize hAct:Act.mk _ _=act;obtain⟨u,rfl⟩: ∃u:Nat→Value,act={tmps:=(fun u:Nat→Value=>(Value.pointer (some ⟨q,0,none⟩)::Value.slice a n c::Value.slice b len d::u 3::u 4::u 5::u 6::u 7::u 8::Value.slice a1 E c1::u 10::u 11::u 12::u 13::u 14::u 15::u 16::u 17::u 18::u 19::u 20::u 21::u 22::u 23::u 24::u 25::u 26::Value.func (Fn.func 69) #[Value.pointer (some ⟨kk,0,none⟩)] #[]::Value.agg (A64 (wl R))::u 29::u 30::u 31::Value.pointer (some ⟨ks,0,none⟩)::Value.slice a n c::Value.slice a1 E c1::u 35::u 36::u 37::u 38::u 39::u 40::u 41::u 42::u 43::u 44::u 45::u 46::u 47::u 48::u 49::u 50::u 51::u 52::[]).toArray) u,defers:=[]}:=by
  subst hAct;exact aI _ rfl
 clear hAct;have hBle:B.length≤70368744177664:=by omega
 obtain⟨SB,hSB⟩: ∃z,z=sumN (cN key) T B:=⟨_,rfl⟩;obtain⟨PL,hPL⟩: ∃z,z=ev R SB:=⟨_,rfl⟩;obtain⟨MID,hMID⟩: ∃z,z=bS (encS (aesA key) 15 (bu PL)):=⟨_,rfl⟩;have HSB:=hid hSB;have HPL:=hid hPL;have HMID:=hid hMID;clear hSB hPL hMID;obtain⟨St,hSt⟩: ∃St:Nat→Bool→Act→World→Prop,∀k fr a' w',St k fr a' w'↔(∃x35 x36 x37 x11:Value,a' ={tmps:=(Value.pointer (some ⟨q,0,none⟩)::Value.slice a n c::Value.slice b len d::u 3::u 4::u 5::u 6::u 7::u 8::Value.slice a1 E c1::u 10::x11::u 12::u 13::u 14::u 15::u 16::u 17::u 18::u 19::u 20::u 21::u 22::u 23::u 24::u 25::u 26::Value.func (Fn.func 69) #[Value.pointer (some ⟨kk,0,none⟩)] #[]::Value.agg (A64 (wl R))::u 29::u 30::u 31::Value.pointer (some ⟨ks,0,none⟩)::Value.slice a n c::Value.slice a1 E c1::x35::x36::x37::u 38::u 39::u 40::u 41::u 42::u 43::u 44::u 45::u 46::u 47::u 48::u 49::u 50::u 51::u 52::[]).toArray,defers:=[]}∧Below V.drew.heap.size V.drew w'∧(1≤k→x35= .agg (A64 (wl SB)))∧(2≤k→x36= .agg (A64 (wl PL)))∧(3≤k→x37= .agg (A64 (wl MID)))∧(fr=true→ ∃g,x11= .pointer (some ⟨g,0,none⟩)∧V.heap.size≤g∧Blk w' g 242 (A64 (aa 64 2)))):=⟨_,fun _ _ _ _=>Iff.rfl⟩;refine bP (St:=St) [_,_,_] _ 0 ⟨?s1,?s2,?s3,trivial⟩ ?hf ?hch ?hnd ?hR _ _ ?h0
 case h0=>exact(hSt _ _ _ _).2 ⟨_,_,_,_,rfl,Below.refl _ _,fun h=>by omega,fun h=>by omega,fun h=>by omega,fun h=>by cases h⟩
 case hch=>exact⟨by decide,by decide,trivial⟩
 case hnd=>decide
 case s1=>
  intro fr a3 w3 hs;obtain⟨x35,x36,x37,x11,rfl,D3,h1,h2,h3,hf⟩:=(hSt _ _ _ _).1 hs;clear hs;refine aj ?_;refine hqc ?_;go_simp;refine ae ?_;refine(iQ ks (cN key) T B a n c a1 E c1 w3 ((show AdK V.drew ks (cN key) from S1.out).below D3) (T1.out.drew.below D3) (A1.out.drew.below D3) (by omega)).mono ?_;rintro e w4 ⟨rfl,d4⟩;refine⟨_,rfl,d4,?_⟩
  try simp only[Act.put,zz1,zz2,zz3]
  rw[←HSB.out];refine ax ((hSt _ _ _ _).2 ⟨_,_,_,_,rfl,D3.trans (d4.mono D3.size),fun _=>rfl,fun h=>by omega,fun h=>by omega,fun e=> ?_⟩);obtain⟨g,e1,e2,e3⟩:=hf e;exact⟨g,e1,e2,e3.belowAll d4⟩
 case s2=>
  intro fr a3 w3 hs;obtain⟨x35,x36,x37,x11,rfl,D3,h1,h2,h3,hf⟩:=(hSt _ _ _ _).1 hs;clear hs;obtain rfl:=h1 (by omega);refine aj ?_;refine hqc ?_;go_simp;refine ae ?_;refine(ij R SB w3).mono ?_;rintro e w4 ⟨rfl,d4⟩;refine⟨_,rfl,d4,?_⟩
  try simp only[Act.put,zz1,zz2,zz3]
  rw[←HPL.out];refine ax ((hSt _ _ _ _).2 ⟨_,_,_,_,rfl,D3.trans (d4.mono D3.size),fun _=>rfl,fun _=>rfl,fun h=>by omega,fun e=> ?_⟩);obtain⟨g,e1,e2,e3⟩:=hf e;exact⟨g,e1,e2,e3.belowAll d4⟩
 case s3=>
  intro fr a3 w3 hs;obtain⟨x35,x36,x37,x11,rfl,D3,h1,h2,h3,hf⟩:=(hSt _ _ _ _).1 hs;clear hs;obtain rfl:=h1 (by omega);obtain rfl:=h2 (by omega);refine aj ?_;refine hqc ?_;go_simp;refine ae ?_;refine(wu kk p 15 (aesA key) PL w3 (K1.out.drew.below D3) (by omega) (by omega)).mono ?_;rintro e w4 ⟨rfl,d4⟩;refine⟨_,rfl,d4,?_⟩
  try simp only[Act.put,zz1,zz2,zz3]
  rw[←HMID.out];refine ax ((hSt _ _ _ _).2 ⟨_,_,_,_,rfl,D3.trans (d4.mono D3.size),fun _=>rfl,fun _=>rfl,fun _=>rfl,fun e=> ?_⟩);obtain⟨g,e1,e2,e3⟩:=hf e;exact⟨g,e1,e2,e3.belowAll d4⟩
 case hf=>
  intro j hj a3 w3 hs;obtain⟨x35,x36,x37,x11,rfl,D3,h1,h2,h3,hf⟩:=(hSt _ _ _ _).1 hs;clear hs;refine aj ?_;obtain⟨u3,eu3⟩: ∃u,w3.alloc (.cells (A64 (aa 64 2)) 242)=u:=⟨_,rfl⟩;obtain⟨bf,du,zu⟩:=new1 _ _ _ _ eu3;obtain⟨pf,hpf⟩: ∃g,g=w3.heap.size:=⟨_,rfl⟩;refine aX (v:= .pointer (some ⟨pf,0,none⟩)) (w':=u3) rfl (by rw[hpf];go_simp;exact eu3) du ?_;simp only[Act.put,zz1,zz2,zz3];rw[←hpf]at bf;exact ax ((hSt _ _ _ _).2 ⟨_,_,_,_,rfl,D3.trans (du.mono D3.size),h1,h2,h3,fun _=>⟨pf,rfl,by rw[hpf];exact D3.size,bf⟩⟩)
 case hR=>
  intro a3 w3 hs;obtain⟨x35,x36,x37,x11,rfl,D3,h1,h2,h3,hf⟩:=(hSt _ _ _ _).1 hs;clear hs;obtain rfl:=h3 (by decide);obtain⟨g,rfl,hg,bg⟩:=hf rfl;refine bE ?_;refine am bg rfl rfl rfl (iD _) (sizeOf242 _) (fun w4 k4 g4 s4=> ?_);have BD:=D3.trans (ac g4 hg D3.size);refine ak ⟨hCe _ BD,?_⟩;refine cQ (hK' _ _ ?_);have E4:Below V.heap.size V w4:=((Below.refl V.heap.size V).drew).trans BD;have K4:=hid k4;have P4:=hid (P1.out.belowAll E4);have S4:=hid (S1.out.below E4);have T4:=hid (T1.out.below E4);have A4:=hid (A1.out.below E4);have D4:=hid (D1.out.trans (E4.mono D1.out.size));have hr4:=k4.row;clear hK' hC0 hCb hCe BD D3 h1 h2 h3 hf bg g4 s4 k4 E4 hSt N1 P1 K1 S1 T1 A1 D1 HK;obtain⟨OUT,hOUT⟩: ∃z,z=aG key (dR MID) 12 B:=⟨_,rfl⟩;have hOl:OUT.length=E:=by rw[hOUT];simp[aG,bt,hBl]
  have HOUT:=hid hOUT;clear hOUT;go_wp2_with fail;refine(ka q key _ _ MID B a1 E c1 w4 hkl P4.out A4.out (by omega)).mono ?_;rintro e w5 ⟨v5,rfl,o5,d5⟩;rw[←HOUT.out]at o5;obtain⟨a5,c5,rfl,r5,_⟩:=o5.rd;rw[hOl]at r5⊢;have K5:=hid (K4.out.belowAll d5);have P5:=hid (P4.out.belowAll d5);have S5:=hid (S4.out.below d5);have T5:=hid (T4.out.below d5);have D5:=hid (D4.out.trans (d5.mono D4.out.size));have R5:=hid r5;clear o5 r5 d5 hr4 K4 P4 S4 T4 A4 D4;go_upto_region 7 with fail;obtain⟨SO,hSO⟩: ∃z,z=sumN (cN key) T OUT:=⟨_,rfl⟩;obtain⟨DF,hDF⟩: ∃z,z=fU MID SO:=⟨_,rfl⟩;have HSO:=hid hSO;have HDF:=hid hDF;clear hSO hDF;refine an [0,5,0,0,0,5,0,0,2,2,2,0,0] (by kernel_rfl) (by kernel_rfl) (fun C0 hC0 hCb K' hK' => ?_);have Q2: ∀w1,C0 w1→w1.cell? ⟨q,33,none⟩=some (.pointer (some ⟨ks,0,none⟩)):=fun w1 hw=>by rw[(P5.out.drew.belowAll (hCb w1 hw)).cell,fW hkl]
  have Q3: ∀w1,C0 w1→ar w1 g=A64 (wl MID):=fun w1 hw=>(K5.out.drew.belowAll (hCb w1 hw)).row
  repeat (first|((with_reducible refine hq0 ?_);refine hq0a ?_)|((with_reducible refine hq5 ?_);refine hq5a ?_ (fun _ hcw=>by have f2:=Q2 _ hcw;have f3:=Q3 _ hcw;go_simp;(try go_bits);exact rfl))|((with_reducible refine hq1 ?_);refine hq1a ?_))
  refine hqc ?_;go_simp;refine ae ?_;refine(iQ ks (cN key) T OUT a n c a5 E c5 w5.drew (show AdK w5.drew ks (cN key) from S5.out) T5.out.drew R5.out.drew (by omega)).mono ?_;rintro e w6 ⟨rfl,d6⟩;refine⟨_,rfl,d6,?_⟩
  try simp only[Act.put,zz1,zz2,zz3]
  rw[←HSO.out];refine hqc ?_;go_simp;refine ae ?_;refine(lL MID SO w6).mono ?_;rintro e w7 ⟨rfl,d7⟩;refine⟨_,rfl,d7,?_⟩
  try simp only[Act.put,zz1,zz2,zz3]
  rw[←HDF.out];have d67:=d6.trans (d7.mono d6.size);refine hqc ?_;go_simp;refine ae ?_;refine(jZ OUT a5 E c5 DF w7 (R5.out.drew.below d67) (by omega)).mono ?_;rintro e w8 ⟨v8_,rfl,o8,d8⟩;refine⟨_,rfl,d8,?_⟩
  try simp only[Act.put,zz1,zz2,zz3]
  have d68:=d67.trans (d8.mono d67.size);have B8:=D5.out.drew.trans (d68.mono D5.out.drew.size);have o9:=Own8.base o8 (Nat.le_trans D5.out.drew.size d67.size);have hres:OUT++bu DF=encA key T M:=by
   rw[encA,fX,←HB.out,show midE key T M=MID by rw[midE,HMID.out,HPL.out,HSB.out,HR.out,HB.out],←HOUT.out,HDF.out,HSO.out]
  rw[hres]at o9;have O9:=hid o9;have B9:=hid B8;clear o8 o9 d8 d68 d67 d7 d6 B8 hres
  repeat (first|((with_reducible refine hq0 ?_);refine hq0a ?_)|((with_reducible refine hq5 ?_);refine hq5a ?_ (fun _ hcw=>by have f2:=Q2 _ hcw;have f3:=Q3 _ hcw;go_simp;(try go_bits);exact rfl))|((with_reducible refine hq1 ?_);refine hq1a ?_))
  refine ax (hK' _ _ ?_);clear Q2 Q3 hK' hCb hC0;go_wp2;go_ret2;exact⟨v8_,rfl,O9.out,B9.out⟩
open Go.RowKit
theorem wB(q p:Nat)(key T M:Y8)(a b:Option Addr)(n c len d:Nat)(w:World)(hA:AcAt w q p key)(hkl:key.length=32)(ht:Rd8 w a n c T)(hM:Rd8 w b len d M)(h16:16≤len)(hlen:len≤520):
  Calls prog 220 #[.pointer (some ⟨q,0,none⟩),.slice a n c,.slice b len d] w fun e w' => ∃v,e= .returned (.tuple #[v,.int .i64 0])∧Own8 w' w.heap.size 5 v (decA key T M)∧Below w.heap.size w w':=by
 have hMl:=hM.1;obtain⟨kk,ks,hq,hK,hS⟩:=hA;rw[show sch 8 ((ownA key).take 32) 52=aesA key from rfl]at hK;rw[show(ownA key).drop 32=cN key from rfl]at hS;obtain⟨E,hE⟩: ∃E,E=len-16:=⟨_,rfl⟩;obtain⟨B,hB⟩: ∃B,B=dS M:=⟨_,rfl⟩;obtain⟨R,hR⟩: ∃R,R=eF M:=⟨_,rfl⟩;have hBl:B.length=E:=by rw[hB,dS,List.length_take];omega
 have eB:M.take E=B:=by rw[hB,dS,hMl,hE]
 have eR:bS (M.drop E)=R:=by rw[hR,eF,hMl,hE]
 have HP:=hid hq;have HK:=hid hK;have HS:=hid hS;have HT:=hid ht;have HM:=hid hM;have HB:=hid hB;have HR:=hid hR;have hp:=lM M b len d;rw[←hE,eB,eR]at hp;have OP:=hid hp;clear hq hK hS ht hM hB hR hp eB eR hMl;have hE520:E≤520:=by omega
 clear hE;go_enter func220,ntmps220;go_wp2_with fail;refine(nf q b len d w h16).mono ?_;rintro e w0 ⟨rfl,rfl⟩;go_wp2_with fail;refine(OP.out _ HM.out h16 hlen).mono ?_;rintro e w1 ⟨a1,c1,rfl,r1,d1⟩;have N1:=hid (Blk.new w1 242 (A64 (wl R)));have XW:Below w1.heap.size w1 (w1.alloc (.cells (A64 (wl R)) 242)):=(Below.refl w1.heap.size w1).alloc (Nat.le_refl _) _;have D1':=d1.trans (XW.mono d1.size);have A1:=hid (r1.below XW);have P1:=hid (HP.out.belowAll D1');have K1:=hid (HK.out.below D1');have S1:=hid (HS.out.below D1');have T1:=hid (HT.out.below D1');have D1:=hid D1';clear r1 d1 XW D1' OP HM;go_upto_region 5 with fail;generalize w1.alloc (.cells (A64 (wl R)) 242)=V at*;generalize w1.heap.size=g0 at*;refine cq [5,0,0,0,5,0,0,2,2,2,3] [0,1,2,3,4,5,6] [(7,2,_),(8,2,_),(9,2,_)] (fun i=>if i=8 then [7]else []) [10] [_,_,_,_,_,_,_] [_] [5,0,0,0,5,0,0] [3] 3 rfl rfl rfl (by kernel_rfl) (by kernel_rfl) (by kernel_rfl) rfl rfl rfl (fun C0 hC0 hCb hCe K' hK' => ?_);have Q2: ∀w1,C0 w1→w1.cell? ⟨q,33,none⟩=some (.pointer (some ⟨ks,0,none⟩)):=fun w1 hw=>by rw[(P1.out.drew.belowAll (hCb w1 hw)).cell,fW hkl]
 have Q3: ∀w1,C0 w1→ar w1 g0=A64 (wl R):=fun w1 hw=>(N1.out.drew.belowAll (hCb w1 hw)).row
 repeat (first|((with_reducible refine hq0 ?_);refine hq0a ?_)|((with_reducible refine hq5 ?_);refine hq5a ?_ (fun _ hcw=>by have f2:=Q2 _ hcw;have f3:=Q3 _ hcw;go_simp;(try go_bits);exact rfl))|((with_reducible refine hq1 ?_);refine hq1a ?_))
 refine ax ?_;clear Q2 Q3;generalize hAct:Act.mk _ _=act;obtain⟨u,rfl⟩: ∃u:Nat→Value,act={tmps:=(fun u:Nat→Value=>(Value.pointer (some ⟨q,0,none⟩)::Value.slice a n c::Value.slice b len d::u 3::u 4::u 5::u 6::u 7::u 8::Value.slice a1 E c1::u 10::u 11::u 12::u 13::u 14::u 15::u 16::u 17::u 18::u 19::u 20::u 21::u 22::Value.agg (A64 (wl R))::u 24::u 25::u 26::Value.pointer (some ⟨ks,0,none⟩)::Value.slice a n c::Value.slice a1 E c1::u 30::u 31::u 32::u 33::u 34::u 35::u 36::u 37::u 38::u 39::u 40::u 41::u 42::u 43::u 44::u 45::u 46::u 47::u 48::u 49::u 50::u 51::u 52::[]).toArray) u,defers:=[]}:=by
  subst hAct;exact aI _ rfl
 clear hAct;have hBle:B.length≤70368744177664:=by omega
 obtain⟨SB,hSB⟩: ∃z,z=sumN (cN key) T B:=⟨_,rfl⟩;obtain⟨MID,hMID⟩: ∃z,z=ev R SB:=⟨_,rfl⟩;have HSB:=hid hSB;have HMID:=hid hMID;clear hSB hMID;obtain⟨St,hSt⟩: ∃St:Nat→Bool→Act→World→Prop,∀k fr a' w',St k fr a' w'↔(∃x30 x31 x11:Value,a' ={tmps:=(Value.pointer (some ⟨q,0,none⟩)::Value.slice a n c::Value.slice b len d::u 3::u 4::u 5::u 6::u 7::u 8::Value.slice a1 E c1::u 10::x11::u 12::u 13::u 14::u 15::u 16::u 17::u 18::u 19::u 20::u 21::u 22::Value.agg (A64 (wl R))::u 24::u 25::u 26::Value.pointer (some ⟨ks,0,none⟩)::Value.slice a n c::Value.slice a1 E c1::x30::x31::u 32::u 33::u 34::u 35::u 36::u 37::u 38::u 39::u 40::u 41::u 42::u 43::u 44::u 45::u 46::u 47::u 48::u 49::u 50::u 51::u 52::[]).toArray,defers:=[]}∧Below V.drew.heap.size V.drew w'∧(1≤k→x30= .agg (A64 (wl SB)))∧(2≤k→x31= .agg (A64 (wl MID)))∧(fr=true→ ∃g,x11= .pointer (some ⟨g,0,none⟩)∧V.heap.size≤g∧Blk w' g 242 (A64 (aa 64 2)))):=⟨_,fun _ _ _ _=>Iff.rfl⟩;refine bP (St:=St) [_,_] _ 0 ⟨?s1,?s2,trivial⟩ ?hf ?hch ?hnd ?hR _ _ ?h0
 case h0=>exact(hSt _ _ _ _).2 ⟨_,_,_,rfl,Below.refl _ _,fun h=>by omega,fun h=>by omega,fun h=>by cases h⟩
 case hch=>exact⟨by decide,trivial⟩
 case hnd=>decide
 case s1=>
  intro fr a3 w3 hs;obtain⟨x30,x31,x11,rfl,D3,h1,h2,hf⟩:=(hSt _ _ _ _).1 hs;clear hs;refine aj ?_;refine hqc ?_;go_simp;refine ae ?_;refine(iQ ks (cN key) T B a n c a1 E c1 w3 ((show AdK V.drew ks (cN key) from S1.out).below D3) (T1.out.drew.below D3) (A1.out.drew.below D3) (by omega)).mono ?_;rintro e w4 ⟨rfl,d4⟩;refine⟨_,rfl,d4,?_⟩
  try simp only[Act.put,zz1,zz2,zz3]
  rw[←HSB.out];refine ax ((hSt _ _ _ _).2 ⟨_,_,_,rfl,D3.trans (d4.mono D3.size),fun _=>rfl,fun h=>by omega,fun e=> ?_⟩);obtain⟨g,e1,e2,e3⟩:=hf e;exact⟨g,e1,e2,e3.belowAll d4⟩
 case s2=>
  intro fr a3 w3 hs;obtain⟨x30,x31,x11,rfl,D3,h1,h2,hf⟩:=(hSt _ _ _ _).1 hs;clear hs;obtain rfl:=h1 (by omega);refine aj ?_;refine hqc ?_;go_simp;refine ae ?_;refine(ij R SB w3).mono ?_;rintro e w4 ⟨rfl,d4⟩;refine⟨_,rfl,d4,?_⟩
  try simp only[Act.put,zz1,zz2,zz3]
  rw[←HMID.out];refine ax ((hSt _ _ _ _).2 ⟨_,_,_,rfl,D3.trans (d4.mono D3.size),fun _=>rfl,fun _=>rfl,fun e=> ?_⟩);obtain⟨g,e1,e2,e3⟩:=hf e;exact⟨g,e1,e2,e3.belowAll d4⟩
 case hf=>
  intro j hj a3 w3 hs;obtain⟨x30,x31,x11,rfl,D3,h1,h2,hf⟩:=(hSt _ _ _ _).1 hs;clear hs;refine aj ?_;obtain⟨u3,eu3⟩: ∃u,w3.alloc (.cells (A64 (aa 64 2)) 242)=u:=⟨_,rfl⟩;obtain⟨bf,du,zu⟩:=new1 _ _ _ _ eu3;obtain⟨pf,hpf⟩: ∃g,g=w3.heap.size:=⟨_,rfl⟩;refine aX (v:= .pointer (some ⟨pf,0,none⟩)) (w':=u3) rfl (by rw[hpf];go_simp;exact eu3) du ?_;simp only[Act.put,zz1,zz2,zz3];rw[←hpf]at bf;exact ax ((hSt _ _ _ _).2 ⟨_,_,_,rfl,D3.trans (du.mono D3.size),h1,h2,fun _=>⟨pf,rfl,by rw[hpf];exact D3.size,bf⟩⟩)
 case hR=>
  intro a3 w3 hs;obtain⟨x30,x31,x11,rfl,D3,h1,h2,hf⟩:=(hSt _ _ _ _).1 hs;clear hs;obtain rfl:=h2 (by decide);obtain⟨g,rfl,hg,bg⟩:=hf rfl;refine bE ?_;refine am bg rfl rfl rfl (iD _) (sizeOf242 _) (fun w4 k4 g4 s4=> ?_);have BD:=D3.trans (ac g4 hg D3.size);refine ak ⟨hCe _ BD,?_⟩;refine cQ (hK' _ _ ?_);have E4:Below V.heap.size V w4:=((Below.refl V.heap.size V).drew).trans BD;have K4:=hid k4;have P4:=hid (P1.out.belowAll E4);have S4:=hid (S1.out.below E4);have T4:=hid (T1.out.below E4);have A4:=hid (A1.out.below E4);have D4:=hid (D1.out.trans (E4.mono D1.out.size));have hr4:=k4.row;have KK4:=hid (K1.out.below E4);clear hK' hC0 hCb hCe BD D3 h1 h2 hf bg g4 s4 k4 E4 hSt N1 P1 K1 S1 T1 A1 D1 HK;obtain⟨OUT,hOUT⟩: ∃z,z=aG key (dR MID) 12 B:=⟨_,rfl⟩;have hOl:OUT.length=E:=by rw[hOUT];simp[aG,bt,hBl]
  have HOUT:=hid hOUT;clear hOUT;go_wp2_with fail;refine(ka q key _ _ MID B a1 E c1 w4 hkl P4.out A4.out (by omega)).mono ?_;rintro e w5 ⟨v5,rfl,o5,d5⟩;rw[←HOUT.out]at o5;obtain⟨a5,c5,rfl,r5,_⟩:=o5.rd;rw[hOl]at r5⊢;have K5:=hid (K4.out.belowAll d5);have KK5:=hid (KK4.out.below d5);have P5:=hid (P4.out.belowAll d5);have S5:=hid (S4.out.below d5);have T5:=hid (T4.out.below d5);have D5:=hid (D4.out.trans (d5.mono D4.out.size));have R5:=hid r5;clear o5 r5 d5 hr4 K4 KK4 P4 S4 T4 A4 D4;go_upto_region 7 with fail;obtain⟨SO,hSO⟩: ∃z,z=sumN (cN key) T OUT:=⟨_,rfl⟩;obtain⟨PL,hPL⟩: ∃z,z=bS (decS (aesA key) 15 (bu MID)):=⟨_,rfl⟩;obtain⟨DF,hDF⟩: ∃z,z=fU PL SO:=⟨_,rfl⟩;have HSO:=hid hSO;have HPL:=hid hPL;have HDF:=hid hDF;clear hSO hPL hDF;refine an [0,0,0,0,5,0,5,2,0,0,0,5,0,0,2,2,2,0,0] (by kernel_rfl) (by kernel_rfl) (fun C0 hC0 hCb K' hK' => ?_);have Q1: ∀w1,C0 w1→w1.cell? ⟨q,32,none⟩=some (.pointer (some ⟨kk,0,none⟩)):=fun w1 hw=>by rw[(P5.out.drew.belowAll (hCb w1 hw)).cell,eV hkl]
  have Q2: ∀w1,C0 w1→w1.cell? ⟨q,33,none⟩=some (.pointer (some ⟨ks,0,none⟩)):=fun w1 hw=>by rw[(P5.out.drew.belowAll (hCb w1 hw)).cell,fW hkl]
  have Q3: ∀w1,C0 w1→ar w1 g=A64 (wl MID):=fun w1 hw=>(K5.out.drew.belowAll (hCb w1 hw)).row
  repeat (first|((with_reducible refine hq0 ?_);refine hq0a ?_)|((with_reducible refine hq5 ?_);refine hq5a ?_ (fun _ hcw=>by have f1:=Q1 _ hcw;have f2:=Q2 _ hcw;have f3:=Q3 _ hcw;go_simp;(try go_bits);exact rfl))|((with_reducible refine hq1 ?_);refine hq1a ?_))
  refine hqc ?_;go_simp;refine ae ?_;refine(wv kk p 15 (aesA key) MID w5.drew KK5.out.drew (by omega) (by omega)).mono ?_;rintro e w55 ⟨rfl,d55⟩;refine⟨_,rfl,d55,?_⟩
  try simp only[Act.put,zz1,zz2,zz3]
  rw[←HPL.out]
  repeat (first|((with_reducible refine hq0 ?_);refine hq0a ?_)|((with_reducible refine hq5 ?_);refine hq5a ?_ (fun _ hcw=>by have f1:=Q1 _ hcw;have f2:=Q2 _ hcw;have f3:=Q3 _ hcw;go_simp;(try go_bits);exact rfl))|((with_reducible refine hq1 ?_);refine hq1a ?_))
  refine hqc ?_;go_simp;refine ae ?_;refine(iQ ks (cN key) T OUT a n c a5 E c5 w55 ((show AdK w5.drew ks (cN key) from S5.out).below d55) (T5.out.drew.below d55) (R5.out.drew.below d55) (by omega)).mono ?_;rintro e w6 ⟨rfl,d6⟩;refine⟨_,rfl,d6,?_⟩
  try simp only[Act.put,zz1,zz2,zz3]
  rw[←HSO.out];refine hqc ?_;go_simp;refine ae ?_;refine(lL PL SO w6).mono ?_;rintro e w7 ⟨rfl,d7⟩;refine⟨_,rfl,d7,?_⟩
  try simp only[Act.put,zz1,zz2,zz3]
  rw[←HDF.out];have d67:=d55.trans ((d6.trans (d7.mono d6.size)).mono d55.size);refine hqc ?_;go_simp;refine ae ?_;refine(jZ OUT a5 E c5 DF w7 (R5.out.drew.below d67) (by omega)).mono ?_;rintro e w8 ⟨v8_,rfl,o8,d8⟩;refine⟨_,rfl,d8,?_⟩
  try simp only[Act.put,zz1,zz2,zz3]
  have d68:=d67.trans (d8.mono d67.size);have B8:=D5.out.drew.trans (d68.mono D5.out.drew.size);have o9:=Own8.base o8 (Nat.le_trans D5.out.drew.size d67.size);have hres:OUT++bu DF=decA key T M:=by
   rw[decA,fX,←HB.out,show midD key T M=MID by rw[midD,HMID.out,HSB.out,HR.out,HB.out],←HOUT.out,HDF.out,HSO.out,HPL.out]
  rw[hres]at o9;have O9:=hid o9;have B9:=hid B8;clear o8 o9 d8 d68 d67 d7 d6 B8 hres
  repeat (first|((with_reducible refine hq0 ?_);refine hq0a ?_)|((with_reducible refine hq5 ?_);refine hq5a ?_ (fun _ hcw=>by have f2:=Q2 _ hcw;have f3:=Q3 _ hcw;go_simp;(try go_bits);exact rfl))|((with_reducible refine hq1 ?_);refine hq1a ?_))
  refine ax (hK' _ _ ?_);clear Q1;clear Q2 Q3 hK' hCb hC0;go_wp2;go_ret2;exact⟨v8_,rfl,O9.out,B9.out⟩
end Go.Proofs.YtlpkfdkhlffmlaaGreatDoor
