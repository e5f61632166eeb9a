/-nh:Words,product-/
import Derived.Test.YtlpkfdkhlffmlaaGreatDoorMGb
import Derived.Test.YtlpkfdkhlffmlaaGreatDoorMGm
import Derived.Test.YtlpkfdkhlffmlaaGreatDoorMAes3
import Derived.Test.YtlpkfdkhlffmlaaGreatDoorMHp
import Derived.Test.YtlpkfdkhlffmlaaGreatDoorMGn
namespace Go.Proofs.YtlpkfdkhlffmlaaGreatDoor
open Go.Proofs.Tryz
open Lib (hid)
set_option linter.unusedSimpArgs false
set_option linter.unusedVariables false
set_option maxRecDepth 100000
set_option maxHeartbeats 1600000
open Go.RowKit
def dA(key:Y8):Nat→List (BitVec 32)
 |0=>aa 32 268
 |j+1=>(dA key j).set j (word key (4*j))
theorem fZ(key:Y8)(j:Nat):(dA key j).length=268:=by
 induction j with
 |zero=>exact af _ _
 |succ j ih=>rw[dA,List.length_set,ih]
theorem rX {P:Program}(w:World)(t e:TypeId)(l c:Int)(ht:P.underlying t=some (.slice e))(hi:(P.info? e).map (fun i=>(i.zero,i.size,i.bytes))=some (some (.int .u32 0),1,4))(h0:0≤l)(hlc:l≤c)(hb:c≤1000000):
  (Instr.makeSlice t (.int .i64 l) (.int .i64 c)).run P w= .ok (.slice (some ⟨w.heap.size,0,none⟩) l.toNat c.toNat) (w.alloc (.cells (A32 (aa 32 c.toNat)) e)):=by
 obtain⟨i,hi,hz,hs,hby⟩:=info_parts hi;rw[run_make w t e i (.int .u32 0) ht hi hz .i64 .i64 l c h0 hlc (by rw[hby];omega) (by omega)];congr 3;apply Array.ext';rw[hs,Nat.mul_one];show(madeCells #[Value.int .u32 0] c.toNat).toList=_;rw[toList_madeCells_one,A32,aa,List.map_replicate];rfl
@[go_sem ↓ high] theorem Cb(w:World):(Instr.makeSlice 206 (.int .i64 268) (.int .i64 268)).run prog w= .ok (.slice (some ⟨w.heap.size,0,none⟩) 268 268) (w.alloc (.cells (A32 (aa 32 268)) 69)):=
 rX w _ _ 268 268 underlying206 (by kernel_rfl) (by omega) (by omega) (by omega)
theorem uu(key:Y8)(a:Option Addr)(c:Nat)(w:World)(hr:Rd8 w a 1072 c key):
  Calls prog 102 #[.slice a 1072 c] w fun e w' =>e= .returned (.tuple #[.slice (some ⟨w.heap.size,0,none⟩) 268 268,.int .i64 0])∧Blk w' w.heap.size 69 (A32 (dA key 268))∧Below w.heap.size w w':=by
 obtain⟨W,hW⟩: ∃W,(w.alloc (.cells (A32 (aa 32 268)) 69))=W:=⟨_,rfl⟩;obtain⟨b0,hb,hz⟩:=new1 _ _ _ _ hW;have Z0:=hid b0;have B0:=hid hb;have HR:=hid hr;clear b0 hb hr;go_enter func102,ntmps102;go_wp2;go_loopw [12] (fun i wr=> ∃j:Nat,j≤268∧i= .int .i64 j∧Blk wr w.heap.size 69 (A32 (dA key j))∧Below w.heap.size w wr) (fun i _=>268-(intOf i).toNat)
 case atStart=>exact⟨0,Nat.zero_le _,rfl,Z0.out,B0.out⟩
 case round=>
  obtain⟨j,hj,rfl,hblk,hgr⟩:=hrel;have Hk:=hid hblk;have Hg:=hid hgr;clear hblk hgr;by_cases hjn:j<268
  ·have i1:(j:Int)<268:=by omega
   have i0:(0:Int)≤(j:Int):=by omega
   have hRd:=HR.out.below Hg.out;go_wp2_with fail;refine(bW key a 1072 c (4*(j:Int)) wr hRd (by omega) (by omega)).mono ?_;rintro e w1 ⟨rfl,hb1⟩;have e4:(4*(j:Int)).toNat=4*j:=by omega
   rw[e4];have K1:=Hk.out.belowAll hb1;have B1:=Hg.out.trans (hb1.mono Hg.out.size);have c1:w1.cell? ⟨w.heap.size,j,none⟩=some (v32 (nth (dA key j) j)):=K1.cell32 (fZ _ _) j (by omega);have fr:=K1.frozen j;have K2:=hid (K1.set_ j (v32 (word key (4*j))));have B2:=hid (B1.setCell (p:=⟨w.heap.size,j,none⟩) (Nat.le_refl _) (v32 (word key (4*j))));clear hb1 K1 B1 hRd;go_wp2;exact⟨⟨j+1,by omega,by go_num,by have:=K2.out;rw[gu]at this;exact this,B2.out⟩,by simp[intOf];omega⟩
  ·obtain rfl:j=268:=by omega
   go_wp2;go_ret2;exact⟨rfl,Hk.out,Hg.out⟩
def lT(a k b l:BitVec 32):BitVec 64:=(a+k).setWidth 64*(b+l).setWidth 64
theorem kf(a k b l:BitVec 32)(w:World):Calls prog 248 #[v32 a,v32 k,v32 b,v32 l] w fun e w' =>e= .returned (v64 (lT a k b l))∧w' =w:=by
 go_enter func248,ntmps248;go_wp2;go_ret;exact⟨rfl,rfl⟩
open Go.RowKit
def nhT(ws:List (BitVec 32))(b:Y8)(u p:Nat):BitVec 64:=lT (word b (16*u)) (nth ws (4*u+4*p)) (word b (16*u+8)) (nth ws (4*u+4*p+2))+lT (word b (16*u+4)) (nth ws (4*u+4*p+1)) (word b (16*u+12)) (nth ws (4*u+4*p+3))
def nhTo(ws:List (BitVec 32))(b:Y8):Nat→List (BitVec 64)
 |0=>aa 64 4
 |u+1=>updG (fun p=>nth (nhTo ws b u) p+nhT ws b u p) (nhTo ws b u) 4
theorem pO(ws:List (BitVec 32))(b:Y8)(u:Nat):(nhTo ws b u).length=4:=by
 induction u with
 |zero=>exact af _ _
 |succ u ih=>rw[nhTo,aN,ih]
def nj(s:List (BitVec 64)):Nat→Y8
 |0=>aa 8 32
 |j+1=>splc (nj s j) (8*j) (le64 (nth s j))
theorem fv(s:List (BitVec 64))(j:Nat)(hj:j≤4):(nj s j).length=32:=by
 induction j with
 |zero=>exact af _ _
 |succ j ih=>rw[nj,aL _ _ _ (by rw[ih (by omega),el];omega),ih (by omega)]
def iV(ws:List (BitVec 32))(b:Y8):Y8:=nj (nhTo ws b (b.length/16)) 4
theorem oy(ws:List (BitVec 32))(b:Y8):(iV ws b).length=32:=fv _ 4 (Nat.le_refl _)
@[go_sem high] theorem AK(a b c d:BitVec 32)(w:World):(iq 348 (v32 a) (v32 b) (v32 c) (v32 d)).run prog w= .ok (.agg (A32 [a,b,c,d])) w:=by kernel_rfl
def NhJ(w:World)(ws:List (BitVec 32))(b:Y8)(h:Nat)(a:Option Addr)(n c:Nat)(a':Act)(w':World):Prop:=
 ∃(u T:Nat),(∃u:Nat→Value,a' ={tmps:=(fun u:Nat→Value=>(Value.slice (some ⟨h,0,none⟩) 268 268::Value.slice a n c::u 2::u 3::Value.pointer (some ⟨w.heap.size,0,none⟩)::Value.int .i64 0::Value.pointer (some ⟨w.heap.size+1,0,none⟩)::Value.pointer (some ⟨w.heap.size+2,0,none⟩)::Value.int .i64 T::u 9::u 10::u 11::u 12::u 13::u 14::u 15::u 16::u 17::u 18::u 19::u 20::u 21::u 22::u 23::u 24::u 25::u 26::u 27::u 28::u 29::u 30::u 31::u 32::u 33::u 34::u 35::u 36::u 37::u 38::u 39::u 40::u 41::u 42::u 43::u 44::u 45::u 46::u 47::u 48::u 49::u 50::u 51::u 52::u 53::u 54::u 55::u 56::u 57::u 58::u 59::u 60::u 61::u 62::u 63::u 64::u 65::u 66::u 67::u 68::u 69::u 70::u 71::u 72::u 73::u 74::u 75::u 76::u 77::u 78::u 79::u 80::u 81::u 82::u 83::u 84::u 85::u 86::u 87::u 88::u 89::u 90::u 91::u 92::u 93::u 94::u 95::u 96::u 97::u 98::u 99::u 100::u 101::u 102::u 103::u 104::u 105::u 106::u 107::u 108::u 109::u 110::u 111::[]).toArray) u,defers:=[]})∧
  T=16*u∧16*u≤n∧Blk w' w.heap.size 143 (A8 (aa 8 32))∧Blk w' (w.heap.size+1) 143 (A8 (aa 8 32))∧Blk w' (w.heap.size+2) 347 (A64 (nhTo ws b u))∧Below w.heap.size w w'
theorem pP {P:Program} {T e:TypeId} {n:Nat} {w:World}(hT:P.underlying T=some (.array n e))(h1:(isAgg e).run P w= .ok false w)(h2:(sizeOf e).run P w= .ok 1 w)(l:List (BitVec 64))(j:Nat)(h:j<l.length)(hn:j<n):
  (Instr.index T (.agg (A64 l)) (.int .i64 j)).run P w= .ok (v64 (nth l j)) w:=by
 have hp:(0:Int)≤(j:Int)∧(j:Int)<(n:Int):=by omega
 simp[Instr.index,asIntOf,run_underlying hT,hp,h2,Go.part,h1,iC l j h,Sem.run_bind];intro hnj;omega
theorem rY(l:List (BitVec 64))(j:Nat)(w:World)(h:l.length=4)(hj:j<4):(Instr.index 347 (.agg (A64 l)) (.int .i64 j)).run prog w= .ok (v64 (nth l j)) w:=
 pP (n:=4) (e:=96) (by kernel_rfl) (isAgg96 _) (sizeOf96 _) l j (by omega) hj
theorem wC(ws:List (BitVec 32))(b:Y8)(h:Nat)(t:TypeId)(a:Option Addr)(n c:Nat)(w:World)(hw:Blk w h t (A32 ws))(hwl:ws.length=268)(hr:Rd8 w a n c b)(h16:n %16=0)(hmax:n≤1024):
  Calls prog 242 #[.slice (some ⟨h,0,none⟩) 268 268,.slice a n c] w fun e w' =>e= .returned (.tuple #[.agg (A8 (iV ws b)),.int .i64 0])∧Below w.heap.size w w':=by
 obtain⟨q,hq⟩: ∃q,q=n/16:=⟨_,rfl⟩;have hn:n=16*q:=by omega
 have f1:(n:Int).tdiv 16=(q:Int):=by rw[hq];rfl
 have f2:IntKind.i64.wrap (q:Int)=(q:Int):=by rw[IntKind.wrap_i64];omega
 have f3:(n:Int).tmod 16=0:=by rw[show(n:Int).tmod 16=((n %16:Nat):Int) from rfl,h16];rfl
 have f4: ¬(1024:Int)<(n:Int):=by omega
 have f5: ¬(268:Int)<(q:Int)*4+12:=by omega
 have HW:=hid hw;have HR:=hid hr;obtain⟨W,hW⟩: ∃W,(((w.alloc (.cells (A8 (aa 8 32)) 143)).alloc (.cells (A8 (aa 8 32)) 143)).alloc (.cells (A64 (aa 64 4)) 347))=W:=⟨_,rfl⟩;obtain⟨b0,b1,b2,hb,hz⟩:=new3 _ _ _ _ _ _ _ _ hW;have HQ:=hid hq;have HN:=hid hn;have H16:=hid h16;have B0:=hid b0;have B1:=hid b1;have B2:=hid b2;have HB:=hid hb;clear hq hn h16 b0 b1 b2 hb hr hw;obtain⟨out,hout⟩: ∃z,z=iV ws b:=⟨_,rfl⟩;rw[←hout];have HOUT:=hid hout;clear hout;go_enter func242,ntmps242;go_wp2_with fail;refine aQ 0 (NhJ w ws b h a n c) (fun a' _=>1024-(intOf (a'.tmps.getD 8 undef)).toNat) rfl (fun hrest=> ?_) ?_
 ·go_wp2_with fail;go_step3;refine ‹∀(a:Act) (w_1:World),Code.wp _ _ _ a w_1→_› _ _ (hrest _ _ ?_);exact⟨0,0,aI _ rfl,rfl,by omega,B0.out,B1.out,B2.out,HB.out⟩
 ·clear B0 B1 B2 HB hW hz f1 f2 f3 f4 f5;rintro a' w' ⟨u,T,⟨v,rfl⟩,hT,hTn,k0,k1,k2,hb⟩;have hnl:=pO ws b u;obtain⟨s,hs⟩: ∃s,s=nhTo ws b u:=⟨_,rfl⟩;rw[←hs]at k2 hnl;have HS:=hid hs;have HT:=hid hT;have K0:=hid k0;have K1:=hid k1;have K2:=hid k2;have HB:=hid hb;have hTn':T≤n:=by omega
  have i0:(0:Int)≤(T:Int):=by omega
  clear hs hT k0 k1 k2 hb;by_cases hlt:T<n
  ·have hT16:T+16≤n:=by have:=HT.out;have:=HN.out;omega
   have hblt:b.length=n:=HR.out.1;have t0:(T:Int).toNat=T:=by omega
   have t1:((T:Int)+4).toNat=T+4:=by omega
   have t2:((T:Int)+8).toNat=T+8:=by omega
   have t3:((T:Int)+12).toNat=T+12:=by omega
   have w1_:IntKind.i64.wrap ((T:Int)+4)=(T:Int)+4:=by rw[IntKind.wrap_i64];omega
   obtain⟨m0,hm0⟩: ∃z,z=word b T:=⟨_,rfl⟩;obtain⟨m1,hm1⟩: ∃z,z=word b (T+4):=⟨_,rfl⟩;obtain⟨m2,hm2⟩: ∃z,z=word b (T+8):=⟨_,rfl⟩;obtain⟨m3,hm3⟩: ∃z,z=word b (T+12):=⟨_,rfl⟩;have o0:=fun w1 hr=>bW b a n c (T:Int) w1 hr i0 (by omega);have o1:=fun w1 hr=>bW b a n c ((T:Int)+4) w1 hr (by omega) (by omega);have o2:=fun w1 hr=>bW b a n c ((T:Int)+8) w1 hr (by omega) (by omega);have o3:=fun w1 hr=>bW b a n c ((T:Int)+12) w1 hr (by omega) (by omega);rw[t0,←hm0]at o0;rw[t1,←hm1]at o1;rw[t2,←hm2]at o2;rw[t3,←hm3]at o3;have O0:=hid o0;have O1:=hid o1;have O2:=hid o2;have O3:=hid o3;have M0:=hid hm0;have M1:=hid hm1;have M2:=hid hm2;have M3:=hid hm3;clear o0 o1 o2 o3 hm0 hm1 hm2 hm3 t0 t1 t2 t3;go_wp2_with fail;refine(O0.out w' (HR.out.below HB.out)).mono ?_;rintro e w1 ⟨rfl,d1⟩;have D1:=hid (HB.out.trans (d1.mono HB.out.size));have E1:=hid d1;clear d1;go_wp2_with fail;refine(O1.out w1 (HR.out.below D1.out)).mono ?_;rintro e w2 ⟨rfl,d2⟩;have D2:=hid (D1.out.trans (d2.mono D1.out.size));have E2:=hid (E1.out.trans (d2.mono E1.out.size));clear d2 D1 E1;go_wp2_with fail;refine(O2.out w2 (HR.out.below D2.out)).mono ?_;rintro e w3 ⟨rfl,d3⟩;have D3:=hid (D2.out.trans (d3.mono D2.out.size));have E3:=hid (E2.out.trans (d3.mono E2.out.size));clear d3 D2 E2;go_wp2_with fail;refine(O3.out w3 (HR.out.below D3.out)).mono ?_;rintro e w4 ⟨rfl,d4⟩;have D4:=D3.out.trans (d4.mono D3.out.size);have E4:=E3.out.trans (d4.mono E3.out.size);clear d4 D3 E3 O0 O1 O2 O3;obtain⟨f,hf⟩: ∃f:Nat→BitVec 64,f=fun p=>nth s p+(lT m0 (nth ws (4*u+4*p)) m2 (nth ws (4*u+4*p+2))+lT m1 (nth ws (4*u+4*p+1)) m3 (nth ws (4*u+4*p+3))):=⟨_,rfl⟩
   have hfull:updG f s 4=nhTo ws b (u+1):=by
    rw[nhTo,←HS.out,hf];congr 1;funext p;rw[nhT,M0.out,M1.out,M2.out,M3.out,HT.out]
   have N4:=hid (Blk.new w4 348 (A32 [m0,m1,m2,m3]));have R0:=hid ((K0.out.belowAll E4).alloc (.cells (A32 [m0,m1,m2,m3]) 348));have R1:=hid ((K1.out.belowAll E4).alloc (.cells (A32 [m0,m1,m2,m3]) 348));have R2:=hid ((K2.out.belowAll E4).alloc (.cells (A32 [m0,m1,m2,m3]) 348));have G4:=hid (D4.alloc D4.size (.cells (A32 [m0,m1,m2,m3]) 348));have hlt2:w.heap.size+2<w4.heap.size:=(K2.out.belowAll E4).lt;have HF:=hid hf;have HFULL:=hid hfull;clear D4 E4 hf hfull K0 K1 K2;go_wp2_with fail;generalize w4.alloc (.cells (A32 [m0,m1,m2,m3]) 348)=V at*;generalize w4.heap.size=g at*;go_loopw [56] (fun i wr=> ∃k:Nat,k≤4∧i= .int .i64 k∧Blk wr w.heap.size 143 (A8 (aa 8 32))∧Blk wr (w.heap.size+1) 143 (A8 (aa 8 32))∧Blk wr (w.heap.size+2) 347 (A64 (updG f s k))∧Blk wr g 348 (A32 [m0,m1,m2,m3])∧Below w.heap.size w wr) (fun i _=>4-(intOf i).toNat)
   case atStart=>exact⟨0,Nat.zero_le _,rfl,R0.out,R1.out,by rw[jC];exact R2.out,N4.out,G4.out⟩
   case round=>
    obtain⟨k,hk,rfl,h0,h1,h2,h3,hB⟩:=hrel;clear R0 R1 R2 N4 G4;have R0:=hid h0;have R1:=hid h1;have R2:=hid h2;have N4:=hid h3;have G4:=hid hB;clear h0 h1 h2 h3 hB;by_cases hk4:k<4
    ·have k1:(k:Int)<4:=by omega
     have k0:(0:Int)≤(k:Int):=by omega
     obtain⟨S,hS⟩: ∃S,S=4*u+4*k:=⟨_,rfl⟩;have g1:(T:Int).tdiv 16=(u:Int):=by rw[show(T:Int).tdiv 16=((T/16:Nat):Int) from rfl,HT.out];omega
     have g2:IntKind.i64.wrap (u:Int)=(u:Int):=by rw[IntKind.wrap_i64];have:=HT.out;omega
     have g3:(u:Int)*4+(k:Int)*4=(S:Int):=by omega
     have hS268:S≤264:=by have:=HT.out;omega
     have HSS:=hid hS;clear hS;go_upto_region 16 with fail;obtain⟨L,hL⟩: ∃L,L=268-S:=⟨_,rfl⟩;rw[←hL];have l0:0<L:=by omega
     have l1:1<L:=by omega
     have l2:2<L:=by omega
     have l3:3<L:=by omega
     have l0':(0:Int)<(L:Int):=by omega
     have l1':(1:Int)<(L:Int):=by omega
     have l2':(2:Int)<(L:Int):=by omega
     have l3':(3:Int)<(L:Int):=by omega
     have HL:=hid hL;clear hL;have hslen:(updG f s k).length=4:=by rw[aN,hnl]
     refine an [0,0,5,0,5,0,0,5,0,5,0,0,5,2,0,5,0,0,5,0,5,0,0,5,2,0,0,0,3] (by kernel_rfl) (by kernel_rfl) (fun C0 hC0 hCb K' hK' => ?_);have Rs: ∀w1,C0 w1→w1.cell? ⟨w.heap.size+2,k,none⟩=some (v64 (nth s k)):=fun w1 hw=>by
      rw[(R2.out.drew.belowAll (hCb w1 hw)).cell64 hslen k hk4,te f s k (by rw[hnl];exact hk4)]
     have Rm: ∀w1,C0 w1→Blk w1 g 348 (A32 [m0,m1,m2,m3]):=fun w1 hw=>N4.out.drew.belowAll (hCb w1 hw);have Rw: ∀w1,C0 w1→Blk w1 h t (A32 ws):=fun w1 hw=>HW.out.belowAll (G4.out.drew.trans ((hCb w1 hw).mono G4.out.drew.size))
     repeat (first|((with_reducible refine hq0 ?_);refine hq0a ?_)|((with_reducible refine hq5 ?_);refine hq5a ?_ (fun _ hcw=>by have f0:=Rs _ hcw;have e0:=(Rm _ hcw).cell 0;have e1:=(Rm _ hcw).cell 1;have e2:=(Rm _ hcw).cell 2;have e3:=(Rm _ hcw).cell 3;have c0:=(Rw _ hcw).cell32 hwl S (by omega);have c1:=(Rw _ hcw).cell32 hwl (S+1) (by omega);have c2:=(Rw _ hcw).cell32 hwl (S+2) (by omega);have c3:=(Rw _ hcw).cell32 hwl (S+3) (by omega);go_simp;(try go_bits);exact rfl))|((with_reducible refine hq1 ?_);refine hq1a ?_))
     refine hqc ?_;go_simp;refine ae ?_;refine(kf m0 (nth ws S) m2 (nth ws (S+2)) wr.drew).mono ?_;rintro e w5 ⟨rfl,rfl⟩;refine⟨_,rfl,Below.refl _ _,?_⟩
     try simp only[Act.put,zz1,zz2,zz3]
     obtain⟨P1,hP1⟩: ∃z,z=lT m0 (nth ws S) m2 (nth ws (S+2)):=⟨_,rfl⟩;rw[←hP1];have HP1:=hid hP1;clear hP1
     repeat (first|((with_reducible refine hq0 ?_);refine hq0a ?_)|((with_reducible refine hq5 ?_);refine hq5a ?_ (fun _ hcw=>by have f0:=Rs _ hcw;have e0:=(Rm _ hcw).cell 0;have e1:=(Rm _ hcw).cell 1;have e2:=(Rm _ hcw).cell 2;have e3:=(Rm _ hcw).cell 3;have c0:=(Rw _ hcw).cell32 hwl S (by omega);have c1:=(Rw _ hcw).cell32 hwl (S+1) (by omega);have c2:=(Rw _ hcw).cell32 hwl (S+2) (by omega);have c3:=(Rw _ hcw).cell32 hwl (S+3) (by omega);go_simp;(try go_bits);exact rfl))|((with_reducible refine hq1 ?_);refine hq1a ?_))
     refine hqc ?_;go_simp;refine ae ?_;refine(kf m1 (nth ws (S+1)) m3 (nth ws (S+3)) wr.drew).mono ?_;rintro e w6 ⟨rfl,rfl⟩;refine⟨_,rfl,Below.refl _ _,?_⟩
     try simp only[Act.put,zz1,zz2,zz3]
     obtain⟨P2,hP2⟩: ∃z,z=lT m1 (nth ws (S+1)) m3 (nth ws (S+3)):=⟨_,rfl⟩;rw[←hP2];have HP2:=hid hP2;clear hP2
     repeat (first|((with_reducible refine hq0 ?_);refine hq0a ?_)|((with_reducible refine hq5 ?_);refine hq5a ?_ (fun _ hcw=>by have f0:=Rs _ hcw;have e0:=(Rm _ hcw).cell 0;have e1:=(Rm _ hcw).cell 1;have e2:=(Rm _ hcw).cell 2;have e3:=(Rm _ hcw).cell 3;have c0:=(Rw _ hcw).cell32 hwl S (by omega);have c1:=(Rw _ hcw).cell32 hwl (S+1) (by omega);have c2:=(Rw _ hcw).cell32 hwl (S+2) (by omega);have c3:=(Rw _ hcw).cell32 hwl (S+3) (by omega);go_simp;(try go_bits);exact rfl))|((with_reducible refine hq1 ?_);refine hq1a ?_))
     refine bJ [2] rfl (by simp) ?_;refine mR R2.out.drew rfl rfl (by rw[hslen];exact hk4) (sizeOf96 _) (fun w7 k7 g7 s7=> ?_);refine ak (hK' _ _ ?_);have hfk:nth s k+(P1+P2)=f k:=by
      have:=HSS.out;rw[HF.out,HP1.out,HP2.out,this]
     rw[hfk,lV f s k (by rw[hnl];exact hk4)]at k7;have n1:some w.heap.size≠some (w.heap.size+2):=by simp
     have n2:some (w.heap.size+1)≠some (w.heap.size+2):=by simp
     have n3:some g≠some (w.heap.size+2):=by simp;omega
     have S0:=hid (R0.out.drew.grown g7 n1);have S1:=hid (R1.out.drew.grown g7 n2);have S3:=hid (N4.out.drew.grown g7 n3);have S2:=hid k7;have S4:=hid (G4.out.drew.trans (ac g7 (by omega) G4.out.drew.size));clear k7 g7 s7 hfk Rs Rm Rw hK' hCb hC0 R0 R1 R2 N4 G4;go_wp2;exact⟨⟨k+1,by omega,by go_num,S0.out,S1.out,S2.out,S3.out,S4.out⟩,by simp[intOf];omega⟩
    ·obtain rfl:k=4:=by omega
     have S2:=R2.out;rw[HFULL.out]at S2;have S2:=hid S2;obtain⟨T2,hT2⟩: ∃z,z=T+16:=⟨_,rfl⟩;have f6:(T:Int)+16=(T2:Int):=by omega
     have f7:IntKind.i64.wrap (T2:Int)=(T2:Int):=by rw[IntKind.wrap_i64];omega
     have HT2:=hid hT2;clear hT2;clear R2;go_wp2_with fail;go_step3;have:=HT2.out;refine⟨rfl,⟨u+1,T2,aI _ rfl,by have:=HT.out;omega,by have:=HT.out;omega,R0.out,R1.out,S2.out,G4.out⟩,?_⟩;simp[intOf];omega
  ·obtain rfl:T=n:=by omega
   have hu:u=b.length/16:=by
    have:=HR.out.1;have:=HT.out;omega
   subst hu;have hfin:iV ws b=nj s 4:=by rw[iV,HS.out]
   have HOUT:=hid (HOUT.out.trans hfin);have rs:=K2.out.row;clear hfin hTn hTn' i0;go_wp2_with fail;go_loopw [99] (fun i wr=> ∃k:Nat,k≤4∧i= .int .i64 k∧Blk wr w.heap.size 143 (A8 (aa 8 32))∧Blk wr (w.heap.size+1) 143 (A8 (nj s k))∧Below w.heap.size w wr) (fun i _=>4-(intOf i).toNat)
   case atStart=>exact⟨0,Nat.zero_le _,rfl,K0.out,K1.out,HB.out⟩
   case round=>
    obtain⟨k,hk,rfl,h0,h1,hB⟩:=hrel;clear K0 K1 K2 HB rs;have K0:=hid h0;have K1:=hid h1;have HB:=hid hB;clear h0 h1 hB;by_cases hk4:k<4
    ·have k1:(k:Int)<4:=by omega
     have k0:(0:Int)≤(k:Int):=by omega
     have eX:=fun w1=>rY s k w1 hnl hk4;have e8:(8*(k:Int)).toNat=8*k:=by omega
     have c0:(0:Int)≤8*(k:Int):=by omega
     have c1:8*(k:Int)≤32:=by omega
     have hnc: ¬32=8*k:=by omega
     obtain⟨x,hx⟩: ∃x,x=nth s k:=⟨_,rfl⟩;rw[←hx]at eX;have HX:=hid hx;clear hx;go_wp2_with fail;refine(aw x wr).mono ?_;rintro e w1 ⟨rfl,d1⟩;have K2:=hid ((K0.out.belowAll d1).alloc (.cells (A8 (le64 x)) 171));have K3:=hid ((K1.out.belowAll d1).alloc (.cells (A8 (le64 x)) 171));have K4:=hid (Blk.new w1 171 (A8 (le64 x)));have B1:=HB.out.trans (d1.mono HB.out.size);have B2:=hid (B1.alloc B1.size (.cells (A8 (le64 x)) 171));have hx8:=el x;obtain⟨l8,hl8⟩: ∃l,l=le64 x:=⟨_,rfl⟩;rw[←hl8]at K2 K3 K4 B2 hx8⊢;have HL8:=hid hl8;clear hl8 d1 B1;go_upto_region 23 with fail;refine az [0,0,0,0,2] (by kernel_rfl) (by kernel_rfl) (fun ops' K' hK' => ?_)
     repeat (first|((with_reducible refine zq0 ?_);refine zq0a ?_)|((with_reducible refine zq1 ?_);refine zq1a ?_))
     have R8:=K4.out.rd8 8 (by omega) (by simp[hx8,maxLen]);rw[List.take_of_length_le (by omega),hx8]at R8;have hlay:=fv s k (by omega);refine cH K3.out.drew R8.drew rfl rfl underlying22 eo ?_ ?_
     ·rw[hlay];omega
     rintro w2 vv k2 g2 _;refine ak (hK' _ _ ?_);have e4:min 8 (32-8*k)=8:=by omega
     rw[e4,List.take_of_length_le (by omega),HL8.out,HX.out]at k2;have K5:=hid k2;have K6:=hid (K2.out.drew.grown g2 (by simp));have B3:=hid (B2.out.drew.trans (ac g2 (by omega) B2.out.drew.size));clear k2 g2 K2 K3 K4 B2 R8 hK';go_wp2;exact⟨⟨k+1,by omega,by go_num,K6.out,K5.out,B3.out⟩,by simp[intOf];omega⟩
    ·obtain rfl:k=4:=by omega
     have h1:=K1.out;rw[←HOUT.out]at h1;have hol:out.length=32:=by rw[HOUT.out];exact fv s 4 (by omega)
     have r1:=h1.row;have r0:=K0.out.row;have wz:=K0.out.whole;clear h1 K1 HOUT;go_wp2
     (try simp only[Exit.jump])
     (try simp only[Exit.inBlock,Exit.then])
     refine aY (A8 out) rfl rfl rfl (isAgg143 _) (sizeOf143 _) (by rw[au];exact hol) (ah _ wz) ⟨rfl,below_setRow HB.out (by omega) _⟩
end Go.Proofs.YtlpkfdkhlffmlaaGreatDoor
