/-ezhash:plus,Part-/
import Derived.Test.YtddkbkbpogcffaaGreatDoorMKa
import Derived.Test.YtddkbkbpogcffaaGreatDoorMGm
import Derived.Test.YtddkbkbpogcffaaGreatDoorMKe
import Derived.RangeFuncNested
import Derived.RangeFuncBound
import Derived.RangeFuncCalls
import Derived.RangeFuncLeaves
import Derived.RangeFuncFrom
import Derived.Shelf.Abstract
import Derived.Shelf.RegionOpen
import Derived.OwnWalkIn
import Derived.TacticsInMore
import Derived.LoopNIn
import Derived.LoopIn
import Derived.Test.YtddkbkbpogcffaaGreatDoorMHk
import Derived.Test.YtddkbkbpogcffaaGreatDoorMKy
import Derived.Test.YtddkbkbpogcffaaGreatDoorMGz
import Derived.Test.YtddkbkbpogcffaaGreatDoorMHq
namespace Go.Proofs.YtddkbkbpogcffaaGreatDoor
open Go.Proofs.Tryz
open Lib (hid)
set_option linter.unusedSimpArgs false
set_option linter.unusedVariables false
set_option maxRecDepth 100000
set_option maxHeartbeats 1600000
open Go.RowKit
def J2(J0 J1:Act→World→Prop):Nat→Act→World→Prop
 |0=>J0
 |1=>J1
 |_=>fun _ _=>False
def R2(r0 r1:Code):Nat→Code
 |0=>r0
 |_=>r1
theorem Dk {P:Program} {a:Act} {w:World} {Q:Exit→Act→World→Prop} {c r0 r1:Code}(J0 J1:Act→World→Prop)(μ:Nat→Act→World→Nat)(h0:findLabel c 0=some (Code.skip.seq r0))(h1:findLabel c 1=some (Code.skip.seq r1))
  (first:(∀a w,J0 a w→r0.wp P (gy (J2 J0 J1) Q) a w)→(∀a w,J1 a w→r1.wp P (gy (J2 J0 J1) Q) a w)→c.wp P (gy (J2 J0 J1) Q) a w)
  (p0: ∀a w,J0 a w→r0.wp P (gy (fun l' a' w' =>J2 J0 J1 l' a' w'∧μ l' a' w'<μ 0 a w) Q) a w)
  (p1: ∀a w,(∀a' w',J0 a' w'→μ 0 a' w'≤μ 1 a w→r0.wp P (gy (fun l' a'' w'' =>J2 J0 J1 l' a'' w''∧μ l' a'' w''<μ 1 a w) Q) a' w')→J1 a w→r1.wp P (gy (fun l' a' w' =>J2 J0 J1 l' a' w'∧μ l' a' w'<μ 1 a w) Q) a w):(Code.scope c).wp P Q a w:=by
 refine ka (J2 J0 J1) μ (R2 r0 r1) ?_ (fun h=>first (fun a w hJ=>h 0 a w hJ) (fun a w hJ=>h 1 a w hJ)) ?_
 ·intro l a w h
  match l with
  |0=>exact h0
  |1=>exact h1
  |n+2=>exact h.elim
 ·intro l a w h
  match l with
  |0=>exact p0 a w h
  |1=>exact p1 a w (fun a' w' h0 hle=>Code.wp_mono (fun e a'' w'' q=>by cases e<;>first|exact q|exact⟨q.1,Nat.lt_of_lt_of_le q.2 hle⟩) (p0 a' w' h0)) h
  |n+2=>exact h.elim
theorem oA(a b:Y8)(w:World)(ha:a.length=16)(hb16:b.length=16):
  Calls prog 316 #[.agg (A8 a),.agg (A8 b)] w fun e w' =>e= .returned (.agg (A8 (ar a b)))∧Below w.heap.size w w':=by
 obtain⟨W,hW⟩: ∃W,((w.alloc (.cells (A8 a) 42)).alloc (.cells (A8 b) 42)).alloc (.cells (A8 (ac 8 16)) 42)=W:=⟨_,rfl⟩;obtain⟨b0,b1,b2,hb,hz⟩:=new3 _ _ _ _ _ _ _ _ hW;have P0:=b0.drew.rd8 16 (by omega) (by rw[ha];unfold maxLen;omega);have Q0:=b1.drew.rd8 16 (by omega) (by rw[hb16];unfold maxLen;omega);rw[List.take_of_length_le (by omega),ha]at P0;rw[List.take_of_length_le (by omega),hb16]at Q0;have PP:=hid P0;have QQ:=hid Q0;have Z0:=hid b2;have B0:=hid hb;clear b0 b1 b2 hb hz P0 Q0;go_enter func316,ntmps316;go_upto_region 1 with fail;clear hW;refine aB [0,0,2,2,2] (by kernel_rfl) (by kernel_rfl) (fun ops' K2 hK2=> ?_)
 repeat (first|((with_reducible refine zq0 ?_);refine zq0a ?_)|((with_reducible refine zq1 ?_);refine zq1a ?_))
 (with_reducible refine bC rfl ?_)
 go_simp;refine af ?_;refine(fK a b _ _ 16 16 16 16 W.drew PP.out QQ.out (by omega)).mono ?_;rintro e w1 ⟨v1,rfl,o1,b1⟩;refine⟨_,rfl,?_⟩
 try simp only[Act.put,zz1,zz2,zz3]
 obtain⟨a1,c1,rfl,hr1,_⟩:=o1.rd;have hxl:(xorl a b).length=16:=by rw[aJ,ha,hb16];rfl
 rw[hxl]at hr1⊢
 (with_reducible refine bC rfl ?_)
 go_simp;refine af ?_;refine(bD (xorl a b) a1 16 c1 w1 hr1).mono ?_;rintro e w2 ⟨rfl,b2⟩;refine⟨_,rfl,?_⟩
 try simp only[Act.put,zz1,zz2,zz3]
 rw[zc a b ha hb16];have b12:=b1.trans (b2.mono b1.size);have hl:=ak a b;refine aq (Z0.out.drew.belowAll b12) rfl rfl (by rw[ag,ag,hl,ah]) (aH _) (by rw[ag,hl];exact sizeOf42 _) (fun w3 k3 g3 s3=> ?_);refine az (hK2 _ _ ?_);have r3:=k3.row;have d2:=B0.out.drew.trans (b12.mono B0.out.size);have B3:=d2.trans (ae g3 (by omega) d2.size);clear o1 hr1 b1 b2 b12 g3 s3 hK2 PP QQ Z0 d2;go_wp2;refine aj (A8 (ar a b)) rfl rfl rfl (isAgg42 _) (sizeOf42 _) (by rw[ag];exact hl) r3 ⟨rfl,B3⟩
section
variable (E:Int→Nat→Y8→Y8)
def jp(r:Y8):Y8:=r++ [128#8]++ac 8 (bV (r.length+1) 16)
def xsP(j:Int)(B:Y8):Nat→Y8
 |0=>ac 8 16
 |k+1=>ar (xsP j B k) (E j (k+1) (blk (B.drop (16*k))))
theorem mq(j:Int)(B:Y8): ∀k,(xsP E j B k).length=16
 |0=>rfl
 |_+1=>ak _ _
def jq(j:Int)(B:Y8):Y8:=
 if B.length=0∨B.length %16≠0 then ar (xsP E j B (B.length/16)) (E j 0 (blk (jp (B.drop (16*(B.length/16))))))else xsP E j B (B.length/16)
theorem wg(j:Int)(B:Y8):(jq E j B).length=16:=by
 unfold jq;split
 ·exact ak _ _
 ·exact mq E _ _ _
end
def PtJ(w:World)(p:Nat)(E:Int→Nat→Y8→Y8)(j:Nat)(B:Y8)(a':Act)(w':World):Prop:=
 ∃(m n:Nat) (a:Option Addr) (c:Nat),(∃u:Nat→Value,a' ={tmps:=(fun u:Nat→Value=>(Value.pointer (some ⟨p,0,none⟩)::Value.int .i64 j::Value.slice a n c::u 3::u 4::u 5::Value.pointer (some ⟨w.heap.size,0,none⟩)::Value.pointer (some ⟨w.heap.size+1,0,none⟩)::Value.int .i64 m::u 9::u 10::u 11::u 12::u 13::u 14::u 15::u 16::u 17::u 18::u 19::u 20::u 21::u 22::u 23::u 24::u 25::u 26::u 27::u 28::u 29::u 30::u 31::u 32::u 33::u 34::u 35::u 36::u 37::u 38::[]).toArray) u,defers:=[]})∧
  n=B.length-16*m∧16*m≤B.length∧B.length≠0∧Rd8 w a n c (B.drop (16*m))∧Blk w' w.heap.size 42 (A8 (ac 8 16))∧Blk w' (w.heap.size+1) 42 (A8 (xsP E j B m))∧Below w.heap.size w w'
def PrJ(w:World)(p:Nat)(E:Int→Nat→Y8→Y8)(j:Nat)(B:Y8)(a':Act)(w':World):Prop:=
 ∃(m n:Nat) (a:Option Addr) (c:Nat),(∃u:Nat→Value,a' ={tmps:=(fun u:Nat→Value=>(Value.pointer (some ⟨p,0,none⟩)::Value.int .i64 j::Value.slice a n c::u 3::u 4::u 5::Value.pointer (some ⟨w.heap.size,0,none⟩)::Value.pointer (some ⟨w.heap.size+1,0,none⟩)::Value.int .i64 m::u 9::u 10::u 11::u 12::u 13::u 14::u 15::u 16::u 17::u 18::u 19::u 20::u 21::u 22::u 23::u 24::u 25::u 26::u 27::u 28::u 29::u 30::u 31::u 32::u 33::u 34::u 35::u 36::u 37::u 38::[]).toArray) u,defers:=[]})∧
  n=B.length-16*m∧16*m≤B.length∧(n<16∧(B.length=0∨n≠0))∧Rd8 w a n c (B.drop (16*m))∧Blk w' w.heap.size 42 (A8 (ac 8 16))∧Blk w' (w.heap.size+1) 42 (A8 (xsP E j B m))∧Below w.heap.size w w'
def uJ:Value→Nat
 | .slice _ n _=>n
 |_=>0
def ptMu(l:Nat)(a:Act):Nat:=if l=0 then 0 else 1+uJ (a.tmps.getD 2 undef)
theorem Dl(p pt j:Nat)(I J L B:Y8)(a:Option Addr)(n c:Nat)(w:World)(H:EzAt w p pt I J L)(hj:j<2^63)(hr:Rd8 w a n c B)(hB:n≤16000):
  Calls prog 317 #[.pointer (some ⟨p,0,none⟩),.int .i64 j,.slice a n c] w fun e w' =>e= .returned (.agg (A8 (jq (ezE I J L) j B)))∧Below w.heap.size w w':=by
 obtain⟨W,hW⟩: ∃W,(w.alloc (.cells (A8 (ac 8 16)) 42)).alloc (.cells (A8 (ac 8 16)) 42)=W:=⟨_,rfl⟩;obtain⟨b0,b1,hb,hz⟩:=new2 _ _ _ _ _ _ hW;have HK:=hid H;have Z0:=hid b0;have S0:=hid b1;have B0:=hid hb;have R0:=hid hr;have hl:=hr.1;have HL:=hid hl;have HB:=hid hB;have hEl:=hid (cZ I J L);clear b0 b1 hb hz H hr;obtain⟨E,hE⟩: ∃E,E=ezE I J L:=⟨_,rfl⟩;rw[←hE]at hEl;have hEc: ∀(i:Nat) (x:Y8) (w1:World),Below w.heap.size w w1→i≤1000→x.length=16→Calls prog 312 #[.pointer (some ⟨p,0,none⟩),.int .i64 j,.int .i64 i,.agg (A8 x)] w1 fun e w' =>e= .returned (.agg (A8 (E j i x)))∧Below w1.heap.size w1 w':=by
  intro i x w1 hb hi hx;rw[hE];exact oz p pt j i I J L x w1 (HK.out.below hb) hj hi hx
 have EC:=hid hEc;rw[←hE];clear hE hEc;go_enter func317,ntmps317;go_wp2_with fail;refine Dk (PrJ w p E j B) (PtJ w p E j B) (fun l a _=>ptMu l a) rfl rfl (fun hrest hwhole=> ?_) ?_ ?_
 ·by_cases hn:n=0
  ·subst hn;go_wp2;refine wp_goto ?_;show PrJ w p E j B _ _;refine⟨0,0,a,c,aE _ rfl,by omega,by omega,⟨by omega,.inl HL.out⟩,R0.out,Z0.out,S0.out,B0.out⟩
  ·have e1: ¬(n:Int)=0:=by omega
   go_wp2_with fail;refine wp_label ?_;simp only[Exit.then];refine ‹∀(a:Act) (w_1:World),Code.wp _ _ _ a w_1→_› _ _ (hwhole _ _ ?_);refine⟨0,n,a,c,aE _ rfl,by rw[HL.out];rfl,by omega,by rw[HL.out];exact hn,R0.out,Z0.out,S0.out,B0.out⟩
 ·
  rintro a' w' ⟨m,r,A,C,⟨u,rfl⟩,hr,hm,⟨hr16,hr0⟩,hR,hZ,hS,hBl⟩;have R1:=hid hR;have Z1:=hid hZ;have S1:=hid hS;have B1:=hid hBl;have hRl:=hR.1;have hX:=mq E j B m;have HR:=hid hr;have HM:=hid hm;have HR0:=hid hr0;clear hR hZ hS hBl Z0 S0 B0 R0 hW hr hm hr0;obtain⟨S,hS⟩: ∃S,S=xsP E j B m:=⟨_,rfl⟩;rw[←hS]at S1 hX;obtain⟨X,hXe⟩: ∃X,X=B.drop (16*m):=⟨_,rfl⟩;rw[←hXe]at R1 hRl;obtain⟨M,hM⟩: ∃M,M=jp X:=⟨_,rfl⟩;have hMl:M.length=16:=by
   rw[hM,jp,List.length_append,List.length_append,ah,hRl];unfold bV;simp;omega
  obtain⟨Y,hY⟩: ∃Y,Y=E j 0 (blk M):=⟨_,rfl⟩;have hYl:Y.length=16:=by rw[hY];exact hEl.out _ _ _
  obtain⟨F,hF⟩: ∃F,F=ar S Y:=⟨_,rfl⟩;have hFl:F.length=16:=by rw[hF];exact ak _ _
  have hFF:F=jq E j B:=by
   have e1:=HR.out;have e2:=HM.out;have e3:=HR0.out;have e4:m=B.length/16:=by omega
   rw[jq,if_pos (by omega),hF,hS,hY,hM,hXe,e4]
  have HF:=hid hFF;have HY:=hid hY.symm;have HM2:=hid hM;have HFe:=hid hF.symm;clear hS hXe hM hY hF hFF;go_upto_region 10 with fail;refine aw [5,0,0,0,2,2,2,2,3] (by kernel_rfl) (by kernel_rfl) (fun C0 hC0 hCb K' hK' => ?_);have Q1: ∀w1,C0 w1→aF w1 (w.heap.size+1)=A8 S:=fun w1 hw=>(S1.out.drew.belowAll (hCb w1 hw)).row
  repeat (first|((with_reducible refine hq0 ?_);refine hq0a ?_)|((with_reducible refine hq5 ?_);refine hq5a ?_ (fun _ hcw=>by have f1:=Q1 _ hcw;go_simp;(try go_bits);exact rfl))|((with_reducible refine hq1 ?_);refine hq1a ?_))
  refine hqc ?_;go_simp;refine af ?_;refine(mb X A r C 16 128#8 w'.drew (R1.out.below B1.out.drew) (by omega) (by omega) (by omega)).mono ?_;rintro e w4 ⟨v4,rfl,o4,d4⟩;refine⟨_,rfl,d4,?_⟩
  try simp only[Act.put,zz1,zz2,zz3]
  obtain⟨a4,c4,rfl,hr4,_⟩:=o4.rd;have eM:X++ [128#8]++ac 8 (bV (r+1) 16)=M:=by rw[HM2.out,jp,hRl]
  have hr5:Rd8 w4 a4 16 c4 M:=by
   rw[eM,hMl]at hr4;exact hr4
  rw[eM,hMl];refine hqc ?_;go_simp;refine af ?_;refine(bD M a4 16 c4 w4 hr5).mono ?_;rintro e w5 ⟨rfl,d5⟩;refine⟨_,rfl,d5,?_⟩
  try simp only[Act.put,zz1,zz2,zz3]
  have hbl:(blk M).length=16:=aX _;have E5:=B1.out.drew.trans ((d4.trans (d5.mono d4.size)).mono B1.out.size);refine hqc ?_;go_simp;refine af ?_;refine(EC.out 0 (blk M) w5 E5 (by omega) hbl).mono ?_;rintro e w6 ⟨rfl,d6⟩;refine⟨_,rfl,d6,?_⟩
  try simp only[Act.put,zz1,zz2,zz3]
  rw[HY.out];refine hqc ?_;go_simp;refine af ?_;refine(oA S Y w6 hX hYl).mono ?_;rintro e w7 ⟨rfl,d7⟩;refine⟨_,rfl,d7,?_⟩
  try simp only[Act.put,zz1,zz2,zz3]
  rw[HFe.out];have E7:=(E5.trans (d6.mono E5.size)).trans (d7.mono (E5.trans (d6.mono E5.size)).size);have d47:=((d4.trans (d5.mono d4.size)).trans (d6.mono (d4.trans (d5.mono d4.size)).size)).trans (d7.mono ((d4.trans (d5.mono d4.size)).trans (d6.mono (d4.trans (d5.mono d4.size)).size)).size);refine aU [2] rfl (by simp) ?_;refine aq (Z1.out.drew.belowAll d47) rfl rfl (by rw[ag,ag,hFl,ah]) (aH _) (by rw[ag,hFl];exact sizeOf42 _) (fun w8 k8 g8 s8=> ?_);refine az (hK' _ _ ?_);have BD:=hid (E7.trans (ae g8 (Nat.le_refl _) E7.size));have rz:=k8.row;clear Q1 hC0 hCb hK' d4 d5 d6 d7 E5 E7 d47 k8 g8 s8 o4 hr4 hr5 eM;go_wp2;refine aj (A8 F) rfl rfl rfl (isAgg42 _) (sizeOf42 _) (by rw[ag];exact hFl) rz ⟨by rw[HF.out],BD.out⟩
 ·
  rintro a' w' hfall ⟨m,r,A,C,⟨u,rfl⟩,hr,hm,hB0,hR,hZ,hS,hBl⟩;have HFALL:=hid hfall;clear hfall;have R1:=hid hR;have Z1:=hid hZ;have S1:=hid hS;have B1:=hid hBl;have hRl:=hR.1;have hX:=mq E j B m;have HR:=hid hr;have HM:=hid hm;clear hR hZ hS hBl Z0 S0 B0 R0 hW hr hm;by_cases h16:16≤r
  ·have e1:(16:Int)≤(r:Int):=by omega
   have hrC:=R1.out.2.1;have e2:(r:Int)≤(C:Int):=by omega
   have e3:(16:Int)≤(C:Int):=by omega
   obtain⟨N,hN⟩: ∃N,N=m+1:=⟨_,rfl⟩;have f1:(m:Int)+1=(N:Int):=by omega
   have f2:IntKind.i64.wrap (N:Int)=(N:Int):=by rw[IntKind.wrap_i64];have:=HM.out;have:=HL.out;have:=HB.out;omega
   obtain⟨S,hS⟩: ∃S,S=xsP E j B m:=⟨_,rfl⟩;rw[←hS]at S1 hX;obtain⟨X,hXe⟩: ∃X,X=B.drop (16*m):=⟨_,rfl⟩;have R2:=R1.out;rw[←hXe]at R2 hRl;have RX:=hid R2;obtain⟨Y,hY⟩: ∃Y,Y=E j N (blk X):=⟨_,rfl⟩;have hYl:Y.length=16:=by rw[hY];exact hEl.out _ _ _
   obtain⟨F,hF⟩: ∃F,F=ar S Y:=⟨_,rfl⟩;have hFl:F.length=16:=by rw[hF];exact ak _ _
   have hFF:F=xsP E j B N:=by rw[hF,hS,hY,hXe,hN];rfl
   have HF:=hid hFF;have HY:=hid hY.symm;have HFe:=hid hF.symm;have HN:=hid hN;have hN1:N≤1000:=by have:=HN.out;have:=HR.out;have:=HM.out;have:=HL.out;have:=HB.out;omega
   clear hS hXe hY hF hFF hN R2;go_upto_region 6 with fail;refine aw [5,0,0,0,0,2,2,2,3] (by kernel_rfl) (by kernel_rfl) (fun C0 hC0 hCb K' hK' => ?_);have Q1: ∀w1,C0 w1→aF w1 (w.heap.size+1)=A8 S:=fun w1 hw=>(S1.out.drew.belowAll (hCb w1 hw)).row
   repeat (first|((with_reducible refine hq0 ?_);refine hq0a ?_)|((with_reducible refine hq5 ?_);refine hq5a ?_ (fun _ hcw=>by have f1:=Q1 _ hcw;go_simp;(try go_bits);exact rfl))|((with_reducible refine hq1 ?_);refine hq1a ?_))
   refine hqc ?_;go_simp;refine af ?_;refine(bD X A r C w'.drew (RX.out.below B1.out.drew)).mono ?_;rintro e w5 ⟨rfl,d5⟩;refine⟨_,rfl,d5,?_⟩
   try simp only[Act.put,zz1,zz2,zz3]
   have hbl:(blk X).length=16:=aX _;have E5:=B1.out.drew.trans (d5.mono B1.out.size);refine hqc ?_;go_simp;refine af ?_;refine(EC.out N (blk X) w5 E5 hN1 hbl).mono ?_;rintro e w6 ⟨rfl,d6⟩;refine⟨_,rfl,d6,?_⟩
   try simp only[Act.put,zz1,zz2,zz3]
   rw[HY.out];refine hqc ?_;go_simp;refine af ?_;refine(oA S Y w6 hX hYl).mono ?_;rintro e w7 ⟨rfl,d7⟩;refine⟨_,rfl,d7,?_⟩
   try simp only[Act.put,zz1,zz2,zz3]
   rw[HFe.out];have d57:=(d5.trans (d6.mono d5.size)).trans (d7.mono (d5.trans (d6.mono d5.size)).size);have E7:=B1.out.drew.trans (d57.mono B1.out.size);refine aU [2] rfl (by simp) ?_;refine aq (S1.out.drew.belowAll d57) rfl rfl (by rw[ag,ag,hFl,hX]) (aH _) (by rw[ag,hFl];exact sizeOf42 _) (fun w8 k8 g8 s8=> ?_);refine az (hK' _ _ ?_);rw[HF.out]at k8;have S8:=hid k8;have Z8:=hid ((Z1.out.drew.belowAll d57).grown g8 (by simp));have B8:=hid (E7.trans (ae g8 (by omega) E7.size));have R8:=R1.out.cut (j:=16) (k:=r) h16 (Nat.le_refl _);rw[List.take_of_length_le (by rw[R1.out.1];omega),List.drop_drop]at R8;have R9:=hid R8;clear Q1 hC0 hCb hK' d5 d6 d7 E5 E7 d57 k8 g8 s8 R8 S1 Z1;go_wp2_with fail
   all_goals
    have rc:=R9.out
    first
     |(rw[if_neg (by assumption)]at rc)
     |(rw[if_pos (by omega)]at rc;rw[show C-16=0 by omega]at rc)
    refine wp_goto ?_;refine⟨⟨N,r-16,_,_,aE _ rfl,?_,?_,hB0,?_,Z8.out,S8.out,B8.out⟩,?_⟩
    ·have:=HR.out;have:=HN.out;omega
    ·have:=HR.out;have:=HN.out;have:=HM.out;omega
    ·have e:16*m+16=16*N:=by have:=HN.out;omega
     rw[e]at rc;exact rc
    ·simp[ptMu,uJ];omega
  ·have e1: ¬(16:Int)≤(r:Int):=by omega
   by_cases hr0:r=0
   ·subst hr0;have e4:m=B.length/16:=by have:=HR.out;have:=HM.out;omega
    have hFF:xsP E j B m=jq E j B:=by
     have:=HR.out;have:=HM.out;rw[jq,if_neg (by omega),e4]
    obtain⟨S,hS⟩: ∃S,S=xsP E j B m:=⟨_,rfl⟩;rw[←hS]at S1 hX hFF;have r1:=S1.out.row;have r2:=Z1.out.row;have r3:=Z1.out.whole;have HF:=hid hFF;clear hS hFF e4;go_wp2;refine aj (A8 S) rfl rfl rfl (isAgg42 _) (sizeOf42 _) (by rw[ag];exact hX) (an _ r3) ⟨by rw[HF.out],below_setRow B1.out (Nat.le_refl _) _⟩
   ·have e2: ¬(r:Int)=0:=by omega
    go_wp2_with fail;refine wp_label ?_;simp only[Exit.then];refine ‹∀(a:Act) (w_1:World),Code.wp _ _ _ a w_1→_› _ _ (HFALL.out _ _ ?_ ?_)
    ·exact⟨m,r,A,C,aE _ rfl,HR.out,HM.out,⟨by omega,.inr hr0⟩,R1.out,Z1.out,S1.out,B1.out⟩
    ·simp[ptMu]
open Go.RowKit
attribute [local go_sem] Oper.semAt_some
theorem wh(ad:Option Addr)(m c:Nat)(w:World):
  Calls prog 315 #[.slice ad m c] w fun e w' =>e= .returned (.func (.func 326) #[] #[.pointer (some ⟨w.heap.size,0,none⟩)])∧Blk w' w.heap.size 113 #[.slice ad m c]∧Below w.heap.size w w':=by
 have b:=Blk.new w 113 #[.slice ad m c];have hb:Below w.heap.size w (w.alloc (.cells #[.slice ad m c] 113)):=(Below.refl _ _).alloc (Nat.le_refl _) _;have BB:=hid b;have HB:=hid hb;clear b hb;go_enter func315,ntmps315;go_wp2;refine bodyPost_ret (results_tmp rfl _ _ _) rfl ?_;exact⟨rfl,BB.out,HB.out⟩
def idxs {m:Nat}(l:List {k:Nat//k<m}):List Nat:=l.map (·.1)
theorem uK {m:Nat}(l:List {k:Nat//k<m})(x:{k:Nat//k<m}):idxs (l++ [x])=idxs l++ [x.1]:=by unfold idxs;rw[List.map_append];rfl
theorem sw(g gr m c n0:Nat)(sv:Nat→Value)(w:World)(hg:w.cell? ⟨g,0,none⟩=some (.slice (some ⟨gr,0,none⟩) m c))(hc: ∀k,k<m→w.cell? ⟨gr,k,none⟩=some (sv k))(hgl:g<w.heap.size)(hgr:gr<n0)(hn0:n0≤w.heap.size)(hsv: ∀k,k<m→ ∃a n c,sv k= .slice a n c)(hm:m≤1000):
  SeqStopsK Fence.wide 4 prog 326 #[.pointer (some ⟨g,0,none⟩)] (fun k:{k:Nat//k<m}=> #[.int .i64 ((3+k.1:Nat):Int),sv k.1]) (Below n0) (fun xs=>idxs xs=List.range m) (fun _=>True) m w:=by
 intro l J Jx W hW hJ hJx hY h0;refine callsIn_of_wp func326 rfl trivial ?_ rfl;simp only[ntmps326,List.size_toArray,List.length_cons,List.length_nil,Nat.reduceAdd,Nat.reduceSub,Array.replicate_succ,Array.replicate_zero,List.push_toArray,List.append_toArray,List.nil_append,List.cons_append];have cg:W.cell? ⟨g,0,none⟩=some (.slice (some ⟨gr,0,none⟩) m c):=(hW.cell (p:=⟨g,0,none⟩) hgl).trans hg;have cr: ∀k,k<m→W.cell? ⟨gr,k,none⟩=some (sv k):=fun k hk=>(hW.cell (p:=⟨gr,k,none⟩) (by show gr<w.heap.size;omega)).trans (hc k hk)
 gi_wp2
 gi_loopw [7] (fun i wr=> ∃(k:Nat) (pre:List {k:Nat//k<m}),k≤m∧i= .int .i64 k∧idxs pre=List.range k∧Below n0 W wr∧J pre wr) (fun i _=>m-(intOf i).toNat)
 case atStart=>exact⟨0,[],Nat.zero_le _,rfl,rfl,Below.refl _ _,h0⟩
 case round=>
  obtain⟨k,pre,hk,rfl,hpre,hB,hJk⟩:=hrel;have hpl:pre.length=k:=by have:=congrArg List.length hpre;simpa[idxs]using this
  by_cases hkm:k<m
  ·have k1:(k:Int)<(m:Int):=by omega
   have k0:(0:Int)≤(k:Int):=by omega
   have ck:wr.cell? ⟨gr,k,none⟩=some (sv k):=(hB.cell (p:=⟨gr,k,none⟩) hgr).trans (cr k hkm);obtain⟨sa,sn,sc,hs⟩:=hsv k hkm;obtain⟨fn,tmps,assign,body,hy,hR⟩:=hY pre ⟨k,hkm⟩ wr hJk (by omega);obtain⟨T,hT⟩: ∃T,T=3+k:=⟨_,rfl⟩;have f1:(3:Int)+(k:Int)=(T:Int):=by omega
   have f2:IntKind.i64.wrap (T:Int)=(T:Int):=by rw[IntKind.wrap_i64];omega
   rw[hs]at ck;dsimp only at hy;rw[hs,←hT]at hy;have HT:=hid hT;clear hT cr cg hY
   gi_wp2
   refine hR.mono ?_;rintro e W' (⟨rfl,hJ',hk'⟩|⟨rfl,hJx'⟩)
   ·gi_wp2
    go_roundw
    case rel=>exact⟨k+1,pre++ [⟨k,hkm⟩],by omega,by go_num,by rw[uK,hpre,List.range_succ],hB.trans hk',hJ'⟩
    case measure=>simp[intOf];omega
   ·gi_wp2
    refine bodyPost_ret (results_none rfl _ _ _) rfl ?_;exact⟨⟨_,rfl⟩,.inr ⟨_,trivial,hJx'⟩⟩
  ·have ek:k=m:=by omega
   have k1: ¬(k:Int)<(m:Int):=by omega
   gi_wp2
   go_end0;exact⟨⟨_,rfl⟩,.inl ⟨pre,by rw[hpre,ek],hJk⟩⟩
open Go.RowKit
attribute [local go_sem] Oper.semAt_some
def eg(E:Int→Nat→Y8→Y8)(rows:List (Y8)):Nat→Y8
 |0=>ac 8 16
 |k+1=>ar (eg E rows k) (jq E ((3+k:Nat):Int) (rows.getD k []))
theorem gL(E:Int→Nat→Y8→Y8)(rows:List (Y8)): ∀k,(eg E rows k).length=16
 |0=>rfl
 |_+1=>ak _ _
def nf(E:Int→Nat→Y8→Y8)(rows:List (Y8))(ks:List Nat):Y8:=
 ks.foldl (fun s k=>ar s (jq E ((3+k:Nat):Int) (rows.getD k []))) (ac 8 16)
theorem sx(E:Int→Nat→Y8→Y8)(rows:List (Y8))(ks:List Nat)(k:Nat):nf E rows (ks++ [k])=ar (nf E rows ks) (jq E ((3+k:Nat):Int) (rows.getD k [])):=by
 unfold nf;rw[List.foldl_append];rfl
theorem pL(E:Int→Nat→Y8→Y8)(rows:List (Y8)): ∀m,nf E rows (List.range m)=eg E rows m
 |0=>rfl
 |m+1=>by rw[List.range_succ,sx,pL E rows m];rfl
theorem wj(E:Int→Nat→Y8→Y8)(rows:List (Y8))(ks:List Nat):(nf E rows ks).length=16:=by
 have: ∀(ks:List Nat) (s:Y8),s.length=16→(ks.foldl (fun s k=>ar s (jq E ((3+k:Nat):Int) (rows.getD k []))) s).length=16:=by
  intro ks
  induction ks with
  |nil=>intro s h;exact h
  |cons k r ih=>intro s _;exact ih _ (ak _ _)
 exact this ks _ rfl
theorem Dm(args:Array Value)(w:World):(callFunc 326 args).run prog w= .ok (.enter 326 args) w:=by
 simp[callFunc,func326]
 kernel_rfl
theorem oB(p pt gr m c:Nat)(I J L:Y8)(cells:Array Value)(rows:List (Y8))(w:World)(H:EzAt w p pt I J L)(hb:Blk w gr 22 cells)(hs:SlsAt w cells rows)(hm:rows.length=m)(hm1:m≤100)(hlen: ∀k,k<m→(rows.getD k []).length≤16000):
  Calls prog 302 #[.pointer (some ⟨p,0,none⟩),.slice (some ⟨gr,0,none⟩) m c] w fun e w' =>e= .returned (.agg (A8 (eg (ezE I J L) rows m)))∧Below w.heap.size w w':=by
 obtain⟨W,hW⟩: ∃W,((w.alloc (.cells #[.pointer (some ⟨p,0,none⟩)] 130)).alloc (.cells (A8 (ac 8 16)) 42)).alloc (.cells (A8 (ac 8 16)) 42)=W:=⟨_,rfl⟩;obtain⟨b0,b1,b2,hb3,hz⟩:=new3 _ _ _ _ _ _ _ _ hW;have HK:=hid H;have P0:=hid b0;have Z0:=hid b1;have S0:=hid b2;have B0:=hid hb3;have BR:=hid hb;have HS:=hid hs;clear b0 b1 b2 hb3 H hb hs;obtain⟨E,hE⟩: ∃E,E=ezE I J L:=⟨_,rfl⟩;have hEc: ∀(k:Nat) (a:Option Addr) (n c:Nat) (w1:World),Below w.heap.size w w1→k<m→Rd8 w a n c (rows.getD k [])→Calls prog 317 #[.pointer (some ⟨p,0,none⟩),.int .i64 ((3+k:Nat):Int),.slice a n c] w1 fun e w' =>e= .returned (.agg (A8 (jq E ((3+k:Nat):Int) (rows.getD k []))))∧Below w1.heap.size w1 w':=by
  intro k a n c w1 hb hk hr;rw[hE];exact Dl p pt (3+k) I J L _ a n c w1 (HK.out.below hb) (by omega) (hr.below hb) (by have:=hlen k hk;have:=hr.1;omega)
 have EC:=hid hEc;rw[←hE];clear hE hEc;refine(callsIn_wide (n:=5)).1 (callsIn_of_wp_marks func302 rfl trivial ?_ rfl);simp only[ntmps302,List.size_toArray,List.length_cons,List.length_nil,Nat.reduceAdd,Nat.reduceSub,Array.replicate_succ,Array.replicate_zero,List.push_toArray,List.append_toArray,List.nil_append,List.cons_append];refine wpIn_wide.2 ?_;go_wp2_with fail;refine(wh _ _ _ _).mono ?_;rintro e w4 ⟨rfl,bg,d4⟩;rw[hz]at bg;have hsz4:w.heap.size+4≤w4.heap.size:=by have:=bg.lt;omega
 obtain⟨sv,hsv⟩: ∃sv:Nat→Value,sv=fun k=>(cells[k]?).getD undef:=⟨_,rfl⟩;have hrow: ∀k,k<m→ ∃a n c,sv k= .slice a n c∧cells[k]? =some (sv k)∧Rd8 w a n c (rows.getD k []):=by
  intro k hk;obtain⟨a,n,c,h1,h2⟩:=HS.out.row k (by omega);refine⟨a,n,c,?_,?_,h2⟩
  ·rw[hsv];simp only;rw[h1];rfl
  ·rw[hsv];simp only;rw[h1];rfl
 have B4':=B0.out.trans (d4.mono B0.out.size);have P4:=P0.out.belowAll d4;have Z4:=Z0.out.belowAll d4;have S4:=S0.out.belowAll d4;have BR4:=BR.out.belowAll B4';have hstops:=sw (w.heap.size+3) gr m c w.heap.size sv w4 (by rw[bg.cell];rfl) (fun k hk=>by rw[BR4.cell];obtain⟨_,_,_,_,h,_⟩:=hrow k hk;exact h) bg.lt BR.out.lt (by omega) (fun k hk=>by obtain⟨a,n,c,h,_⟩:=hrow k hk;exact⟨a,n,c,h⟩) (by omega);have RW:=hid hrow;have HST:=hid hstops;have P5:=hid P4;have Z5:=hid Z4;have S5:=hid S4;have B5:=hid B4';clear hrow hstops P4 Z4 S4 B4' BR4 P0 Z0 S0 B0 hsv hW bg d4;go_wp2;refine(wpIn_wide (n:=5)).1 ?_;have ownB: ∀(g:Nat) (t:TypeId) (cs:Array Value) (W W':World) (row:Option Nat),Blk W g t cs→W.grownBy W' row→(∀r,row=some r→w4.heap.size≤r∧ ∃o:Obj,W.heap[r]? =some o∧o.isCells=false)→Blk W' g t cs:=by
  intro g t cs W W' row h hg hr;refine h.grown hg (fun e=> ?_);obtain⟨_,o,ho,hc⟩:=hr g e.symm;unfold Blk at h;rw[h]at ho;cases ho;cases hc
 refine wpIn_rangeFunc_ownF rfl (by omega) (gf:=326) (lb:= #[.pointer (some ⟨w.heap.size+3,0,none⟩)]) rfl trivial Dm
  HST.out belowK_t (belowK_b (by omega)) (Below.refl _ _) (fun _=>rfl)
  (fun pre W' =>Blk W' w.heap.size 130 #[.pointer (some ⟨p,0,none⟩)]∧Blk W' (w.heap.size+1) 42 (A8 (ac 8 16))∧Blk W' (w.heap.size+1+1) 42 (A8 (nf E rows (idxs pre)))∧Below w.heap.size w W')
  (fun _ _ _=>False)
  (fun s W W' row hs hg hr=>⟨ownB _ _ _ _ _ _ hs.1 hg hr,ownB _ _ _ _ _ _ hs.2.1 hg hr,ownB _ _ _ _ _ _ hs.2.2.1 hg hr,hs.2.2.2.grown hg hs.2.2.2.size (fun k e=>by have:=(hr k e).1;omega)⟩)
  (fun _ _ _ _ _ h _ _=>h)
  ⟨P5.out,Z5.out,S5.out,B5.out⟩
  (fun x=>{tmps:= #[.pointer (some ⟨p,0,none⟩),.slice (some ⟨gr,0,none⟩) m c,.pointer (some ⟨w.heap.size,0,none⟩),undef,.pointer (some ⟨w.heap.size+1,0,none⟩),.pointer (some ⟨w.heap.size+1+1,0,none⟩),.int .i64 ((3+x.1:Nat):Int),sv x.1,.slice (some ⟨gr,0,none⟩) m c,.func (.func 326) #[] #[.pointer (some ⟨w.heap.size+3,0,none⟩)],.int .i64 ((3+x.1:Nat):Int),sv x.1,undef,undef,undef,undef,undef,undef,undef],defers:=[]}) ?assign ?body ?done ?stop
 case assign=>
  intro l x W K hK
  gi_wp2
  exact hK
 case body=>
  rintro l pre x W1 ⟨hP,hZ,hS,hB⟩ _;obtain⟨sa,sn,sc,hs,_,hr⟩:=RW.out x.1 x.2;have P6:=hid hP;have Z6:=hid hZ;have S6:=hid hS;have B6:=hid hB;have R6:=hid hr;have hSl:=wj E rows (idxs pre);obtain⟨S,hSe⟩: ∃S,S=nf E rows (idxs pre):=⟨_,rfl⟩;rw[←hSe]at S6 hSl;obtain⟨Y,hY⟩: ∃Y,Y=jq E ((3+x.1:Nat):Int) (rows.getD x.1 []):=⟨_,rfl⟩;have hYl:Y.length=16:=by rw[hY];exact wg _ _ _
  obtain⟨F,hF⟩: ∃F,F=ar S Y:=⟨_,rfl⟩;have hFl:F.length=16:=by rw[hF];exact ak _ _
  have hFF:F=nf E rows (idxs (pre++ [x])):=by rw[uK,sx,hF,hSe,hY]
  have HF:=hid hFF;have HY:=hid hY.symm;have HFe:=hid hF.symm;have ec:=EC.out x.1 sa sn sc;have EX:=hid ec;have hx:=x.2;rw[hs];obtain⟨T,hT⟩: ∃T:Nat,T=3+x.1:=⟨_,rfl⟩;rw[←hT]at EX HY⊢;clear hP hZ hS hB hr hSe hY hF hFF ec hT P5 Z5 S5 B5 HST;refine wpIn_block ?_;refine oC [5,5,0,0,2,2,3] (by kernel_rfl) (by rintro⟨_,_,h⟩;exact h) (by kernel_rfl) (by kernel_rfl) (fun C0 hC0 hCb K' hK' => ?_);have Q1: ∀w1,C0 w1→aF w1 (w.heap.size+1+1)=A8 S:=fun w1 hw=>(S6.out.drew.belowAll (hCb w1 hw)).row;have Q2: ∀w1,C0 w1→w1.cell? ⟨w.heap.size,0,none⟩=some (.pointer (some ⟨p,0,none⟩)):=fun w1 hw=>by rw[(P6.out.drew.belowAll (hCb w1 hw)).cell];rfl
  repeat (first|((with_reducible refine hq0 ?_);refine hq0a ?_)|((with_reducible refine hq5 ?_);refine hq5a ?_ (fun _ hcw=>by have f1:=Q1 _ hcw;have f2:=Q2 _ hcw;go_simp;(try go_bits);exact rfl))|((with_reducible refine hq1 ?_);refine hq1a ?_))
  refine hqc ?_;go_simp;refine af ?_;refine(EX.out W1.drew B6.out.drew hx R6.out).mono ?_;rintro e w6 ⟨rfl,d6⟩;refine⟨_,rfl,d6,?_⟩
  try simp only[Act.put,zz1,zz2,zz3]
  rw[HY.out];refine hqc ?_;go_simp;refine af ?_;refine(oA S Y w6 hSl hYl).mono ?_;rintro e w7 ⟨rfl,d7⟩;refine⟨_,rfl,d7,?_⟩
  try simp only[Act.put,zz1,zz2,zz3]
  rw[HFe.out];have d67:=d6.trans (d7.mono d6.size);refine aU [2] rfl (by simp) ?_;refine aq (S6.out.drew.belowAll d67) rfl rfl (by rw[ag,ag,hFl,hSl]) (aH _) (by rw[ag,hFl];exact sizeOf42 _) (fun w8 k8 g8 s8=> ?_);refine az (hK' _ _ ?_);rw[HF.out]at k8;have E7:=B6.out.drew.trans (d67.mono B6.out.size);have G8:W1.drew.grownBy w8 (some (w.heap.size+1+1)):=ao (aD d67 _) g8;refine⟨(KeepsOthers.drew W1).trans (KeepsOthers.of_grownBy G8 (fun j o e ho=> ?_)),?_,?_,?_,k8,?_⟩
  ·cases e;have h:=S6.out.drew;unfold Blk at h;rw[h]at ho;cases ho;rfl
  ·exact((Below.refl w.heap.size W1).drew).grown G8 B6.out.size (fun k e=>by cases e;omega)
  ·exact(P6.out.drew.belowAll d67).grown g8 (by simp;omega)
  ·exact(Z6.out.drew.belowAll d67).grown g8 (by simp)
  ·exact E7.trans (ae g8 (by omega) E7.size)
 case done=>
  rintro D xs W1 hD hxs ⟨hP,hZ,hS,hB⟩ hK;have hFF:nf E rows (idxs xs)=eg E rows m:=by rw[hxs,pL]
  rw[hFF]at hS;have hFl:=gL E rows m;obtain⟨F,hF⟩: ∃F,F=eg E rows m:=⟨_,rfl⟩;rw[←hF]at hS hFl;have r1:=hS.row;have r2:=hZ.row;have r3:=hZ.whole;have HK':=hid hK;have HZ:=hid hZ;have HB:=hid hB;have HF:=hid hF;have HD:=hid hD;clear hP hZ hS hB hK hFF hF P5 Z5 S5 B5 HST;go_wp2;have hDl:D<W1.heap.size:=(Array.getElem?_eq_some_iff.1 HK'.out).1;have hDw:=HD.out;have hK2:(W1.setRow (w.heap.size+1) (A8 F)).heap[D]? =some (.deferred (some [])):=((aK W1 (w.heap.size+1) (A8 F)).block D hDl (by simp;omega)).trans HK'.out;have k2:=HZ.out.put (A8 F);have b2:=below_setRow HB.out (show w.heap.size≤w.heap.size+1 by omega) (A8 F);refine⟨by simp,.inl ⟨_,_,rfl,run_takeDeferred hK2,?_⟩⟩;generalize W1.setRow (w.heap.size+1) (A8 F)=W2 at*;have k3:=k2.grown (grownBy_putObj' W2 D (.deferred none)) (by simp;omega);have b3:=b2.grown (grownBy_putObj' W2 D (.deferred none)) b2.size (fun k e=>by cases e;omega);generalize W2.putObj D (.deferred none)=W3 at*;have hv:=cT (P:=prog) (w:=W3) (isAgg42 _) (sizeOf42 _) (by rw[ag];exact hFl) k3.row;exact⟨.agg (A8 F),by simp[results,Tryz.f302,asAddr,hv],by rw[HF.out],b3⟩
 case stop=>
  rintro D c pre W _ _ h _;exact h.elim
open Go.RowKit
def le62:Bool:=(List.range 63).all fun N=>(List.range (N+1)).all fun A=>leF (flt A) (flt N)
theorem Ij:le62=true:=by kernel_rfl
theorem FI(A N:Nat)(h:A≤N)(hN:N≤62):leF (flt A) (flt N)=true:=by
 have h1:=List.all_eq_true.1 Ij N (by simp;omega);exact List.all_eq_true.1 h1 A (by simp;omega)
theorem Ik(M:Y8)(p n:Nat):upd (fun i=>hbB (nth M ((p+i)/2)) ((p+i) %2)) (ac 8 n) n=hbs M p n:=by
 unfold upd hbs;rw[ah];apply List.map_congr_left;intro i hi;rw[if_pos (by simpa using hi)]
theorem mr(M:Y8)(a:Option Addr)(len c p n:Nat)(w:World)(hr:Rd8 w a len c M)(hA:p+n≤2*len)(hl:len≤31):
  Calls prog 319 #[.slice a len c,.complex .f64 (flt p) (flt n)] w fun e w' => ∃v,e= .returned (.tuple #[v,.bool true])∧Own8 w' w.heap.size 5 v (hbs M p n)∧Below w.heap.size w w':=by
 obtain⟨N2,hN2⟩: ∃N2,N2=2*len:=⟨_,rfl⟩;have hwh:=um p n N2 w (by omega) (by omega) (FI _ _ (by omega) (by omega)) (FI _ _ (by omega) (by omega));obtain⟨C,hC⟩: ∃C,C=flt p:=⟨_,rfl⟩;obtain⟨D,hD⟩: ∃D,D=flt n:=⟨_,rfl⟩;rw[←hC,←hD]at hwh;rw[←hC,←hD];have R:=hid hr;have HW:=hid hwh;have g1:(2:Int)*(len:Int)=(N2:Int):=by omega
 have g2:IntKind.i64.wrap (N2:Int)=(N2:Int):=by rw[IntKind.wrap_i64];omega
 have HA:=hid hA;have HMl:=hid hr.1;clear hC hD hr hwh hN2 hA;go_enter func319,ntmps319;go_wp2_with fail;refine HW.out.mono ?_;rintro e w1 ⟨rfl,d1⟩;have hmk:=cE (P:=prog) w1 22 5 (n:Nat) (n:Nat) underlying22 bM (by omega) (by omega) (by have:=HA.out;omega);rw[Int.toNat_natCast]at hmk;have O0:=hid (Blk.new w1 5 (A8 (ac 8 n)));have B0:=hid (d1.alloc d1.size (.cells (A8 (ac 8 n)) 5));have hge:=d1.size;obtain⟨g,hg⟩: ∃g,g=w1.heap.size:=⟨_,rfl⟩;rw[←hg]at hmk O0 hge;clear d1 hg;obtain⟨f,hf⟩: ∃f:Nat→BitVec 8,f=fun i=>hbB (nth M ((p+i)/2)) ((p+i) %2):=⟨_,rfl⟩;have HF:=hid hf;clear hf;go_wp2_with fail;clear hmk;generalize w1.alloc (.cells (A8 (ac 8 n)) 5)=W1 at*;go_loopw [27] (fun i wr=> ∃j:Nat,j≤n∧i= .int .i64 j∧Blk wr g 5 (A8 (upd f (ac 8 n) j))∧Below w.heap.size w wr) (fun i _=>n-(intOf i).toNat)
 case atStart=>exact⟨0,Nat.zero_le _,rfl,by rw[fR];exact O0.out,B0.out⟩
 case round=>
  obtain⟨j,hj,rfl,hO,hB⟩:=hrel;have O1:=hid hO;have B1:=hid hB;clear hO hB O0 B0;have ul:=bL f (ac 8 n) j;rw[ah]at ul;by_cases hjn:j<n
  ·have hAo:=HA.out;obtain⟨b,o,rfl,hba,hca⟩:=R.out.2.2.2 (by omega);obtain⟨K,hK⟩: ∃K,K=p+j:=⟨_,rfl⟩;obtain⟨q,hq⟩: ∃q,q=K/2:=⟨_,rfl⟩;obtain⟨r,hr2⟩: ∃r,r=K %2:=⟨_,rfl⟩;obtain⟨s,hs⟩: ∃s,s=1-r:=⟨_,rfl⟩;obtain⟨x,hx⟩: ∃x,x=4*s:=⟨_,rfl⟩;have e1:(p:Int)+(j:Int)=(K:Int):=by omega
   have e2:IntKind.i64.wrap (K:Int)=(K:Int):=by rw[IntKind.wrap_i64];omega
   have k0:(0:Int)≤(K:Int):=by omega
   have e3:(K:Int).tdiv 2=(q:Int):=by rw[Int.tdiv_eq_ediv_of_nonneg k0];omega
   have e4:(K:Int).tmod 2=(r:Int):=by rw[Int.tmod_eq_emod_of_nonneg k0];omega
   have e3':(K:Int)/2=(q:Int):=by omega
   have e4':(K:Int) %2=(r:Int):=by omega
   have e5:(1:Int)-(r:Int)=(s:Int):=by omega
   have e6:(4:Int)*(s:Int)=(x:Int):=by omega
   have w3:IntKind.i64.wrap (q:Int)=(q:Int):=by rw[IntKind.wrap_i64];omega
   have w5:IntKind.i64.wrap (s:Int)=(s:Int):=by rw[IntKind.wrap_i64];omega
   have w6:IntKind.i64.wrap (x:Int)=(x:Int):=by rw[IntKind.wrap_i64];omega
   have w7:IntKind.i64.wrap (r:Int)=(r:Int):=by rw[IntKind.wrap_i64];omega
   have q0:(0:Int)≤(q:Int):=by omega
   have q1:(q:Int)<(len:Int):=by omega
   have x0:(0:Int)≤(x:Int):=by omega
   have i0:(0:Int)≤(j:Int):=by omega
   have i1:(j:Int)<(n:Int):=by omega
   obtain⟨Y,hY⟩: ∃Y,Y=nth M q:=⟨_,rfl⟩;have ca:wr.cell? ⟨b,o+q,none⟩=some (v8 Y):=by rw[hY];exact(B1.out.cell hba).trans (hca q (by omega))
   have co:wr.cell? ⟨g,j,none⟩=some (v8 (nth (upd f (ac 8 n) j) j)):=O1.out.cell8 ul j hjn;have fo:=O1.out.frozen j;have hv:(Y>>>x)&&&15#8=f j:=by
    rw[HF.out];show _=hbB (nth M ((p+j)/2)) ((p+j) %2);rw[←hK,←hq,←hr2,←hY,hbB];have hr01:r=0∨r=1:=by omega
    rcases hr01 with h|h
    ·rw[if_neg (by omega),hx,hs,h]
    ·rw[if_pos h,hx,hs,h];rfl
   obtain⟨Z,hZ⟩: ∃Z,Z=f j:=⟨_,rfl⟩;rw[←hZ]at hv;have kk:=O1.out.set_ j (v8 Z);rw[eL,hZ,gC f (ac 8 n) j (by rw[ah];exact hjn),←hZ]at kk;have O2:=hid kk;have B2:=hid (B1.out.setCell (p:=⟨g,j,none⟩) hge (v8 Z));clear hK hq hr2 hs hx hY hZ kk O1 B1 hba hca;go_wp2;exact⟨⟨j+1,by omega,by go_num,O2.out,B2.out⟩,by simp[intOf];omega⟩
  ·obtain rfl:j=n:=by omega
   have hown:=Own8.blk (B:=w.heap.size) O1.out j hge (by omega) (by rw[ul];have:=HA.out;unfold maxLen;omega);rw[List.take_of_length_le (by omega),ul,HF.out,Ik]at hown;have E:=hid hown;clear hown ul O1;go_wp2;go_ret2;exact⟨_,rfl,E.out,B1.out⟩
def fH(H:Y8)(j:Nat):Y8:=
 (List.range ((H.length+1)/2)).map fun k=>(if 2*k<j then(nth H (2*k)&&&15#8)<<<4 else 0#8)|||(if 2*k+1<j then nth H (2*k+1)&&&15#8 else 0#8)
theorem cn(H:Y8)(j:Nat):(fH H j).length=(H.length+1)/2:=by simp[fH]
theorem iy(H:Y8)(j k:Nat)(h:k<(H.length+1)/2):nth (fH H j) k=(if 2*k<j then(nth H (2*k)&&&15#8)<<<4 else 0#8)|||(if 2*k+1<j then nth H (2*k+1)&&&15#8 else 0#8):=dZ _ k h
theorem xO(H:Y8):fH H 0=ac 8 ((H.length+1)/2):=by
 apply aO
 ·rw[cn,ah]
 ·intro i hi;rw[cn]at hi;rw[iy _ _ _ hi,dg,if_neg (by omega),if_neg (by omega)];rfl
theorem xP(H:Y8):fH H H.length=eE H:=by
 apply aO
 ·rw[cn,cV]
 ·intro i hi;rw[cn]at hi;rw[iy _ _ _ hi,oN _ _ hi,twoN,if_pos (by omega)];by_cases h:2*i+1<H.length
  ·rw[if_pos h]
  ·rw[if_neg h,show nth H (2*i+1)=0#8 from by unfold nth;rw[List.getD_eq_getElem?_getD,List.getElem?_eq_none (by omega)];rfl];simp
theorem Ak(H:Y8)(j:Nat)(hj:j<H.length):(fH H j).set (j/2) (nth (fH H j) (j/2)|||((nth H j&&&15#8)<<<(4*(1-j %2))))=fH H (j+1):=by
 apply aO
 ·rw[List.length_set,cn,cn]
 ·intro i hi;rw[List.length_set,cn]at hi;rw[eK _ _ _ _ (by rw[cn];omega),iy H (j+1) _ hi];by_cases e:i=j/2
  ·subst e;rw[if_pos rfl,iy H j _ hi];have hc:j %2=0∨j %2=1:=by omega
   rcases hc with hc|hc
   ·have e1:2*(j/2)=j:=by omega
    rw[if_neg (by omega),if_neg (by omega),if_pos (by omega),if_neg (by omega),hc,e1];simp
   ·have e1:2*(j/2)+1=j:=by omega
    rw[if_pos (by omega),if_neg (by omega),if_pos (by omega),if_pos (by omega),hc,e1];simp
  ·rw[if_neg (fun h=>e h.symm),iy H j _ hi];have c1:(2*i<j)↔(2*i<j+1):=by omega
   have c2:(2*i+1<j)↔(2*i+1<j+1):=by omega
   simp only[c1,c2]
theorem sy(H:Y8)(a:Option Addr)(len c:Nat)(w:World)(hr:Rd8 w a len c H)(hl:len≤1000):
  Calls prog 307 #[.slice a len c] w fun e w' => ∃v,e= .returned v∧Own8 w' w.heap.size 5 v (eE H)∧Below w.heap.size w w':=by
 have hHl:=hr.1;obtain⟨L1,hL1⟩: ∃L1,L1=len+1:=⟨_,rfl⟩;obtain⟨N,hN⟩: ∃N,N=L1/2:=⟨_,rfl⟩;have g1:(len:Int)+1=(L1:Int):=by omega
 have g2:IntKind.i64.wrap (L1:Int)=(L1:Int):=by rw[IntKind.wrap_i64];omega
 have g0:(0:Int)≤(L1:Int):=by omega
 have g3:(L1:Int).tdiv 2=(N:Int):=by rw[Int.tdiv_eq_ediv_of_nonneg g0];omega
 have g3':(L1:Int)/2=(N:Int):=by omega
 have g4:IntKind.i64.wrap (N:Int)=(N:Int):=by rw[IntKind.wrap_i64];omega
 have hmk:=cE (P:=prog) w 22 5 (N:Nat) (N:Nat) underlying22 bM (by omega) (by omega) (by omega);rw[Int.toNat_natCast]at hmk;have hNl:N=(H.length+1)/2:=by omega
 have O0:=hid (Blk.new w 5 (A8 (ac 8 N)));have B0:=hid ((Below.refl w.heap.size w).alloc (Nat.le_refl _) (.cells (A8 (ac 8 N)) 5));have R:=hid hr;have HL:=hid hHl;have HN:=hid hNl;clear hL1 hN hr hHl hNl;go_enter func307,ntmps307;go_wp2_with fail;clear hmk g1 g2 g3 g3';generalize w.alloc (.cells (A8 (ac 8 N)) 5)=W1 at*;go_loopw [13] (fun i wr=> ∃j:Nat,j≤len∧i= .int .i64 j∧Blk wr w.heap.size 5 (A8 (fH H j))∧Below w.heap.size w wr) (fun i _=>len-(intOf i).toNat)
 case atStart=>exact⟨0,Nat.zero_le _,rfl,by rw[xO,←HN.out];exact O0.out,B0.out⟩
 case round=>
  obtain⟨j,hj,rfl,hO,hB⟩:=hrel;have O1:=hid hO;have B1:=hid hB;clear hO hB O0 B0;have ul:=cn H j;rw[←HN.out]at ul;by_cases hjn:j<len
  ·obtain⟨b,o,rfl,hba,hca⟩:=R.out.2.2.2 (by omega);obtain⟨q,hq⟩: ∃q,q=j/2:=⟨_,rfl⟩;obtain⟨r,hr2⟩: ∃r,r=j %2:=⟨_,rfl⟩;obtain⟨s,hs⟩: ∃s,s=1-r:=⟨_,rfl⟩;obtain⟨x,hx⟩: ∃x,x=4*s:=⟨_,rfl⟩;have i0:(0:Int)≤(j:Int):=by omega
   have i1:(j:Int)<(len:Int):=by omega
   have e3:(j:Int).tdiv 2=(q:Int):=by rw[Int.tdiv_eq_ediv_of_nonneg i0];omega
   have e4:(j:Int).tmod 2=(r:Int):=by rw[Int.tmod_eq_emod_of_nonneg i0];omega
   have e3':(j:Int)/2=(q:Int):=by omega
   have e4':(j:Int) %2=(r:Int):=by omega
   have e5:(1:Int)-(r:Int)=(s:Int):=by omega
   have e6:(4:Int)*(s:Int)=(x:Int):=by omega
   have w3:IntKind.i64.wrap (q:Int)=(q:Int):=by rw[IntKind.wrap_i64];omega
   have w5:IntKind.i64.wrap (s:Int)=(s:Int):=by rw[IntKind.wrap_i64];omega
   have w6:IntKind.i64.wrap (x:Int)=(x:Int):=by rw[IntKind.wrap_i64];omega
   have w7:IntKind.i64.wrap (r:Int)=(r:Int):=by rw[IntKind.wrap_i64];omega
   have q0:(0:Int)≤(q:Int):=by omega
   have hqN:q<N:=by have:=HN.out;have:=HL.out;omega
   have q1:(q:Int)<(N:Int):=by omega
   have x0:(0:Int)≤(x:Int):=by omega
   obtain⟨Y,hY⟩: ∃Y,Y=nth H j:=⟨_,rfl⟩;have ca:wr.cell? ⟨b,o+j,none⟩=some (v8 Y):=by rw[hY];exact(B1.out.cell hba).trans (hca j (by omega))
   obtain⟨A,hA⟩: ∃A,A=nth (fH H j) q:=⟨_,rfl⟩;have co:wr.drew.cell? ⟨w.heap.size,q,none⟩=some (v8 A):=by rw[hA];exact O1.out.drew.cell8 ul q hqN
   obtain⟨Z,hZ⟩: ∃Z,Z=A|||((Y&&&15#8)<<<x):=⟨_,rfl⟩;have kset:(fH H j).set q Z=fH H (j+1):=by
    rw[←Ak H j (by rw[HL.out];exact hjn),←hq,hZ,hA,hY,hx,hs,hr2]
   have HZ:=hid hZ.symm;have HS:=hid kset;clear hq hr2 hs hx hY hZ hA hba hca kset;go_upto_region 5 with fail;refine aB [0,0,0,0,1,0,0,0,0,0,0,0,0,0,2] (by kernel_rfl) (by kernel_rfl) (fun ops' K2 hK2=> ?_)
   repeat (first|((with_reducible refine zq0 ?_);refine zq0a ?_)|((with_reducible refine zq1 ?_);refine zq1a ?_))
   refine dy O1.out.drew rfl rfl (by rw[ul];exact hqN) (sizeOf5 _) (fun w1 k1 g1 s1=> ?_);refine az (hK2 _ _ ?_);rw[HZ.out,HS.out]at k1;have O2:=hid k1;have B2:=hid (B1.out.drew.trans (ae g1 (Nat.le_refl _) B1.out.size));clear k1 g1 s1 ca co hK2 O1 B1 ul;go_wp2;exact⟨⟨j+1,by omega,by go_num,O2.out,B2.out⟩,by simp[intOf];omega⟩
  ·obtain rfl:j=len:=by omega
   have hown:=Own8.blk (B:=w.heap.size) O1.out N (Nat.le_refl _) (by omega) (by rw[ul];have:=HN.out;have:=HL.out;unfold maxLen;omega);have ef:fH H j=eE H:=by rw[←xP,HL.out]
   rw[List.take_of_length_le (by omega),ul,ef]at hown;have E:=hid hown;clear hown ul O1 ef;go_wp2;go_ret;exact⟨_,rfl,E.out,B1.out⟩
open Go.RowKit
theorem Dn(L:Y8)(g m c:Nat)(w:World)(hr:RdS w 16 (some ⟨g,0,none⟩) m c L)(hm:m≤4):
  Calls prog 318 #[.slice (some ⟨g,0,none⟩) m c] w fun e w' =>e= .returned (.agg (A8 (cC L m)))∧Below w.heap.size w w':=by
 obtain⟨W,hW⟩: ∃W,(w.alloc (.cells (A8 (ac 8 16)) 42)).alloc (.cells (A8 (ac 8 16)) 42)=W:=⟨_,rfl⟩;obtain⟨b0,b1,hb,hz⟩:=new2 _ _ _ _ _ _ hW;have Z0:=hid b0;have P0:=hid b1;have B0:=hid hb;have RR:=hid hr;have hl:=hr.1;clear b0 b1 hb hz hr;go_enter func318,ntmps318;go_wp2_with fail;go_loopw [9] (fun i wr=> ∃j:Nat,j≤m∧i= .int .i64 j∧Blk wr w.heap.size 42 (A8 (ac 8 16))∧Blk wr (w.heap.size+1) 42 (A8 (cC L j))∧Below w.heap.size w wr) (fun i _=>m-(intOf i).toNat)
 case atStart=>exact⟨0,Nat.zero_le _,rfl,Z0.out,P0.out,B0.out⟩
 case round=>
  obtain⟨j,hj,rfl,hZ,hP,hB⟩:=hrel;have Z1:=hid hZ;have P1:=hid hP;have B1:=hid hB;clear hZ hP hB Z0 P0 B0 hW;by_cases hjm:j<m
  ·have j1:(j:Int)<(m:Int):=by omega
   have j0:(0:Int)≤(j:Int):=by omega
   have c3:=(RR.out.below B1.out).row (t:=42) (isAgg42 _) (sizeOf42 _) j hjm;rw[Nat.zero_add,show(L.drop (j*16)).take 16=aI L j from rfl]at c3;have hXl:=qu L m j hl hjm;have hAl:=dP L j;obtain⟨X,hX⟩: ∃X,X=aI L j:=⟨_,rfl⟩;obtain⟨A,hA⟩: ∃A,A=cC L j:=⟨_,rfl⟩;rw[←hX]at c3 hXl;rw[←hA]at P1 hAl;have hfin:ar A X=cC L (j+1):=by rw[hX,hA,cC]
   have HF:=hid hfin;have X1:=hid (Blk.new wr 42 (A8 X));have Z2:=hid (Z1.out.alloc (.cells (A8 X) 42));have P2:=hid (P1.out.alloc (.cells (A8 X) 42));have B2:=hid (B1.out.alloc B1.out.size (.cells (A8 X) 42));have hne:wr.heap.size≠w.heap.size+1:=by have:=P1.out.lt;omega
   have hge:w.heap.size≤wr.heap.size:=B1.out.size;clear hX hA hfin Z1 P1 B1;go_wp2_with fail;generalize wr.alloc (.cells (A8 X) 42)=V at*;generalize wr.heap.size=q at*;have huf:=lf A X hAl;obtain⟨f,hf⟩: ∃f:Nat→BitVec 8,f=fun i=>nth A i^^^nth X i:=⟨_,rfl⟩;rw[←hf]at huf;have HU:=hid huf;have HFf:=hid hf;clear huf hf c3;go_loopw [13] (fun i2 wi=> ∃k:Nat,k≤16∧i2= .int .i64 k∧Blk wi w.heap.size 42 (A8 (ac 8 16))∧Blk wi (w.heap.size+1) 42 (A8 (upd f A k))∧Blk wi q 42 (A8 X)∧Below w.heap.size w wi) (fun i2 _=>16-(intOf i2).toNat)
   case atStart=>exact⟨0,Nat.zero_le _,rfl,Z2.out,by rw[fR];exact P2.out,X1.out,B2.out⟩
   case round=>
    obtain⟨k,hk,rfl,hZ,hP,hX,hB⟩:=hrel;have Z3:=hid hZ;have P3:=hid hP;have X3:=hid hX;have B3:=hid hB;clear hZ hP hX hB Z2 P2 X1 B2;by_cases hk16:k<16
    ·have k1:(k:Int)<16:=by omega
     have k0:(0:Int)≤(k:Int):=by omega
     have kx:k<A.length:=by omega
     have c1:=P3.out.drew.cell8 (bL f A k) k kx;have c2:=X3.out.drew.cell8 hXl k hk16;rw[qW f A k kx]at c1;go_upto_region 8 with fail;refine aB [0,0,1,0,0,1,0,0,2] (by kernel_rfl) (by kernel_rfl) (fun ops' K2 hK2=> ?_)
     repeat (first|((with_reducible refine zq0 ?_);refine zq0a ?_)|((with_reducible refine zq1 ?_);refine zq1a ?_))
     refine dy P3.out.drew rfl rfl (by rw[bL];exact kx) (sizeOf5 _) (fun w1 kk1 g1 s1=> ?_);refine az (hK2 _ _ ?_);rw[show nth A k^^^nth X k=f k by rw[HFf.out],gC f A k kx]at kk1;have P4:=hid kk1;have X4:=hid (X3.out.drew.grown g1 (by simpa using hne));have Z4:=hid (Z3.out.drew.grown g1 (by simp));have B4:=hid (B3.out.drew.trans (ae g1 (by omega) B3.out.size));clear kk1 g1 s1 c1 c2 hK2 P3 X3 Z3 B3;go_wp2;exact⟨⟨k+1,by omega,by go_num,Z4.out,P4.out,X4.out,B4.out⟩,by simp[intOf];omega⟩
    ·obtain rfl:k=16:=by omega
     have zz:=P3.out;rw[HU.out,HF.out]at zz;have P5:=hid zz;clear zz;go_wp2;exact⟨⟨j+1,by omega,by go_num,Z3.out,P5.out,B3.out⟩,by simp[intOf];omega⟩
  ·obtain rfl:j=m:=by omega
   have hAl:=dP L j;have r1:=P1.out.row;have r2:=Z1.out.row;have r3:=Z1.out.whole;go_wp2;refine aj (A8 (cC L j)) rfl rfl rfl (isAgg42 _) (sizeOf42 _) (by rw[ag];exact hAl) (an _ r3) ⟨rfl,below_setRow B1.out (by omega) _⟩
theorem bX(L:Y8)(g m c:Nat)(w:World)(hr:RdS w 16 (some ⟨g,0,none⟩) m c L)(hm:m≤4):
  Calls prog 309 #[.slice (some ⟨g,0,none⟩) m c] w fun e w' =>e= .returned (.agg (A8 (cC L m)))∧Below w.heap.size w w':=by
 obtain⟨W,hW⟩: ∃W,(w.alloc (.cells (A8 (ac 8 16)) 42)).alloc (.cells (A8 (ac 8 16)) 42)=W:=⟨_,rfl⟩;obtain⟨b0,b1,hb,hz⟩:=new2 _ _ _ _ _ _ hW;have Z0:=hid b0;have P0:=hid b1;have B0:=hid hb;have RR:=hid hr;have hl:=hr.1;clear b0 b1 hb hz hr;go_enter func309,ntmps309;go_wp2_with fail;go_loopw [9] (fun i wr=> ∃j:Nat,j≤m∧i= .int .i64 j∧Blk wr w.heap.size 42 (A8 (ac 8 16))∧Blk wr (w.heap.size+1) 42 (A8 (cC L j))∧Below w.heap.size w wr) (fun i _=>m-(intOf i).toNat)
 case atStart=>exact⟨0,Nat.zero_le _,rfl,Z0.out,P0.out,B0.out⟩
 case round=>
  obtain⟨j,hj,rfl,hZ,hP,hB⟩:=hrel;have Z1:=hid hZ;have P1:=hid hP;have B1:=hid hB;clear hZ hP hB Z0 P0 B0 hW;by_cases hjm:j<m
  ·have j1:(j:Int)<(m:Int):=by omega
   have j0:(0:Int)≤(j:Int):=by omega
   have c3:=(RR.out.below B1.out).row (t:=42) (isAgg42 _) (sizeOf42 _) j hjm;rw[Nat.zero_add,show(L.drop (j*16)).take 16=aI L j from rfl]at c3;have hXl:=qu L m j hl hjm;have hAl:=dP L j;obtain⟨X,hX⟩: ∃X,X=aI L j:=⟨_,rfl⟩;obtain⟨A,hA⟩: ∃A,A=cC L j:=⟨_,rfl⟩;rw[←hX]at c3 hXl;rw[←hA]at P1 hAl;have hfin:ar A X=cC L (j+1):=by rw[hX,hA,cC]
   have HF:=hid hfin;have X1:=hid (Blk.new wr 42 (A8 X));have Z2:=hid (Z1.out.alloc (.cells (A8 X) 42));have P2:=hid (P1.out.alloc (.cells (A8 X) 42));have B2:=hid (B1.out.alloc B1.out.size (.cells (A8 X) 42));have hne:wr.heap.size≠w.heap.size+1:=by have:=P1.out.lt;omega
   have hge:w.heap.size≤wr.heap.size:=B1.out.size;clear hX hA hfin Z1 P1 B1;go_wp2_with fail;generalize wr.alloc (.cells (A8 X) 42)=V at*;generalize wr.heap.size=q at*;have huf:=lf A X hAl;obtain⟨f,hf⟩: ∃f:Nat→BitVec 8,f=fun i=>nth A i^^^nth X i:=⟨_,rfl⟩;rw[←hf]at huf;have HU:=hid huf;have HFf:=hid hf;clear huf hf c3;go_loopw [13] (fun i2 wi=> ∃k:Nat,k≤16∧i2= .int .i64 k∧Blk wi w.heap.size 42 (A8 (ac 8 16))∧Blk wi (w.heap.size+1) 42 (A8 (upd f A k))∧Blk wi q 42 (A8 X)∧Below w.heap.size w wi) (fun i2 _=>16-(intOf i2).toNat)
   case atStart=>exact⟨0,Nat.zero_le _,rfl,Z2.out,by rw[fR];exact P2.out,X1.out,B2.out⟩
   case round=>
    obtain⟨k,hk,rfl,hZ,hP,hX,hB⟩:=hrel;have Z3:=hid hZ;have P3:=hid hP;have X3:=hid hX;have B3:=hid hB;clear hZ hP hX hB Z2 P2 X1 B2;by_cases hk16:k<16
    ·have k1:(k:Int)<16:=by omega
     have k0:(0:Int)≤(k:Int):=by omega
     have kx:k<A.length:=by omega
     have c1:=P3.out.drew.cell8 (bL f A k) k kx;have c2:=X3.out.drew.cell8 hXl k hk16;rw[qW f A k kx]at c1;go_upto_region 8 with fail;refine aB [0,0,1,0,0,1,0,0,2] (by kernel_rfl) (by kernel_rfl) (fun ops' K2 hK2=> ?_)
     repeat (first|((with_reducible refine zq0 ?_);refine zq0a ?_)|((with_reducible refine zq1 ?_);refine zq1a ?_))
     refine dy P3.out.drew rfl rfl (by rw[bL];exact kx) (sizeOf5 _) (fun w1 kk1 g1 s1=> ?_);refine az (hK2 _ _ ?_);rw[show nth A k^^^nth X k=f k by rw[HFf.out],gC f A k kx]at kk1;have P4:=hid kk1;have X4:=hid (X3.out.drew.grown g1 (by simpa using hne));have Z4:=hid (Z3.out.drew.grown g1 (by simp));have B4:=hid (B3.out.drew.trans (ae g1 (by omega) B3.out.size));clear kk1 g1 s1 c1 c2 hK2 P3 X3 Z3 B3;go_wp2;exact⟨⟨k+1,by omega,by go_num,Z4.out,P4.out,X4.out,B4.out⟩,by simp[intOf];omega⟩
    ·obtain rfl:k=16:=by omega
     have zz:=P3.out;rw[HU.out,HF.out]at zz;have P5:=hid zz;clear zz;go_wp2;exact⟨⟨j+1,by omega,by go_num,Z3.out,P5.out,B3.out⟩,by simp[intOf];omega⟩
  ·obtain rfl:j=m:=by omega
   have hAl:=dP L j;have r1:=P1.out.row;have r2:=Z1.out.row;have r3:=Z1.out.whole;go_wp2;refine aj (A8 (cC L j)) rfl rfl rfl (isAgg42 _) (sizeOf42 _) (by rw[ag];exact hAl) (an _ r3) ⟨rfl,below_setRow B1.out (by omega) _⟩
theorem FJ(x y z u:Y8)(hx:x.length=16)(hy:y.length=16)(hz:z.length=16)(hu:u.length=16):cC (x++y++z++u) 4=ar (ar (ar x y) z) u:=by
 have e0:aI (x++y++z++u) 0=x:=by rw[aI,Nat.zero_mul,List.drop_zero,List.append_assoc,List.append_assoc,List.take_left' hx]
 have e1:aI (x++y++z++u) 1=y:=by rw[aI,Nat.one_mul,List.append_assoc,List.append_assoc,List.drop_left' hx,List.take_left' hy]
 have e2:aI (x++y++z++u) 2=z:=by rw[aI,List.append_assoc,List.drop_left' (by rw[List.length_append];omega),List.take_left' hz]
 have e3:aI (x++y++z++u) 3=u:=by rw[aI,List.drop_left' (by rw[List.length_append,List.length_append];omega),List.take_of_length_le (by omega)]
 rw[cC,cC,cC,cC,cC,e0,e1,e2,e3,ml _ hx]
open Go.RowKit
section
variable {P:Program}
def MSc(ps us vs:Value)(x y:Y8):Array Value:=(ps::us::vs::(x++y).map v8).toArray
theorem ff {x y:Y8}(hx:x.length=16)(hy:y.length=16)(ps us vs:Value):(MSc ps us vs x y).size=35:=by simp[MSc,hx,hy]
theorem lV(ps us vs:Value)(x y:Y8):(MSc ps us vs x y)[0]? =some ps:=by simp[MSc]
theorem sA(ps us vs:Value)(x y:Y8):(MSc ps us vs x y)[1]? =some us:=by simp[MSc]
theorem uL(ps us vs:Value)(x y:Y8):(MSc ps us vs x y)[2]? =some vs:=by simp[MSc]
theorem FK(ps us vs u:Value)(x y:Y8):(MSc ps us vs x y).setIfInBounds 0 u=MSc u us vs x y:=by simp[MSc]
theorem xQ(ps us vs u:Value)(x y:Y8):(MSc ps us vs x y).setIfInBounds 1 u=MSc ps u vs x y:=by simp[MSc]
theorem xR(ps us vs u:Value)(x y:Y8):(MSc ps us vs x y).setIfInBounds 2 u=MSc ps us u x y:=by simp[MSc]
theorem wk(ps us vs:Value)(x y:Y8)(i:Nat)(h:i<(x++y).length):(MSc ps us vs x y)[3+i]? =some (v8 (nth (x++y) i)):=by
 rw[Nat.add_comm];simp only[MSc,nth,List.getD_eq_getElem?_getD,List.getElem?_toArray,List.getElem?_cons_succ,List.getElem?_map];rw[List.getElem?_eq_getElem h];rfl
theorem sB(a1 a2 a3:Option Addr)(n1 n2 n3 c1 c2 c3:Nat)(x y:Y8):ones (MSc (.slice a1 n1 c1) (.slice a2 n2 c2) (.slice a3 n3 c3) x y)=true:=by
 have h:=aH (x++y);unfold ones at h⊢;rw[Array.all_eq_true']at h⊢;intro v hv;simp only[MSc,List.mem_toArray,List.mem_cons]at hv;rcases hv with rfl|rfl|rfl|hv
 ·rfl
 ·rfl
 ·rfl
 ·exact h v (by simpa[A8]using hv)
theorem Blk.rdMS {w:World} {g:Nat} {t:TypeId} {ps us vs:Value} {x y:Y8}(h:Blk w g t (MSc ps us vs x y))(hx:x.length=16)(hy:y.length=16):RdS w 16 (some ⟨g,3,none⟩) 2 2 (x++y):=by
 have hl:(x++y).length=32:=by rw[List.length_append,hx,hy]
 exact⟨by rw[hl],Nat.le_refl _,by unfold maxLen;omega,fun _=>⟨g,3,rfl,h.lt,fun i hi=>by rw[h.cell,wk _ _ _ _ _ _ (by rw[hl];omega)]⟩⟩
theorem Blk.rdMX {w:World} {g:Nat} {t:TypeId} {ps us vs:Value} {x y:Y8}(h:Blk w g t (MSc ps us vs x y))(hx:x.length=16)(hy:y.length=16):Rd8 w (some ⟨g,3,none⟩) 16 16 x:=by
 have hl:(x++y).length=32:=by rw[List.length_append,hx,hy]
 exact⟨hx,Nat.le_refl _,by unfold maxLen;omega,fun _=>⟨g,3,rfl,h.lt,fun i hi=>by rw[h.cell,wk _ _ _ _ _ _ (by rw[hl];omega),bK,if_pos (by omega)]⟩⟩
theorem Blk.rdMY {w:World} {g:Nat} {t:TypeId} {ps us vs:Value} {x y:Y8}(h:Blk w g t (MSc ps us vs x y))(hx:x.length=16)(hy:y.length=16):Rd8 w (some ⟨g,19,none⟩) 16 16 y:=by
 have hl:(x++y).length=32:=by rw[List.length_append,hx,hy]
 exact⟨hy,Nat.le_refl _,by unfold maxLen;omega,fun _=>⟨g,19,rfl,h.lt,fun i hi=>by rw[h.cell,show 19+i=3+(16+i) by omega,wk _ _ _ _ _ _ (by rw[hl];omega),bK,if_neg (by omega),hx,show 16+i-16=i by omega]⟩⟩
theorem sC(w:World)(e t:TypeId)(g:Nat)(ps us vs:Value)(x y l:Y8)(hb:Blk w g t (MSc ps us vs x y))(hx:x.length=16)(hy:y.length=16)(h3:l.length=16)(h2:(sizeOf e).run P w= .ok 16 w):
  (bR e (.pointer (some ⟨g,3,none⟩)) (.agg (A8 l))).run P w= .ok () (w.setRow g (MSc ps us vs l y)):=by
 have hg:w.heap[g]? =some (.cells (MSc ps us vs x y) t (0,0)):=hb;have hst:=run_storeCells_at (P:=P) g 3 t (A8 l).toList 0 (MSc ps us vs x y) w hg (by rw[Array.length_toList,ag,ff hx hy];omega) (fun v hv=>by
  have:=Array.all_eq_true'.1 (aH l) v (by simpa using hv);exact this)
 have e1:((MSc ps us vs x y).toList.take (3+0)++(A8 l).toList++(MSc ps us vs x y).toList.drop (3+0+(A8 l).toList.length)).toArray=MSc ps us vs l y:=by
  have e2:(List.map v8 x++List.map v8 y).drop 16=List.map v8 y:=List.drop_left' (by simpa using hx);simp[A8,MSc,h3,e2,show 3+16=16+1+1+1 by omega]
 rw[e1]at hst;have h2':(sizeOf e).run P w= .ok (A8 l).size w:=by rw[ag,h3];exact h2
 simp only[bR,Instr.storeAt,Instr.sureAddr,storeVar,Sem.run_bind,Sem.run_pure,Result.andThen_ok,h2',Value.cells,ne_eq,not_true_eq_false,if_false,hst]
theorem sD(w:World)(e t:TypeId)(g:Nat)(ps us vs:Value)(x y l:Y8)(hb:Blk w g t (MSc ps us vs x y))(hx:x.length=16)(hy:y.length=16)(h3:l.length=16)(h2:(sizeOf e).run P w= .ok 16 w):
  (bR e (.pointer (some ⟨g,19,none⟩)) (.agg (A8 l))).run P w= .ok () (w.setRow g (MSc ps us vs x l)):=by
 have hg:w.heap[g]? =some (.cells (MSc ps us vs x y) t (0,0)):=hb;have hst:=run_storeCells_at (P:=P) g 19 t (A8 l).toList 0 (MSc ps us vs x y) w hg (by rw[Array.length_toList,ag,ff hx hy];omega) (fun v hv=>by
  have:=Array.all_eq_true'.1 (aH l) v (by simpa using hv);exact this)
 have e1:((MSc ps us vs x y).toList.take (19+0)++(A8 l).toList++(MSc ps us vs x y).toList.drop (19+0+(A8 l).toList.length)).toArray=MSc ps us vs x l:=by
  have e2:(List.map v8 x++List.map v8 y).take 16=List.map v8 x:=List.take_left' (by simpa using hx);have e3:(List.map v8 x++List.map v8 y).drop 32=[]:=List.drop_eq_nil_of_le (by simp;omega);simp[A8,MSc,h3,e2,e3,show 19=16+1+1+1 by omega,show 16+1+1+1+16=32+1+1+1 by omega]
 rw[e1]at hst;have h2':(sizeOf e).run P w= .ok (A8 l).size w:=by rw[ag,h3];exact h2
 simp only[bR,Instr.storeAt,Instr.sureAddr,storeVar,Sem.run_bind,Sem.run_pure,Result.andThen_ok,h2',Value.cells,ne_eq,not_true_eq_false,if_false,hst]
variable {ops:Array Oper} {ks:List Nat} {l:List Oper} {a:Act}
theorem Dp {K:Act→World→Prop} {w:World} {e:TypeId} {p q:Operand} {ty:TypeId} {pos:String} {after:Array Edge} {g:Nat} {t:TypeId} {ps us vs:Value} {x y c:Y8}(hb:Blk w g t (MSc ps us vs x y))(hx:x.length=16)(hy:y.length=16)(hc:c.length=16)(hp:a.eval p= .pointer (some ⟨g,3,none⟩))(hv:a.eval q= .agg (A8 c))
  (hsz:(sizeOf e).run P w= .ok 16 w) (h: ∀w1,Blk w1 g t (MSc ps us vs c y)→w.grownBy w1 (some g)→w1.heap.size=w.heap.size→wpZ P ops K ks l a w1):wpZ P ops K (2::ks) (⟨none,.store e p q,ty,pos,after,none⟩::l) a w:=by
 have hr:(execOp a.eval ⟨none,.store e p q,ty,pos,after,none⟩).run P w= .ok .skip (w.setRow g (MSc ps us vs c y)):=by
  rw[aV,hp,hv,sC w e t g ps us vs x y c hb hx hy hc hsz];simp
 refine kB rfl (fun K' hK' => ?_);unfold Oper.wp;rw[hr];exact hK' _ _ (h _ (hb.put _) (aK w g _) (by simp))
theorem Dq {K:Act→World→Prop} {w:World} {e:TypeId} {p q:Operand} {ty:TypeId} {pos:String} {after:Array Edge} {g:Nat} {t:TypeId} {ps us vs:Value} {x y c:Y8}(hb:Blk w g t (MSc ps us vs x y))(hx:x.length=16)(hy:y.length=16)(hc:c.length=16)(hp:a.eval p= .pointer (some ⟨g,19,none⟩))(hv:a.eval q= .agg (A8 c))
  (hsz:(sizeOf e).run P w= .ok 16 w) (h: ∀w1,Blk w1 g t (MSc ps us vs x c)→w.grownBy w1 (some g)→w1.heap.size=w.heap.size→wpZ P ops K ks l a w1):wpZ P ops K (2::ks) (⟨none,.store e p q,ty,pos,after,none⟩::l) a w:=by
 have hr:(execOp a.eval ⟨none,.store e p q,ty,pos,after,none⟩).run P w= .ok .skip (w.setRow g (MSc ps us vs x c)):=by
  rw[aV,hp,hv,sD w e t g ps us vs x y c hb hx hy hc hsz];simp
 refine kB rfl (fun K' hK' => ?_);unfold Oper.wp;rw[hr];exact hK' _ _ (h _ (hb.put _) (aK w g _) (by simp))
end
theorem Blk.getMX {w:World} {g:Nat} {t:TypeId} {ps us vs:Value} {x y:Y8}(h:Blk w g t (MSc ps us vs x y))(hx:x.length=16)(hy:y.length=16):(bt 42 (.pointer (some ⟨g,3,none⟩))).run prog w= .ok (.agg (A8 x)) w:=by
 have:=(h.rdMS hx hy).row (t:=42) (isAgg42 _) (sizeOf42 _) 0 (by omega)
 rwa [Nat.zero_mul,List.drop_zero,List.take_left' hx,Nat.add_zero]at this
theorem Blk.getMY {w:World} {g:Nat} {t:TypeId} {ps us vs:Value} {x y:Y8}(h:Blk w g t (MSc ps us vs x y))(hx:x.length=16)(hy:y.length=16):(bt 42 (.pointer (some ⟨g,19,none⟩))).run prog w= .ok (.agg (A8 y)) w:=by
 have:=(h.rdMS hx hy).row (t:=42) (isAgg42 _) (sizeOf42 _) 1 (by omega)
 rwa [Nat.one_mul,List.drop_left' hx,List.take_of_length_le (by omega),show 3+16=19 from rfl]at this
def MN:Bool:=(List.range 521).all fun n=>decide (n<32)||leF (flt (n-32)) (flt n)
theorem FL:MN=true:=by kernel_rfl
theorem Kx(n:Nat)(h:32≤n)(h2:n≤520):leF (flt (n-32)) (flt n)=true:=by
 have:=List.all_eq_true.1 FL n (by simp;omega);rw[Bool.or_eq_true]at this;rcases this with h1|h1
 ·simp at h1;omega
 ·exact h1
theorem xS(M:Y8)(a:Option Addr)(n c k:Nat)(w:World)(hr:Rd8 w a n c M)(hk:k=16∨k=32)(hn:32≤n)(hn2:n≤520):
  Calls prog 321 #[.slice a n c,.int .i64 k] w fun e w' =>e= .returned (.agg (A8 ((M.drop (n-k)).take 16)))∧Below w.heap.size w w':=by
 obtain⟨W,hW⟩: ∃W,w.alloc (.cells (A8 (ac 8 16)) 42)=W:=⟨_,rfl⟩;obtain⟨b0,hb,hz⟩:=new1 _ _ _ _ hW;have hMl:=hr.1;obtain⟨A,hA⟩: ∃A,A=n-k:=⟨_,rfl⟩;obtain⟨_,_,_,_,g5,_⟩:=nU n hn2;have hle:leF (flt A) (flt n)=true:=by
  rcases hk with rfl|rfl
  ·rw[hA];exact(g5 (by omega)).2
  ·rw[hA];exact Kx n hn hn2
 have hlast:=rL M a n c A 16 W (hr.below hb) (by omega) hn2 hle (g5 (by omega)).1;have f2:(n:Int)-(k:Int)=(A:Int):=by omega
 have f3:IntKind.i64.wrap (A:Int)=(A:Int):=by rw[IntKind.wrap_i64];omega
 obtain⟨D,hD⟩: ∃D,D=flt A:=⟨_,rfl⟩;have f1:floatOfInt .f64 (A:Int)=D:=hD.symm;rw[←hD,Bp]at hlast;obtain⟨X,hX⟩: ∃X,X=(M.drop A).take 16:=⟨_,rfl⟩;have hXl:X.length=16:=by rw[hX,List.length_take,List.length_drop,hMl];omega
 rw[←hA,←hX];rw[←hX]at hlast;have HL:=hid hlast;have Z0:=hid b0;have B0:=hid hb;clear hlast b0 hb hz hr hD hA hle g5 hX;go_enter func321,ntmps321;go_wp2_with fail;refine HL.out.mono ?_;rintro e w1 ⟨v1,rfl,o1,d1⟩;obtain⟨a1,c1,rfl,hr1,_⟩:=o1.rd;rw[hXl]at hr1⊢;have R1:=hid hr1;have Z1:=hid (Z0.out.belowAll d1);have B1:=hid (B0.out.trans (d1.mono B0.out.size));clear o1 hr1 d1 Z0 B0 HL f1 f2 f3;go_wp2_with fail;refine(bD X a1 16 c1 w1 R1.out).mono ?_;rintro e w2 ⟨rfl,d2⟩;rw[vU X hXl];have Z2:=Z1.out.belowAll d2;have rr:=Z2.row;have rw3:=Z2.whole;have k2:=(Z2.put (A8 X)).row;have B2:=hid (below_setRow (B1.out.trans (d2.mono B1.out.size)) (Nat.le_refl _) (A8 X));clear Z2 Z1 B1 d2;go_wp2;refine aj (A8 X) rfl rfl rfl (isAgg42 _) (sizeOf42 _) (by rw[ag];exact hXl) k2 ⟨rfl,B2.out⟩
open Go.RowKit
theorem Blk.rdPart {w:World} {g:Nat} {t:TypeId} {m:Y8}(h:Blk w g t (A8 m))(o k:Nat)(hk:o+k≤m.length)(hm:m.length≤maxLen):Rd8 w (some ⟨g,o,none⟩) k k ((m.drop o).take k):=
 ⟨by rw[List.length_take,List.length_drop];omega,Nat.le_refl _,by omega,fun _=>⟨g,o,rfl,h.lt,fun i hi=>by rw[h.cell,kt m (o+i) (by omega),br _ _ _ hi,bQ]⟩⟩
theorem Dr(P U V x y:Y8)(ap au av:Option Addr)(np cp nu cu nv cv:Nat)(w:World)(hP:RdS w 32 ap np cp P)(hU:Rd8 w au nu cu U)(hV:Rd8 w av nv cv V)(hx:x.length=16)(hy:y.length=16)(hn:np≤20)(hu:nu≤16)(hv:nv≤16):
  Calls prog 314 #[.agg (MSc (.slice ap np cp) (.slice au nu cu) (.slice av nv cv) x y)] w fun e w' => ∃v,e= .returned v∧Own8 w' w.heap.size 5 v (P++U++V++x++y)∧Below w.heap.size w w':=by
 obtain⟨W,hW⟩: ∃W,w.alloc (.cells (MSc (.slice ap np cp) (.slice au nu cu) (.slice av nv cv) x y) 373)=W:=⟨_,rfl⟩;obtain⟨b0,hb,hz⟩:=new1 _ _ _ _ hW;have hPl:=hP.1;have M0:=hid b0;have B0:=hid hb;have S0:=hid hz;have RP:=hid hP;have RU:=hid hU;have RV:=hid hV;have HX:=hid hx;have HY:=hid hy;have HPL:=hid hPl;have HUL:=hid hU.1;have HVL:=hid hV.1;have c0:W.cell? ⟨w.heap.size,0,none⟩=some (.slice ap np cp):=by rw[b0.cell,lV]
 clear b0 hb hz hP hU hV hx hy hPl;go_enter func314,ntmps314;go_wp2_with fail;have O0:=hid (Own8.nil_ W (w.heap.size+1) 5);go_loopw [3,9] (fun v i wr=> ∃j:Nat,j≤np∧i= .int .i64 j∧Own8 wr (w.heap.size+1) 5 v (P.take (32*j))∧Blk wr w.heap.size 373 (MSc (.slice ap np cp) (.slice au nu cu) (.slice av nv cv) x y)∧Below w.heap.size w wr∧w.heap.size+1≤wr.heap.size) (fun _ i _=>np-(intOf i).toNat)
 case atStart=>exact⟨0,by omega,rfl,O0.out,M0.out,B0.out,by have:=S0.out;omega⟩
 case round=>
  obtain⟨j,hj,rfl,hO,hM,hB,hS⟩:=hrel;have O1:=hid hO;have M1:=hid hM;have B1:=hid hB;have S1:=hid hS;clear hO hM hB hS M0 B0 S0 O0 hW;by_cases hjn:j<np
  ·have j1:(j:Int)<np:=by omega
   have j0:(0:Int)≤(j:Int):=by omega
   obtain⟨b,o,rfl,_,_⟩:=RP.out.2.2.2 (by omega);have c3:=(RP.out.below B1.out).row (t:=383) (isAgg383 _) (sizeOf383 _) j hjn;obtain⟨X,hX⟩: ∃X,X=(P.drop (j*32)).take 32:=⟨_,rfl⟩;have hXl:X.length=32:=by rw[hX,List.length_take,List.length_drop,HPL.out];omega
   have hfin:P.take (32*j)++(X.drop 0).take 16++(X.drop 16).take 16=P.take (32*(j+1)):=by
    rw[List.append_assoc,List.drop_zero,show(X.drop 16).take 16=X.drop 16 from List.take_of_length_le (by rw[List.length_drop];omega),List.take_append_drop,hX,show 32*(j+1)=32*j+32 by omega,List.take_add,Nat.mul_comm j 32]
   rw[←hX]at c3;have HF:=hid hfin;clear hX hfin;have X1:=hid (Blk.new wr 383 (A8 X));have M2:=hid (M1.out.alloc (.cells (A8 X) 383));have O2:=hid (O1.out.alloc (.cells (A8 X) 383));have B2:=hid (B1.out.alloc B1.out.size (.cells (A8 X) 383));have S2:=hid (show w.heap.size+1≤(wr.alloc (.cells (A8 X) 383)).heap.size by have:=S1.out;simp;omega);have hlo:=O1.out;have hown:=hid (World.ownsRow.lt hlo);clear M1 O1 B1 S1 hlo;go_upto_region 5 with fail;clear c3;generalize wr.alloc (.cells (A8 X) 383)=W2 at*;generalize wr.heap.size=gX at*;refine aB [0,0,0,2,0,0,2,0] (by kernel_rfl) (by kernel_rfl) (fun ops' K2 hK2=> ?_)
   repeat (first|((with_reducible refine zq0 ?_);refine zq0a ?_)|((with_reducible refine zq1 ?_);refine zq1a ?_))
   have hM:=X1.out.drew;refine bE O2.out.drew (hM.rdPart 0 16 (by omega) (by rw[hXl];unfold maxLen;omega)) rfl rfl underlying22 bM (by rw[List.length_take];omega) S2.out (fun w3 v3 o3 g3 d3=> ?_);simp only[Act.put,zz1,zz2,zz3]
   repeat (first|((with_reducible refine zq0 ?_);refine zq0a ?_)|((with_reducible refine zq1 ?_);refine zq1a ?_))
   have hne: ∀k,Value.ownBlock (u3)=some k→k≠gX:=fun k hk e=>by have:=(hown.out k hk).2;omega
   have hX3:Blk w3 gX 383 (A8 X):=hM.grown g3 (fun e=>hne gX e.symm rfl);refine bE o3 (hX3.rdPart 16 16 (by omega) (by rw[hXl];unfold maxLen;omega)) rfl rfl underlying22 bM (by rw[List.length_append,List.length_take,List.length_take];omega) (Nat.le_trans S2.out d3.size) (fun w4 v4 o4 g4 d4=> ?_);simp only[Act.put,zz1,zz2,zz3]
   repeat (first|((with_reducible refine zq0 ?_);refine zq0a ?_)|((with_reducible refine zq1 ?_);refine zq1a ?_))
   refine az (hK2 _ _ ?_);rw[HF.out]at o4;have O4:=hid o4;have M4:=hid ((M2.out.drew.grown g3 (O2.out.apart (Nat.lt_succ_self _))).grown g4 (o3.apart (Nat.lt_succ_self _)));have E3:=B2.out.drew.trans (d3.mono (Nat.le_succ _));have B4:=hid (E3.trans (d4.mono (Nat.le_succ _)));have S4:=hid (Nat.le_trans (Nat.le_trans S2.out d3.size) d4.size);clear o3 g3 d3 hX3 o4 g4 d4 E3 hM hne hown hK2 X1 M2 O2 B2 S2;go_wp2;exact⟨⟨j+1,by omega,by go_num,O4.out,M4.out,B4.out,S4.out⟩,by simp[intOf];omega⟩
  ·obtain rfl:j=np:=by omega
   have hO:=O1.out;rw[List.take_of_length_le (by rw[HPL.out];omega)]at hO;have O2:=hid hO;clear hO O1;go_upto_region 7 with fail;refine aQ [0,0,5,3,0,5,3,0] [0,1,2,4,5] [] (fun _=>[]) [3,6,7] [_,_,_,_,_] [_,_,_] [0,0,5,0,5] [3,3,0] 0 rfl rfl rfl (by kernel_rfl) (by kernel_rfl) (by kernel_rfl) rfl rfl rfl (fun w1=>Blk w1 w.heap.size 373 (MSc (.slice ap j cp) (.slice au nu cu) (.slice av nv cv) x y)) (fun _ _ h k=>h.belowAll k) M1.out.drew (fun K' hK' => ?_);have Q1: ∀w1,Blk w1 w.heap.size 373 (MSc (.slice ap j cp) (.slice au nu cu) (.slice av nv cv) x y)→w1.cell? ⟨w.heap.size,1,none⟩=some (.slice au nu cu):=fun w1 h=>by rw[h.cell,sA]
   have Q2: ∀w1,Blk w1 w.heap.size 373 (MSc (.slice ap j cp) (.slice au nu cu) (.slice av nv cv) x y)→w1.cell? ⟨w.heap.size,2,none⟩=some (.slice av nv cv):=fun w1 h=>by rw[h.cell,uL]
   repeat (first|((with_reducible refine hq0 ?_);refine hq0a ?_)|((with_reducible refine hq5 ?_);refine hq5a ?_ (fun _ hcw=>by have f1:=Q1 _ hcw;have f2:=Q2 _ hcw;go_simp;(try go_bits);exact rfl))|((with_reducible refine hq1 ?_);refine hq1a ?_))
   refine aA ?_;show wpCH _ _ _ _ _ _ _ _;refine bI ?_;have hlU:=HUL.out;have hlV:=HVL.out;have hlP:=HPL.out;refine bE O2.out.drew ((RU.out.below B1.out).drew) rfl rfl underlying22 bM (by omega) S1.out (fun w3 v3 o3 g3 d3=> ?_);simp only[Act.put,zz1,zz2,zz3];have M3:=M1.out.drew.grown g3 (O2.out.apart (Nat.lt_succ_self _));have E3:=B1.out.drew.trans (d3.mono (Nat.le_succ _));refine az ⟨M3,?_⟩;refine bI ?_;refine bE o3 (RV.out.below E3) rfl rfl underlying22 bM (by rw[List.length_append];omega) (Nat.le_trans S1.out d3.size) (fun w4 v4 o4 g4 d4=> ?_);simp only[Act.put,zz1,zz2,zz3];have M4:=M3.grown g4 (o3.apart (Nat.lt_succ_self _));have E4:=E3.trans (d4.mono (Nat.le_succ _));refine az ⟨M4,?_⟩;refine Kd (v:=v4) M4 rfl (fun wq=>by go_simp) rfl ?_;simp only[Act.put,zz1,zz2,zz3];refine cQ (hK' _ _ ?_);have O5:=hid o4;have M5:=hid M4;have B5:=hid E4;have S5:=hid (Nat.le_trans (Nat.le_trans S1.out d3.size) d4.size);clear Q1 Q2 hK' o3 g3 d3 o4 g4 d4 M3 M4 E3 E4 O2 M1 B1 S1;go_upto_region 8 with fail;refine aB [0,0,0,2,0,0,2,0] (by kernel_rfl) (by kernel_rfl) (fun ops' K2 hK2=> ?_)
   repeat (first|((with_reducible refine zq0 ?_);refine zq0a ?_)|((with_reducible refine zq1 ?_);refine zq1a ?_))
   refine bE O5.out.drew (M5.out.drew.rdMX HX.out HY.out) rfl rfl underlying22 bM (by rw[List.length_append,List.length_append];omega) S5.out (fun w6 v6 o6 g6 d6=> ?_);simp only[Act.put,zz1,zz2,zz3]
   repeat (first|((with_reducible refine zq0 ?_);refine zq0a ?_)|((with_reducible refine zq1 ?_);refine zq1a ?_))
   have M6:=M5.out.drew.grown g6 (O5.out.apart (Nat.lt_succ_self _));have E6:=B5.out.drew.trans (d6.mono (Nat.le_succ _));have hlx:=HX.out;refine bE o6 (M6.rdMY HX.out HY.out) rfl rfl underlying22 bM (by rw[List.length_append,List.length_append,List.length_append];omega) (Nat.le_trans S5.out d6.size) (fun w7 v7 o7 g7 d7=> ?_);simp only[Act.put,zz1,zz2,zz3]
   repeat (first|((with_reducible refine zq0 ?_);refine zq0a ?_)|((with_reducible refine zq1 ?_);refine zq1a ?_))
   refine az (hK2 _ _ ?_);have O8:=hid (o7.base (Nat.le_succ w.heap.size));have B8:=hid (E6.trans (d7.mono (Nat.le_succ _)));clear o6 g6 d6 M6 E6 o7 g7 d7 hK2 O5 M5 B5 S5;go_wp2;refine bodyPost_ret (results_tmp rfl _ _ _) rfl ?_;exact⟨_,rfl,O8.out,B8.out⟩
end Go.Proofs.YtddkbkbpogcffaaGreatDoor
