/-hctr:what it computes,plain;either direction undoes the other one-/
import Derived.Test.YtddkbkbpogcffaaGreatDoorMGv
import Derived.Test.YtddkbkbpogcffaaGreatDoorMIi
import Derived.Test.YtddkbkbpogcffaaGreatDoorMHk
namespace Go.Proofs.YtddkbkbpogcffaaGreatDoor
open Go.Proofs.Tryz
open Lib (hid)
set_option linter.unusedSimpArgs false
set_option linter.unusedVariables false
set_option maxRecDepth 100000
set_option maxHeartbeats 1600000
open Go.RowKit
def padL(l:Y8)(m:Nat):Y8:=l++ac 8 (bV l.length m)
theorem pm(l:Y8):(padL l 16).length=l.length+bV l.length 16:=by simp[padL]
def valR(one:W2)(s l:Y8):Y8:=valK one s (padL l 16) ((padL l 16).length/16)
theorem xg(one:W2)(s l:Y8)(h:s.length=16):(valR one s l).length=16:=pk _ _ _ h _
def mf(h l:Y8):Y8:=valR (oneW h) (ac 8 16) l
theorem lP(h l:Y8):(mf h l).length=16:=xg _ _ _ rfl
def lenB(n:Nat)(whole:Bool):Y8:=le64 (BitVec.ofNat 64 n<<<4|||(if whole then 2#64 else 3#64))++le64 (BitVec.ofNat 64 n>>>60)
theorem kF(n:Nat)(whole:Bool):(lenB n whole).length=16:=rfl
def rI(M:Y8):Y8:=if M.length %16=0 then M else padL (M++ [1#8]) 16
def encB(T M:Y8):Y8:=lenB T.length (M.length %16==0)++(padL T 16++rI M)
def kG(h T M:Y8):Y8:=mf h (encB T M)
@[simp] theorem jE(h T M:Y8):(kG h T M).length=16:=lP _ _
theorem zv(a b:Y8):ar a b=ar b a:=by
 unfold ar;congr 1;funext i;exact BitVec.xor_comm _ _
def oneH(h T M:Y8):Y8:=ar (M.take 16) (kG h T (M.drop 16))
def lQ(S:Y8→Y8)(L:Y8)(m:Nat)(h lb T M:Y8):Y8:=
 iX L m (ar (ar (oneH h T M) (S (oneH h T M))) lb) (M.drop 16)
def ew(S:Y8→Y8)(L:Y8)(m:Nat)(h lb T M:Y8):Y8:=
 ar (S (oneH h T M)) (kG h T (lQ S L m h lb T M))++lQ S L m h lb T M
@[simp] theorem po(h T M:Y8):(oneH h T M).length=16:=ak _ _
theorem vM(S:Y8→Y8)(L:Y8)(m:Nat)(h lb T M:Y8):(lQ S L m h lb T M).length=M.length-16:=by
 rw[lQ,fN,List.length_drop]
theorem mQ(S:Y8→Y8)(L:Y8)(m:Nat)(h lb T M:Y8)(hM:16≤M.length):(ew S L m h lb T M).length=M.length:=by
 rw[ew,List.length_append,vM,ak];omega
theorem zw(S:Y8→Y8)(L:Y8)(m:Nat)(h lb T M:Y8):(ew S L m h lb T M).take 16=ar (S (oneH h T M)) (kG h T (lQ S L m h lb T M)):=by
 rw[ew,List.take_left' (ak _ _)]
theorem rJ(S:Y8→Y8)(L:Y8)(m:Nat)(h lb T M:Y8):(ew S L m h lb T M).drop 16=lQ S L m h lb T M:=by
 rw[ew,List.drop_left' (ak _ _)]
theorem CD(S:Y8→Y8)(hS: ∀x:Y8,x.length=16→(S x).length=16)(L:Y8)(m:Nat)(h lb T M:Y8):oneH h T (ew S L m h lb T M)=S (oneH h T M):=by
 rw[oneH,zw,rJ,dE _ _ (hS _ (po _ _ _))]
theorem uj(S R:Y8→Y8)(hS: ∀x:Y8,x.length=16→(S x).length=16)(hR: ∀x:Y8,x.length=16→R (S x)=x)(L:Y8)(m:Nat)(h lb T M:Y8)(hM:16≤M.length):
  ew R L m h lb T (ew S L m h lb T M)=M:=by
 have h1:=CD S hS L m h lb T M;have h2:R (oneH h T (ew S L m h lb T M))=oneH h T M:=by rw[h1,hR _ (po _ _ _)]
 have h3:lQ R L m h lb T (ew S L m h lb T M)=M.drop 16:=by
  rw[lQ,h2,h1,rJ,lQ,zv (S (oneH h T M)) (oneH h T M)];exact AX _ _
 rw[ew,h2,h3,oneH,dE _ _ (by rw[List.length_take];omega),List.take_append_drop]
open Go.RowKit
theorem pq(n:Nat)(b:Bool)(w:World)(_hn:n≤70368744177664):
  Calls prog 287 #[.int .i64 n,.bool b] w fun e w' =>e= .returned (.agg (A8 (lenB n b)))∧Below w.heap.size w w':=by
 obtain⟨W,hW⟩: ∃W,(w.alloc (.cells (A8 (ac 8 16)) 42))=W:=⟨_,rfl⟩;obtain⟨b0,hb,hz⟩:=new1 _ _ _ _ hW;have P0:=hid b0;have B0:=hid hb;have n0: ¬(n:Int)<0:=by omega
 obtain⟨N,hN⟩: ∃N,N=BitVec.ofNat 64 n:=⟨_,rfl⟩;have f1: ∀w,(convert 3 23 (.int .i64 (n:Int))).run prog w= .ok (v64 N) w:=fun w=>by
  rw[qC w _ _ _ underlying3 underlying23,hN,BitVec.ofInt_natCast]
 have f2: ∀t,binOp .shl t (v64 N) (.int .u64 4)=pure (v64 (N<<<4)):=fun t=>jy t .u64 N 4 (by decide);have f3: ∀t,binOp .shr t (v64 N) (.int .u64 60)=pure (v64 (N>>>60)):=fun t=>jz t .u64 N 60 (by decide);obtain⟨X,hX⟩: ∃X,X=N<<<4:=⟨_,rfl⟩;obtain⟨Y,hY⟩: ∃Y,Y=N>>>60:=⟨_,rfl⟩;rw[←hX]at f2;rw[←hY]at f3;have f4: ∀t,binOp .or t (v64 X) (.int .u64 3)=pure (v64 (X|||3#64)):=fun t=>kr t X 3#64;have f5: ∀t,binOp .or t (v64 X) (.int .u64 2)=pure (v64 (X|||2#64)):=fun t=>kr t X 2#64;obtain⟨E3,h3⟩: ∃E,E=X|||3#64:=⟨_,rfl⟩;obtain⟨E2,h2⟩: ∃E,E=X|||2#64:=⟨_,rfl⟩;rw[←h3]at f4;rw[←h2]at f5;have hfin:lenB n b=le64 (if b then E2 else E3)++le64 Y:=by
  rw[lenB,←hN,←hX,←hY,h2,h3];cases b<;>rfl
 rw[hfin];clear hb hz b0 hX hY h2 h3 hN hfin;cases b
 all_goals
  go_enter func287,ntmps287;go_wp2_with fail;refine(dK (_,Y) W).mono ?_;rintro e w1 ⟨rfl,d1⟩;have z1:=P0.out.belowAll d1;have r3:=z1.row;have r4:=z1.whole;have B1:=B0.out.trans (d1.mono B0.out.size);clear d1 hW;go_wp2;refine aj (A8 (le64 _++le64 Y)) rfl rfl rfl (isAgg42 _) (sizeOf42 _) (by rw[ag];rfl) (an _ r4) ⟨rfl,below_setRow B1 (Nat.le_refl _) _⟩
open Go.RowKit
theorem Fa(h l:Y8)(hh:h.length=16)(a:Option Addr)(n c:Nat)(w:World)(hr:Rd8 w a n c l)(hsz:n≤70368744177664):
  Calls prog 281 #[.agg (A8 h),.slice a n c] w fun e w' =>e= .returned (.agg (A8 (mf h l)))∧Below w.heap.size w w':=by
 obtain⟨W,hW⟩: ∃W,(w.alloc (.cells (A8 h) 42)).alloc (.cells (A8 (ac 8 16)) 42)=W:=⟨_,rfl⟩;obtain⟨b0,b1,hb,hz⟩:=new2 _ _ _ _ _ _ hW;have r0:=b0.row;have Z0:=hid b1;have B0:=hid hb;have R0:=hid (hr.below hb);have hln:=hr.1;have hvl:=lP h l;obtain⟨S,hS⟩: ∃S,S=mf h l:=⟨_,rfl⟩;rw[←hS]at hvl⊢;have HS:=hid hS;clear hS;clear b0 b1 hb hz hr;go_enter func281,ntmps281;go_wp2_with fail;refine(EZ h hh W).mono ?_;rintro e w1 ⟨p,q,rfl,hk,hT,hq,hqp,d1⟩;have K1:=hid hk;have T1:=hid hT;have D1:=hid d1;have Z1:=hid (Z0.out.belowAll d1);have R1:=hid (R0.out.below d1);have B1:=hid (B0.out.trans (d1.mono B0.out.size));have zl:=Z0.out.lt;clear hW r0 hk hT d1;go_wp2_with fail;refine(zt p q (oneW h) (ac 8 16) l rfl a n c w1 R1.out hsz K1.out T1.out (by omega)).mono ?_;rintro e w2 ⟨rfl,hk2,g2⟩;have hB0:=B0.out.size;have B2:=hid (B1.out.grown g2 B1.out.size (fun k hk=>by cases hk;omega));have Z2:=hid (Z1.out.grown g2 (fun e=>by cases e;omega));have hs2:valK (oneW h) (ac 8 16) (l++ac 8 (bV n 16)) ((l++ac 8 (bV n 16)).length/16)=mf h l:=by
  rw[mf,valR,padL,hln]
 rw[hs2,←HS.out]at hk2;have K2:=hid hk2;clear hk2 g2 hs2;go_wp2_with fail;refine(zr p _ S hvl w2 K2.out).mono ?_;rintro e w3 ⟨rfl,d3⟩;have z3:=Z2.out.belowAll d3;have r3:=z3.row;have r4:=z3.whole;have B3:=B2.out.trans (d3.mono B2.out.size);clear d3;go_wp2;refine aj (A8 S) rfl rfl rfl (isAgg42 _) (sizeOf42 _) (by rw[ag];exact hvl) (an _ r4) ⟨rfl,below_setRow B3 (by omega) _⟩
open Go.RowKit
theorem xh(t m:Y8)(a b:Option Addr)(n c k d:Nat)(w:World)(ht:Rd8 w a n c t)(hm:Rd8 w b k d m)(hn:n≤1000000)(hk:k≤1000000):
  Calls prog 282 #[.slice a n c,.slice b k d] w fun e w' => ∃v,e= .returned v∧Own8 w' w.heap.size 5 v (encB t m)∧Below w.heap.size w w':=by
 have TN:=hid ht.1;have hml:=ht.1;have hkl:=hm.1;obtain⟨R,hR⟩: ∃R,R=k %16:=⟨_,rfl⟩;have f1:(k:Int).tmod 16=(R:Int):=by rw[hR];rfl
 have f2:IntKind.i64.wrap (R:Int)=(R:Int):=by rw[IntKind.wrap_i64];omega
 have T0:=hid ht;have M0:=hid hm;by_cases h0:R=0
 ·have hw:(m.length %16==0)=true:=by rw[hkl,←hR,h0];rfl
  have hlast:rI m=m:=by rw[rI,if_pos (by rw[hkl,←hR,h0])]
  have hfin:encB t m=lenB n true++(t++ac 8 (bV n 16)++m):=by rw[encB,hw,hlast,padL,hml]
  have HFl:=kF n true;obtain⟨F,hF⟩: ∃F,F=lenB n true:=⟨_,rfl⟩;rw[hfin,←hF];rw[←hF]at HFl;have HF:=hid hF;subst h0;clear hR hw hlast hfin hF hml hkl ht hm;go_enter func282,ntmps282;go_wp2_with fail;refine(pq n true w (by omega)).mono ?_;rintro e w1 ⟨rfl,d1⟩;rw[←HF.out];have PV:=hid (Blk.new w1 42 (A8 F));have BV:=hid (d1.alloc d1.size (.cells (A8 F) 42));have TV:=hid ((T0.out.below d1).alloc (.cells (A8 F) 42));have MV:=hid ((M0.out.below d1).alloc (.cells (A8 F) 42));clear d1;go_upto_region 5 with fail;generalize w1.alloc (.cells (A8 F) 42)=V at*;generalize w1.heap.size=g at*;refine aw [0,0,2,0,2,2,0] (by kernel_rfl) (by kernel_rfl) (fun C0 hC0 hCb K' hK' => ?_)
  repeat (first|((with_reducible refine hq0 ?_);refine hq0a ?_)|((with_reducible refine hq5 ?_);refine hq5a ?_)|((with_reducible refine hq1 ?_);refine hq1a ?_))
  refine hqc ?_;go_simp;refine af ?_;refine(ie t a n c 16 V.drew TV.out.drew (by omega) (by omega) (by omega)).mono ?_;rintro e w4 ⟨v4,rfl,o4,d4⟩;refine⟨_,rfl,d4,?_⟩
  try simp only[Act.put,zz1,zz2,zz3]
  obtain⟨a4,c4,rfl,hr4,_⟩:=o4.rd
  repeat (first|((with_reducible refine hq0 ?_);refine hq0a ?_)|((with_reducible refine hq5 ?_);refine hq5a ?_)|((with_reducible refine hq1 ?_);refine hq1a ?_))
  refine vT (size:=1) rfl rfl rfl rfl rfl rfl (by omega) (by omega) underlying113 od (fun w5 g5 b5 d5=> ?_);simp only[Act.put,zz1,zz2,zz3];have rF:Rd8 w5 (some ⟨g,0,none⟩) 16 16 F:=by
   have:=((PV.out.drew.belowAll (d4.trans (d5.mono d4.size))).rd8 16 (by omega) (by rw[HFl];unfold maxLen;omega))
   rwa [HFl,List.take_of_length_le (by omega)]at this
  have hsl:=sls3 rF (hr4.below d5) (MV.out.drew.below (d4.trans (d5.mono d4.size)));have hfl:([F,t++ac 8 (bV n 16),m]:List (Y8)).flatten.length≤70368744177664:=by
   have h1:=MV.out.1;have h2:=TN.out;have h3:bV n 16≤16:=by unfold bV;omega
   simp only[List.flatten_cons,List.flatten_nil,List.length_append,List.length_nil,ah];omega
  refine hqc ?_;go_simp;refine af ?_;refine(jF g5 _ _ 3 w5 b5 hsl rfl (by omega) hfl).mono ?_;rintro e w6 ⟨v6,rfl,o6,d6⟩;refine⟨_,rfl,d6,?_⟩
  try simp only[Act.put,zz1,zz2,zz3]
  repeat (first|((with_reducible refine hq0 ?_);refine hq0a ?_)|((with_reducible refine hq5 ?_);refine hq5a ?_)|((with_reducible refine hq1 ?_);refine hq1a ?_))
  refine aU [] rfl (by simp) (az (hK' _ _ ?_));have D6:=((d4.trans (d5.mono d4.size)).trans (d6.mono (d4.trans (d5.mono d4.size)).size));have B6:=hid (BV.out.drew.trans (D6.mono BV.out.size));have O6:=hid (Own8.base o6 (Nat.le_trans BV.out.size (d4.trans (d5.mono d4.size)).size));clear hC0 hCb hK' d4 d5 d6 D6 o6 hsl hfl rF b5 hr4 o4;go_wp2;go_ret;exact⟨_,rfl,by simpa[List.flatten_cons,TN.out]using O6.out,B6.out⟩
 ·have hw:(m.length %16==0)=false:=by rw[hkl,←hR];simpa using h0
  have hlast:rI m=m++ [1#8]++ac 8 (bV (k+1) 16):=by
   rw[rI,if_neg (by rw[hkl,←hR];exact h0),padL,List.length_append,hkl];rfl
  have hfin:encB t m=lenB n false++(t++ac 8 (bV n 16)++(m++ [1#8]++ac 8 (bV (k+1) 16))):=by rw[encB,hw,hlast,padL,hml]
  have HFl:=kF n false;obtain⟨F,hF⟩: ∃F,F=lenB n false:=⟨_,rfl⟩;rw[hfin,←hF];rw[←hF]at HFl;have HF:=hid hF;have hml2:(m++ [1#8]++ac 8 (bV (k+1) 16)).length=k+1+bV (k+1) 16:=by
   rw[List.length_append,List.length_append,hkl,ah];rfl
  obtain⟨X,hX⟩: ∃X,X=m++ [1#8]++ac 8 (bV (k+1) 16):=⟨_,rfl⟩;rw[←hX]at hml2⊢;have HX:=hid hX;have r0:((R:Int)==0)=false:=by simp;omega
  have hXk:X.length≤1000100:=by
   have:bV (k+1) 16≤16:=by unfold bV;omega
   omega
  clear hR hw hlast hfin hF hml hkl ht hm hX hml2;go_enter func282,ntmps282;go_wp2_with fail;refine(pq n false w (by omega)).mono ?_;rintro e w1 ⟨rfl,d1⟩;rw[←HF.out];have PU:=hid (Blk.new w1 42 (A8 F));have BU:=hid (d1.alloc d1.size (.cells (A8 F) 42));have TU:=hid ((T0.out.below d1).alloc (.cells (A8 F) 42));have MU:=hid ((M0.out.below d1).alloc (.cells (A8 F) 42));clear d1;go_upto_region 4 with fail;generalize w1.alloc (.cells (A8 F) 42)=U at*;generalize w1.heap.size=g at*;go_wp2_with fail;have hmk:=mb m b k d 16 1#8 U MU.out (by omega) (by omega) (by omega);rw[show v8 1#8=Value.int .u8 1 from rfl]at hmk;refine hmk.mono ?_;clear hmk;rintro e V ⟨v,rfl,own,d2⟩;rw[←HX.out]at own;obtain⟨b2,c2,rfl,hr2,_⟩:=own.rd;have PV:=hid (PU.out.belowAll d2);have BV:=hid (BU.out.trans (d2.mono BU.out.size));have TV:=hid (TU.out.below d2);have MV:=hid hr2;clear own hr2 d2;go_upto_region 5 with fail;refine aw [0,0,2,0,2,2,0] (by kernel_rfl) (by kernel_rfl) (fun C0 hC0 hCb K' hK' => ?_)
  repeat (first|((with_reducible refine hq0 ?_);refine hq0a ?_)|((with_reducible refine hq5 ?_);refine hq5a ?_)|((with_reducible refine hq1 ?_);refine hq1a ?_))
  refine hqc ?_;go_simp;refine af ?_;refine(ie t a n c 16 V.drew TV.out.drew (by omega) (by omega) (by omega)).mono ?_;rintro e w4 ⟨v4,rfl,o4,d4⟩;refine⟨_,rfl,d4,?_⟩
  try simp only[Act.put,zz1,zz2,zz3]
  obtain⟨a4,c4,rfl,hr4,_⟩:=o4.rd
  repeat (first|((with_reducible refine hq0 ?_);refine hq0a ?_)|((with_reducible refine hq5 ?_);refine hq5a ?_)|((with_reducible refine hq1 ?_);refine hq1a ?_))
  refine vT (size:=1) rfl rfl rfl rfl rfl rfl (by omega) (by omega) underlying113 od (fun w5 g5 b5 d5=> ?_);simp only[Act.put,zz1,zz2,zz3];have rF:Rd8 w5 (some ⟨g,0,none⟩) 16 16 F:=by
   have:=((PV.out.drew.belowAll (d4.trans (d5.mono d4.size))).rd8 16 (by omega) (by rw[HFl];unfold maxLen;omega))
   rwa [HFl,List.take_of_length_le (by omega)]at this
  have hsl:=sls3 rF (hr4.below d5) (MV.out.drew.below (d4.trans (d5.mono d4.size)));have hfl:([F,t++ac 8 (bV n 16),X]:List (Y8)).flatten.length≤70368744177664:=by
   have h1:=MV.out.1;have h2:=TN.out;have h3:bV n 16≤16:=by unfold bV;omega
   simp only[List.flatten_cons,List.flatten_nil,List.length_append,List.length_nil,ah];omega
  refine hqc ?_;go_simp;refine af ?_;refine(jF g5 _ _ 3 w5 b5 hsl rfl (by omega) hfl).mono ?_;rintro e w6 ⟨v6,rfl,o6,d6⟩;refine⟨_,rfl,d6,?_⟩
  try simp only[Act.put,zz1,zz2,zz3]
  repeat (first|((with_reducible refine hq0 ?_);refine hq0a ?_)|((with_reducible refine hq5 ?_);refine hq5a ?_)|((with_reducible refine hq1 ?_);refine hq1a ?_))
  refine aU [] rfl (by simp) (az (hK' _ _ ?_));have D6:=((d4.trans (d5.mono d4.size)).trans (d6.mono (d4.trans (d5.mono d4.size)).size));have B6:=hid (BV.out.drew.trans (D6.mono BV.out.size));have O6:=hid (Own8.base o6 (Nat.le_trans BV.out.size (d4.trans (d5.mono d4.size)).size));clear hC0 hCb hK' d4 d5 d6 D6 o6 hsl hfl rF b5 hr4 o4;go_wp2;go_ret;exact⟨_,rfl,by simpa[List.flatten_cons,TN.out]using O6.out,B6.out⟩
open Go.RowKit
theorem xi(t m:Y8):(encB t m).length≤t.length+m.length+64:=by
 have h1:bV t.length 16≤16:=by unfold bV;omega
 have h2:(rI m).length≤m.length+20:=by
  unfold rI
  split
  ·omega
  ·rw[pm,List.length_append];have:bV (m.length+1) 16≤16:=by unfold bV;omega
   simp only[List.length_cons,List.length_nil];simp only[Nat.zero_add];omega
 rw[encB,List.length_append,List.length_append,kF,pm];omega
theorem uk(h t m:Y8)(hh:h.length=16)(a b:Option Addr)(n c k d:Nat)(w:World)(ht:Rd8 w a n c t)(hm:Rd8 w b k d m)(hn:n≤1000000)(hk:k≤1000000):
  Calls prog 279 #[.agg (A8 h),.slice a n c,.slice b k d] w fun e w' =>e= .returned (.agg (A8 (kG h t m)))∧Below w.heap.size w w':=by
 obtain⟨W,hW⟩: ∃W,(w.alloc (.cells (A8 h) 42)).alloc (.cells (A8 (ac 8 16)) 42)=W:=⟨_,rfl⟩;obtain⟨b0,b1,hb,hz⟩:=new2 _ _ _ _ _ _ hW;have P0:=hid b0;have Z0:=hid b1;have B0:=hid hb;have T0:=hid (ht.below hb);have M0:=hid (hm.below hb);have hel:=xi t m;rw[ht.1,hm.1]at hel;have hHl:(kG h t m).length=16:=jE h t m;obtain⟨H,hH⟩: ∃H,H=kG h t m:=⟨_,rfl⟩;rw[←hH]at hHl⊢;have HH:=hid hH;clear b0 b1 hb hz ht hm hH;go_enter func279,ntmps279;go_upto_region 1 with fail;clear hW;refine aw [5,0,0,2,2,3] (by kernel_rfl) (by kernel_rfl) (fun C hC0 hCb K' hK' => ?_);have R0: ∀w1,C w1→aF w1 w.heap.size=A8 h:=fun w1 h=>(P0.out.drew.belowAll (hCb w1 h)).row
 repeat (first|((with_reducible refine hq0 ?_);refine hq0a ?_)|((with_reducible refine hq5 ?_);refine hq5a ?_ (fun _ hcw=>by have f:=R0 _ hcw;go_simp;(try go_bits);exact rfl))|((with_reducible refine hq1 ?_);refine hq1a ?_))
 refine hqc ?_;go_simp;refine af ?_;refine(xh t m a b n c k d W.drew T0.out.drew M0.out.drew hn hk).mono ?_;rintro e w1 ⟨v1,rfl,o1,d1⟩;refine⟨_,rfl,d1,?_⟩
 try simp only[Act.put,zz1,zz2,zz3]
 obtain⟨a1,c1,rfl,hr1,_⟩:=o1.rd;refine hqc ?_;go_simp;refine af ?_;refine(Fa h (encB t m) hh a1 _ c1 w1 hr1 (by omega)).mono ?_;rintro e w2 ⟨rfl,d2⟩;refine⟨_,rfl,d2,?_⟩
 try simp only[Act.put,zz1,zz2,zz3]
 rw[show mf h (encB t m)=H from HH.out.symm];refine aU [2] rfl (by simp) ?_;have d12:=d1.trans (d2.mono d1.size);refine aq (Z0.out.drew.belowAll d12) rfl rfl (by rw[ag,ag,hHl,ah]) (aH _) (by rw[ag,hHl];exact sizeOf42 _) (fun w3 k3 g3 s3=> ?_);refine az (hK' _ _ ?_);have B3:=hid ((B0.out.drew.trans (d12.mono B0.out.size)).grown g3 (Nat.le_trans B0.out.size d12.size) (fun k hk=>by cases hk;omega));have r3:=k3.row;clear R0 hC0 hCb hK' d1 d2 d12 o1 hr1 g3 s3 hel;go_wp2;refine aj (A8 H) rfl rfl rfl (isAgg42 _) (sizeOf42 _) (by rw[ag];exact hHl) r3 ⟨rfl,B3.out⟩
end Go.Proofs.YtddkbkbpogcffaaGreatDoor
