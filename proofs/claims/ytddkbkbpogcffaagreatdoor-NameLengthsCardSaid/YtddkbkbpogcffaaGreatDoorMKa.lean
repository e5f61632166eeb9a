/-ezkey:plus (by genplus.py)-/
import Derived.Test.YtddkbkbpogcffaaGreatDoorMHq
import Derived.Test.YtddkbkbpogcffaaGreatDoorMKy
import Derived.Test.YtddkbkbpogcffaaGreatDoorMGb
import Derived.Test.YtddkbkbpogcffaaGreatDoorMHk
import Derived.Test.YtddkbkbpogcffaaGreatDoorMGh
import Derived.Test.YtddkbkbpogcffaaGreatDoorMKe
namespace Go.Proofs.YtddkbkbpogcffaaGreatDoor
open Go.Proofs.Tryz
open Lib (hid)
set_option linter.unusedSimpArgs false
set_option linter.unusedVariables false
set_option maxRecDepth 100000
set_option maxHeartbeats 1600000
open Go.RowKit
def sumK(a L:Y8):Nat→Y8
 |0=>a
 |j+1=>ar (sumK a L j) (aI L j)
theorem pJ(a L:Y8)(h:a.length=16): ∀j,(sumK a L j).length=16
 |0=>h
 |_+1=>ak _ _
theorem Jg(a x:Y8)(hx:x.length=16):sumK a x 1=ar a x:=by
 have e0:aI x 0=x:=by rw[aI,Nat.zero_mul,List.drop_zero,List.take_of_length_le (by omega)]
 rw[sumK,sumK,e0]
theorem MJ(a x y:Y8)(hx:x.length=16)(hy:y.length=16):sumK a (x++y) 2=ar (ar a x) y:=by
 have e0:aI (x++y) 0=x:=by rw[aI,Nat.zero_mul,List.drop_zero,List.take_left' hx]
 have e1:aI (x++y) 1=y:=by rw[aI,Nat.one_mul,List.drop_left' hx,List.take_of_length_le (by omega)]
 rw[sumK,sumK,sumK,e0,e1]
theorem ov(a L:Y8)(g m c:Nat)(w:World)(hr:RdS w 16 (some ⟨g,0,none⟩) m c L)(hm:m≤3)(ha:a.length=16):
  Calls prog 323 #[.agg (A8 a),.slice (some ⟨g,0,none⟩) m c] w fun e w' =>e= .returned (.agg (A8 (sumK a L m)))∧Below w.heap.size w w':=by
 obtain⟨W,hW⟩: ∃W,(w.alloc (.cells (A8 a) 42)).alloc (.cells (A8 (ac 8 16)) 42)=W:=⟨_,rfl⟩;obtain⟨b0,b1,hb,hz⟩:=new2 _ _ _ _ _ _ hW;have P0:=hid b0;have Z0:=hid b1;have B0:=hid hb;have RR:=hid hr;have hl:=hr.1;clear b0 b1 hb hz hr;go_enter func323,ntmps323;go_wp2_with fail;go_loopw [10] (fun i wr=> ∃j:Nat,j≤m∧i= .int .i64 j∧Blk wr (w.heap.size+1) 42 (A8 (ac 8 16))∧Blk wr w.heap.size 42 (A8 (sumK a L j))∧Below w.heap.size w wr) (fun i _=>m-(intOf i).toNat)
 case atStart=>exact⟨0,Nat.zero_le _,rfl,Z0.out,P0.out,B0.out⟩
 case round=>
  obtain⟨j,hj,rfl,hZ,hP,hB⟩:=hrel;have Z1:=hid hZ;have P1:=hid hP;have B1:=hid hB;clear hZ hP hB Z0 P0 B0 hW;by_cases hjm:j<m
  ·have j1:(j:Int)<(m:Int):=by omega
   have j0:(0:Int)≤(j:Int):=by omega
   have c3:=(RR.out.below B1.out).row (t:=42) (isAgg42 _) (sizeOf42 _) j hjm;rw[Nat.zero_add,show(L.drop (j*16)).take 16=aI L j from rfl]at c3;have hXl:=qu L m j hl hjm;have hAl:=pJ a L ha j;obtain⟨X,hX⟩: ∃X,X=aI L j:=⟨_,rfl⟩;obtain⟨A,hA⟩: ∃A,A=sumK a L j:=⟨_,rfl⟩;rw[←hX]at c3 hXl;rw[←hA]at P1 hAl;have hfin:ar A X=sumK a L (j+1):=by rw[hX,hA,sumK]
   have HF:=hid hfin;have X1:=hid (Blk.new wr 42 (A8 X));have Z2:=hid (Z1.out.alloc (.cells (A8 X) 42));have P2:=hid (P1.out.alloc (.cells (A8 X) 42));have B2:=hid (B1.out.alloc B1.out.size (.cells (A8 X) 42));have hne:wr.heap.size≠w.heap.size:=by have:=P1.out.lt;omega
   have hge:w.heap.size≤wr.heap.size:=B1.out.size;clear hX hA hfin Z1 P1 B1;go_wp2_with fail;generalize wr.alloc (.cells (A8 X) 42)=V at*;generalize wr.heap.size=q at*;have huf:=lf A X hAl;obtain⟨f,hf⟩: ∃f:Nat→BitVec 8,f=fun i=>nth A i^^^nth X i:=⟨_,rfl⟩;rw[←hf]at huf;have HU:=hid huf;have HFf:=hid hf;clear huf hf c3;go_loopw [14] (fun i2 wi=> ∃k:Nat,k≤16∧i2= .int .i64 k∧Blk wi (w.heap.size+1) 42 (A8 (ac 8 16))∧Blk wi w.heap.size 42 (A8 (upd f A k))∧Blk wi q 42 (A8 X)∧Below w.heap.size w wi) (fun i2 _=>16-(intOf i2).toNat)
   case atStart=>exact⟨0,Nat.zero_le _,rfl,Z2.out,by rw[fR];exact P2.out,X1.out,B2.out⟩
   case round=>
    obtain⟨k,hk,rfl,hZ,hP,hX,hB⟩:=hrel;have Z3:=hid hZ;have P3:=hid hP;have X3:=hid hX;have B3:=hid hB;clear hZ hP hX hB Z2 P2 X1 B2;by_cases hk16:k<16
    ·have k1:(k:Int)<16:=by omega
     have k0:(0:Int)≤(k:Int):=by omega
     have kx:k<A.length:=by omega
     have c1:=P3.out.drew.cell8 (bL f A k) k kx;have c2:=X3.out.drew.cell8 hXl k hk16;rw[qW f A k kx]at c1;go_upto_region 7 with fail;refine aB [0,0,1,0,0,1,0,0,2] (by kernel_rfl) (by kernel_rfl) (fun ops' K2 hK2=> ?_)
     repeat (first|((with_reducible refine zq0 ?_);refine zq0a ?_)|((with_reducible refine zq1 ?_);refine zq1a ?_))
     refine dy P3.out.drew rfl rfl (by rw[bL];exact kx) (sizeOf5 _) (fun w1 kk1 g1 s1=> ?_);refine az (hK2 _ _ ?_);rw[show nth A k^^^nth X k=f k by rw[HFf.out],gC f A k kx]at kk1;have P4:=hid kk1;have X4:=hid (X3.out.drew.grown g1 (by simpa using hne));have Z4:=hid (Z3.out.drew.grown g1 (by simp));have B4:=hid (B3.out.drew.trans (ae g1 (by omega) B3.out.size));clear kk1 g1 s1 c1 c2 hK2 P3 X3 Z3 B3;go_wp2;exact⟨⟨k+1,by omega,by go_num,Z4.out,P4.out,X4.out,B4.out⟩,by simp[intOf];omega⟩
    ·obtain rfl:k=16:=by omega
     have zz:=P3.out;rw[HU.out,HF.out]at zz;have P5:=hid zz;clear zz;go_wp2;exact⟨⟨j+1,by omega,by go_num,Z3.out,P5.out,B3.out⟩,by simp[intOf];omega⟩
  ·obtain rfl:j=m:=by omega
   have hAl:=pJ a L ha j;have r1:=P1.out.row;have r2:=Z1.out.row;have r3:=Z1.out.whole;go_wp2;refine aj (A8 (sumK a L j)) rfl rfl rfl (isAgg42 _) (sizeOf42 _) (by rw[ag];exact hAl) (an _ r3) ⟨rfl,below_setRow B1.out (by omega) _⟩
open Go.RowKit
theorem Ig(a:Y8):upd (dblF a) (ac 8 16) 16=dblB a:=by unfold upd;rfl
theorem pK(a:Y8)(w:World)(ha:a.length=16):
  Calls prog 329 #[.agg (A8 a)] w fun e w' =>e= .returned (.agg (A8 (dblB a)))∧Below w.heap.size w w':=by
 obtain⟨W,hW⟩: ∃W,((w.alloc (.cells (A8 a) 42)).alloc (.cells (A8 (ac 8 16)) 42)).alloc (.cells (A8 (ac 8 16)) 42)=W:=⟨_,rfl⟩;obtain⟨b0,b1,b2,hb,hz⟩:=new3 _ _ _ _ _ _ _ _ hW;have P0:=hid b0;have Z0:=hid b1;have O0:=hid b2;have B0:=hid hb;clear b0 b1 b2 hb hz;obtain⟨f,hf⟩: ∃f:Nat→BitVec 8,f=dblF a:=⟨_,rfl⟩;have HF:=hid hf;clear hf;go_enter func329,ntmps329;go_wp2_with fail;go_loopw [5] (fun i wr=> ∃j:Nat,j≤15∧i= .int .i64 j∧Blk wr w.heap.size 42 (A8 a)∧Blk wr (w.heap.size+1) 42 (A8 (ac 8 16))∧Blk wr (w.heap.size+1+1) 42 (A8 (upd f (ac 8 16) j))∧Below w.heap.size w wr) (fun i _=>15-(intOf i).toNat)
 case atStart=>exact⟨0,by omega,rfl,P0.out,Z0.out,by rw[fR];exact O0.out,B0.out⟩
 case round=>
  obtain⟨j,hj,rfl,hP,hZ,hO,hB⟩:=hrel;have P1:=hid hP;have Z1:=hid hZ;have O1:=hid hO;have B1:=hid hB;clear hP hZ hO hB P0 Z0 O0 B0 hW;have ul:=bL f (ac 8 16);rw[ah]at ul;by_cases hj4:j<15
  ·have j1:(j:Int)<15:=by omega
   have j0:(0:Int)≤(j:Int):=by omega
   have j16:(j:Int)<16:=by omega
   obtain⟨J,hJ⟩: ∃J,J=j+1:=⟨_,rfl⟩;have f1:(j:Int)+1=(J:Int):=by omega
   have f2:IntKind.i64.wrap (J:Int)=(J:Int):=by rw[IntKind.wrap_i64];omega
   have f3:(0:Int)≤(J:Int):=by omega
   have f4:(J:Int)<16:=by omega
   have c1:=P1.out.drew.cell8 ha j (by omega);have c2:=P1.out.drew.cell8 ha J (by omega);have ef:nth a j<<<1|||nth a J>>>7=f j:=by rw[HF.out,dblF,if_neg (by omega),hJ]
   have HJ:=hid hJ;have EF:=hid ef;clear hJ ef;go_upto_region 5 with fail;refine aB [0,0,0,1,0,0,0,0,1,0,0,0,2] (by kernel_rfl) (by kernel_rfl) (fun ops' K2 hK2=> ?_)
   repeat (first|((with_reducible refine zq0 ?_);refine zq0a ?_)|((with_reducible refine zq1 ?_);refine zq1a ?_))
   refine dy O1.out.drew rfl rfl (by rw[ul];omega) (sizeOf5 _) (fun w1 k1 g1 s1=> ?_);refine az (hK2 _ _ ?_);rw[EF.out,gC f (ac 8 16) j (by rw[ah];omega)]at k1;have O2:=hid k1;have P2:=hid (P1.out.drew.grown g1 (by simp;omega));have Z2:=hid (Z1.out.drew.grown g1 (by simp));have B2:=hid (B1.out.drew.trans (ae g1 (by omega) B1.out.size));clear k1 g1 s1 c1 c2 hK2 P1 O1 Z1 B1;go_wp2;have hJ:=HJ.out;exact⟨⟨j+1,by omega,by rw[hJ],P2.out,Z2.out,O2.out,B2.out⟩,by simp[intOf];omega⟩
  ·obtain rfl:j=15:=by omega
   have c1:=P1.out.cell8 ha 15 (by omega);have c2:=P1.out.cell8 ha 0 (by omega);have fo:=O1.out.frozen 15;obtain⟨X,hX⟩: ∃X,X=f 15:=⟨_,rfl⟩;obtain⟨A,hA⟩: ∃A,A=nth a 15:=⟨_,rfl⟩;obtain⟨A0,hA0⟩: ∃A0,A0=nth a 0:=⟨_,rfl⟩;have e15:A<<<1^^^(A0>>>7)*135#8=X:=by rw[hX,hA,hA0,HF.out,dblF,if_pos rfl]
   have cc:=O1.out.cell8 (ul 15) 15 (by omega);have kk:=O1.out.set_ 15 (v8 X);rw[eL,hX,gC f (ac 8 16) 15 (by rw[ah];omega),HF.out,Ig,←HF.out,←hX]at kk;rw[←hA]at c1;rw[←hA0]at c2;have Z3:=Z1.out.far (p:=⟨w.heap.size+1+1,15,none⟩) (by simp) (v8 X);have B3:=B1.out.setCell (p:=⟨w.heap.size+1+1,15,none⟩) (by simp;omega) (v8 X);have r1:=kk.row;have r2:=Z3.row;have r3:=Z3.whole;have HB:=hid B3;have hl:=iR a;clear hX hA hA0 kk Z3 B3 P1 O1 Z1 B1 ul;go_wp2;refine aj (A8 (dblB a)) rfl rfl rfl (isAgg42 _) (sizeOf42 _) (by rw[ag];exact hl) (an _ r3) ⟨rfl,below_setRow HB.out (by omega) _⟩
theorem FG(a b:Y8)(q:Bool)(w:World)(ha:a.length=16)(hb16:b.length=16):
  Calls prog 328 #[.agg (A8 a),.agg (A8 b),.bool q] w fun e w' =>e= .returned (.agg (A8 (if q=true then ar a b else a)))∧Below w.heap.size w w':=by
 obtain⟨W,hW⟩: ∃W,((w.alloc (.cells (A8 a) 42)).alloc (.cells (A8 b) 42)).alloc (.cells (A8 (ac 8 16)) 42)=W:=⟨_,rfl⟩;obtain⟨b0,b1,b2,hb,hz⟩:=new3 _ _ _ _ _ _ _ _ hW;have P0:=b0.drew.rd8 16 (by omega) (by rw[ha];unfold maxLen;omega);have Q0:=b1.drew.rd8 16 (by omega) (by rw[hb16];unfold maxLen;omega);rw[List.take_of_length_le (by omega),ha]at P0;rw[List.take_of_length_le (by omega),hb16]at Q0;have PP:=hid P0;have QQ:=hid Q0;have P1:=hid b0;have Z0:=hid b2;have B0:=hid hb;clear b0 b1 b2 hb hz P0 Q0;go_enter func328,ntmps328;cases q with
 |false=>
  rw[if_neg (by simp)];have r1:=P1.out.row;have r2:=Z0.out.row;have r3:=Z0.out.whole;go_wp2;refine aj (A8 a) rfl rfl rfl (isAgg42 _) (sizeOf42 _) (by rw[ag];exact ha) (an _ r3) ⟨rfl,below_setRow B0.out (by omega) _⟩
 |true=>
  rw[if_pos rfl];go_upto_region 3 with fail;clear hW;refine aB [0,0,2,2,2] (by kernel_rfl) (by kernel_rfl) (fun ops' K2 hK2=> ?_)
  repeat (first|((with_reducible refine zq0 ?_);refine zq0a ?_)|((with_reducible refine zq1 ?_);refine zq1a ?_))
  (with_reducible refine bC rfl ?_)
  go_simp;refine af ?_;refine(fK a b _ _ 16 16 16 16 W.drew PP.out QQ.out (by omega)).mono ?_;rintro e w1 ⟨v1,rfl,o1,b1⟩;refine⟨_,rfl,?_⟩
  try simp only[Act.put,zz1,zz2,zz3]
  obtain⟨a1,c1,rfl,hr1,_⟩:=o1.rd;have hxl:(xorl a b).length=16:=by rw[aJ,ha,hb16];rfl
  rw[hxl]at hr1⊢
  (with_reducible refine bC rfl ?_)
  go_simp;refine af ?_;refine(bD (xorl a b) a1 16 c1 w1 hr1).mono ?_;rintro e w2 ⟨rfl,b2⟩;refine⟨_,rfl,?_⟩
  try simp only[Act.put,zz1,zz2,zz3]
  rw[zc a b ha hb16];have b12:=b1.trans (b2.mono b1.size);have hl:=ak a b;refine aq (Z0.out.drew.belowAll b12) rfl rfl (by rw[ag,ag,hl,ah]) (aH _) (by rw[ag,hl];exact sizeOf42 _) (fun w3 k3 g3 s3=> ?_);refine az (hK2 _ _ ?_);have r3:=k3.row;have d2:=B0.out.drew.trans (b12.mono B0.out.size);have B3:=d2.trans (ae g3 (by omega) d2.size);clear o1 hr1 b1 b2 b12 g3 s3 hK2 PP QQ Z0 d2 P1;go_wp2;refine aj (A8 (ar a b)) rfl rfl rfl (isAgg42 _) (sizeOf42 _) (by rw[ag];exact hl) r3 ⟨rfl,B3⟩
theorem MM(x:BitVec 64):(x&&&1#64==1#64)=decide (x.toNat %2=1):=by
 rw[Bool.eq_iff_iff];simp[←BitVec.toNat_inj,BitVec.toNat_and,Nat.and_one_is_mod]
theorem oy(N:BitVec 64)(a:Y8)(w:World)(ha:a.length=16):
  Calls prog 325 #[v64 N,.agg (A8 a)] w fun e w' =>e= .returned (.agg (A8 (mulE N.toNat a)))∧Below w.heap.size w w':=by
 obtain⟨W,hW⟩: ∃W,((w.alloc (.cells (A8 a) 42)).alloc (.cells (A8 (ac 8 16)) 42)).alloc (.cells (A8 (ac 8 16)) 42)=W:=⟨_,rfl⟩;obtain⟨b0,b1,b2,hb,hz⟩:=new3 _ _ _ _ _ _ _ _ hW;have P0:=hid b0;have Z0:=hid b1;have O0:=hid b2;have B0:=hid hb;clear b0 b1 b2 hb hz;go_enter func325,ntmps325;go_wp2_with fail;go_loopw [0] (fun v wr=> ∃(x:BitVec 64) (o c:Y8),v=v64 x∧o.length=16∧c.length=16∧mulR x.toNat o c=mulE N.toNat a∧Blk wr w.heap.size 42 (A8 c)∧Blk wr (w.heap.size+1) 42 (A8 (ac 8 16))∧Blk wr (w.heap.size+1+1) 42 (A8 o)∧Below w.heap.size w wr) (fun v _=>(intOf v).toNat)
 case atStart=>exact⟨N,ac 8 16,a,rfl,rfl,ha,rfl,P0.out,Z0.out,O0.out,B0.out⟩
 case round=>
  obtain⟨x,o,c,rfl,ho,hc,hm,hP,hZ,hO,hB⟩:=hrel;have P1:=hid hP;have Z1:=hid hZ;have O1:=hid hO;have B1:=hid hB;have HM:=hid hm;clear hP hZ hO hB P0 Z0 O0 B0 hW hm;by_cases hx:0<x.toNat
  ·obtain⟨q,hq⟩: ∃q,(x&&&1#64==1#64)=q:=⟨_,rfl⟩;obtain⟨U,hU⟩: ∃U,U=(if q=true then ar o c else o):=⟨_,rfl⟩;have hUl:U.length=16:=by
    rw[hU];split
    ·exact ak _ _
    ·exact ho
   have hstep:mulR (x>>>1).toNat U (dblB c)=mulE N.toNat a:=by
    rw[←HM.out,ve x.toNat o c (by omega),hU,←hq,MM];rw[show(x>>>1).toNat=x.toNat/2 by rw[BitVec.toNat_ushiftRight,Nat.shiftRight_eq_div_pow]];simp only[decide_eq_true_eq]
   have hlt:(x>>>1).toNat<x.toNat:=by rw[BitVec.toNat_ushiftRight,Nat.shiftRight_eq_div_pow];omega
   have HS:=hid hstep;have HU:=hid hU;have HL:=hid hlt;clear hstep hU hlt;have r1:=O1.out.row;have r2:=P1.out.row;go_wp2_with fail;refine(FG o c q wr ho hc).mono ?_;rintro e w2 ⟨rfl,hb2⟩;rw[←HU.out];have rr:=(O1.out.belowAll hb2).row;have rw3:=(O1.out.belowAll hb2).whole;have O2:=hid ((O1.out.belowAll hb2).put (A8 U));have Z2:=hid ((Z1.out.belowAll hb2).farRow (k:=w.heap.size+1+1) (by omega) (A8 U));have P2:=hid ((P1.out.belowAll hb2).farRow (k:=w.heap.size+1+1) (by omega) (A8 U));have B2:=hid (below_setRow (B1.out.trans (hb2.mono B1.out.size)) (show w.heap.size≤w.heap.size+1+1 by omega) (A8 U));have r3:=P2.out.row;clear r1 r2 hb2 P1 Z1 O1 B1;go_wp2_with fail;refine(pK c _ hc).mono ?_;rintro e w4 ⟨rfl,hb4⟩;have hdl:=iR c;obtain⟨D,hD⟩: ∃D,D=dblB c:=⟨_,rfl⟩;rw[←hD]at hdl⊢;have HD:=hid hD;have rr5:=(P2.out.belowAll hb4).row;have rw5:=(P2.out.belowAll hb4).whole;have P4:=hid ((P2.out.belowAll hb4).put (A8 D));have Z4:=hid ((Z2.out.belowAll hb4).farRow (k:=w.heap.size) (by omega) (A8 D));have O4:=hid ((O2.out.belowAll hb4).farRow (k:=w.heap.size) (by omega) (A8 D));have B4:=hid (below_setRow (B2.out.trans (hb4.mono B2.out.size)) (Nat.le_refl _) (A8 D));clear hD r3 rr rw3 hb4 P2 Z2 O2 B2;go_wp2;exact⟨⟨x>>>1,U,D,rfl,hUl,hdl,by rw[HD.out];exact HS.out,P4.out,Z4.out,O4.out,B4.out⟩,by have:=HL.out;simp only[intOf,v64];omega⟩
  ·have r1:=O1.out.row;have r2:=Z1.out.row;have r3:=Z1.out.whole;have hfin:o=mulE N.toNat a:=by rw[←HM.out,show x.toNat=0 by omega,vc]
   have HF:=hid hfin;clear hfin;go_wp2;refine aj (A8 o) rfl rfl rfl (isAgg42 _) (sizeOf42 _) (by rw[ag];exact ho) (an _ r3) ⟨by rw[HF.out],below_setRow B1.out (by omega) _⟩
open Go.RowKit
theorem xM(n:Nat)(a:Y8)(w:World)(ha:a.length=16)(hn:n<128):
  Calls prog 327 #[.int .i64 n,.agg (A8 a)] w fun e w' =>e= .returned (.agg (A8 (dblN a n)))∧Below w.heap.size w w':=by
 obtain⟨W,hW⟩: ∃W,(w.alloc (.cells (A8 a) 42)).alloc (.cells (A8 (ac 8 16)) 42)=W:=⟨_,rfl⟩;obtain⟨b0,b1,hb,hz⟩:=new2 _ _ _ _ _ _ hW;have P0:=hid b0;have Z0:=hid b1;have B0:=hid hb;clear b0 b1 hb hz;have n0:(0:Int)≤(n:Int):=by omega
 have n1: ¬(n:Int)<0:=by omega
 have n2:(n:Int)<128:=by omega
 have e1:(n:Int) %128=(n:Int):=by omega
 have e2:(n:Int)/128=0:=by omega
 have e3:(n:Int).tmod 128=(n:Int):=by rw[Int.tmod_eq_emod_of_nonneg n0];exact e1
 have e4:(n:Int).tdiv 128=0:=by rw[Int.tdiv_eq_ediv_of_nonneg n0];exact e2
 go_enter func327,ntmps327;go_wp2_with fail;refine bd 0 (fun _ _=>False) (fun _ _=>0) rfl (fun hrest=> ?_) (fun _ _ h=>h.elim);clear hrest;go_wp2_with fail;go_loopw [11] (fun i wr=> ∃j:Nat,j≤n∧i= .int .i64 j∧Blk wr w.heap.size 42 (A8 (dblN a j))∧Blk wr (w.heap.size+1) 42 (A8 (ac 8 16))∧Below w.heap.size w wr) (fun i _=>n-(intOf i).toNat)
 case atStart=>exact⟨0,by omega,rfl,P0.out,Z0.out,B0.out⟩
 case round=>
  obtain⟨j,hj,rfl,hP,hZ,hB⟩:=hrel;have P1:=hid hP;have Z1:=hid hZ;have B1:=hid hB;clear hP hZ hB P0 Z0 B0 hW;have hl:=pW a ha;by_cases hjn:j<n
  ·have j1:(j:Int)<n:=by omega
   obtain⟨D,hD⟩: ∃D,D=dblN a j:=⟨_,rfl⟩;obtain⟨E,hE⟩: ∃E,E=dblB D:=⟨_,rfl⟩;have hEl:E.length=16:=by rw[hE];exact iR _
   have hEE:E=dblN a (j+1):=by rw[hE,hD];rfl
   have hDl:D.length=16:=by rw[hD];exact hl j
   rw[←hD]at P1;have r1:=P1.out.row;have HE:=hid hE;have HEE:=hid hEE;clear hD hE hEE hl;go_wp2_with fail;refine(pK D wr hDl).mono ?_;rintro e w4 ⟨rfl,hb4⟩;rw[←HE.out];have rr5:=(P1.out.belowAll hb4).row;have rw5:=(P1.out.belowAll hb4).whole;have P4:=hid ((P1.out.belowAll hb4).put (A8 E));have Z4:=hid ((Z1.out.belowAll hb4).farRow (k:=w.heap.size) (by omega) (A8 E));have B4:=hid (below_setRow (B1.out.trans (hb4.mono B1.out.size)) (Nat.le_refl _) (A8 E));clear r1 hb4 P1 Z1 B1;go_wp2;exact⟨⟨j+1,by omega,by go_num,by rw[←HEE.out];exact P4.out,Z4.out,B4.out⟩,by simp[intOf];omega⟩
  ·have ej:j=n:=by omega
   have hl1:=hl n;have zz:=P1.out;rw[ej]at zz;obtain⟨D,hD⟩: ∃D,D=dblN a n:=⟨_,rfl⟩;rw[←hD]at zz hl1;have HD:=hid hD;have P2:=hid zz;have j1: ¬(j:Int)<n:=by omega
   clear hD hl zz P1;go_upto_region 8 with fail;obtain⟨B,hB⟩: ∃B,B=ac 8 15++ [135#8]:=⟨_,rfl⟩;have hA:(#[Value.int .u8 0,.int .u8 0,.int .u8 0,.int .u8 0,.int .u8 0,.int .u8 0,.int .u8 0,.int .u8 0,.int .u8 0,.int .u8 0,.int .u8 0,.int .u8 0,.int .u8 0,.int .u8 0,.int .u8 0,.int .u8 135]:Array Value)=A8 B:=by rw[hB];kernel_rfl
   have hBl:B.length=16:=by rw[hB];rfl
   have r1:=(P2.out.alloc (.cells (A8 B) 42)).row;have r2:=(Z1.out.alloc (.cells (A8 B) 42)).row;have r3:=(Z1.out.alloc (.cells (A8 B) 42)).whole;have B3:=hid (B1.out.alloc B1.out.size (.cells (A8 B) 42));clear hB P2 Z1 B1;go_wp2_with fail;refine wp_label ?_;go_wp2;simp only[Exit.jump];refine aj (A8 D) rfl rfl rfl (isAgg42 _) (sizeOf42 _) (by rw[ag];exact hl1) (an _ r3) ⟨by rw[HD.out],below_setRow B3.out (by omega) _⟩
open Go.RowKit
structure EzAt(w:World)(p pt:Nat)(I J L:Y8):Prop where
 tab:TabAt w pt
 blk:Blk w p 167 (PB (.pointer (some ⟨pt,0,none⟩)) (I++J++L))
 li:I.length=16
 lj:J.length=16
 ll:L.length=16
theorem EzAt.below {w w':World} {p pt:Nat} {I J L:Y8}(H:EzAt w p pt I J L)(hb:Below w.heap.size w w'):EzAt w' p pt I J L:=
 ⟨H.tab.below hb,H.blk.belowAll hb,H.li,H.lj,H.ll⟩
theorem EzAt.drew {w:World} {p pt:Nat} {I J L:Y8}(H:EzAt w p pt I J L):EzAt w.drew p pt I J L:=⟨H.tab.drew,H.blk.drew,H.li,H.lj,H.ll⟩
theorem EzAt.cell {w:World} {p pt:Nat} {I J L:Y8}(H:EzAt w p pt I J L):w.cell? ⟨p,0,none⟩=some (.pointer (some ⟨pt,0,none⟩)):=by
 rw[H.blk.cell,qs]
theorem EzAt.rd {w:World} {p pt:Nat} {I J L:Y8}(H:EzAt w p pt I J L):RdS w 16 (some ⟨p,1,none⟩) 3 3 (I++J++L):=by
 have hl:(I++J++L).length=48:=by rw[List.length_append,List.length_append,H.li,H.lj,H.ll]
 have h8:=H.blk.rdPB (by rw[hl];unfold maxLen;omega);refine⟨hl,Nat.le_refl _,by unfold maxLen;omega,fun _=> ?_⟩;obtain⟨b,o,e,hb,hc⟩:=h8.2.2.2 (by omega);cases e;exact⟨_,_,rfl,hb,fun i hi=>hc i (by omega)⟩
theorem EzAt.getI {w:World} {p pt:Nat} {I J L:Y8}(H:EzAt w p pt I J L):(bt 42 (.pointer (some ⟨p,1,none⟩))).run prog w= .ok (.agg (A8 I)) w:=by
 have:=H.rd.row (t:=42) (isAgg42 _) (sizeOf42 _) 0 (by omega)
 rwa [Nat.zero_mul,List.drop_zero,List.append_assoc,List.take_left' H.li,Nat.add_zero]at this
theorem EzAt.getJ {w:World} {p pt:Nat} {I J L:Y8}(H:EzAt w p pt I J L):(bt 42 (.pointer (some ⟨p,17,none⟩))).run prog w= .ok (.agg (A8 J)) w:=by
 have:=H.rd.row (t:=42) (isAgg42 _) (sizeOf42 _) 1 (by omega)
 rwa [Nat.one_mul,List.append_assoc,List.drop_left' H.li,List.take_left' H.lj,show 1+16=17 from rfl]at this
theorem EzAt.getL {w:World} {p pt:Nat} {I J L:Y8}(H:EzAt w p pt I J L):(bt 42 (.pointer (some ⟨p,33,none⟩))).run prog w= .ok (.agg (A8 L)) w:=by
 have:=H.rd.row (t:=42) (isAgg42 _) (sizeOf42 _) 2 (by omega)
 rwa [List.drop_left' (by rw[List.length_append,H.li,H.lj]),List.take_of_length_le (by rw[H.ll];omega),show 1+2*16=33 from rfl]at this
def uI(I J L:Y8)(n:Nat):Y8:=if n=0 then I else if n=1 then J else L
theorem Dj(p pt n:Nat)(I J L:Y8)(w:World)(H:EzAt w p pt I J L)(hn:n<3):
  Calls prog 296 #[.pointer (some ⟨p,0,none⟩),.int .i64 n] w fun e w' =>e= .returned (.agg (A8 (uI I J L n)))∧Below w.heap.size w w':=by
 obtain⟨W,hW⟩: ∃W,w.alloc (.cells (A8 (ac 8 16)) 42)=W:=⟨_,rfl⟩;obtain⟨bz,hb,hz⟩:=new1 _ _ _ _ hW;have H1:=H.below hb;have g1:=H1.getI;have g2:=H1.getJ;have g3:=H1.getL;have r2:=bz.row;have r3:=bz.whole;have h1:=H.li;have h2:=H.lj;have h3:=H.ll;have BZ:=hid bz;have HB:=hid hb;clear bz hb hz H H1;go_enter func296,ntmps296;have hcase:n=0∨n=1∨n=2:=by omega
 rcases hcase with rfl|rfl|rfl
 ·go_wp2;refine aj (A8 I) rfl rfl rfl (isAgg42 _) (sizeOf42 _) (by rw[ag];exact h1) (an _ r3) ⟨rfl,below_setRow HB.out (Nat.le_refl _) _⟩
 ·go_wp2;refine aj (A8 J) rfl rfl rfl (isAgg42 _) (sizeOf42 _) (by rw[ag];exact h2) (an _ r3) ⟨rfl,below_setRow HB.out (Nat.le_refl _) _⟩
 ·go_wp2;refine aj (A8 L) rfl rfl rfl (isAgg42 _) (sizeOf42 _) (by rw[ag];exact h3) (an _ r3) ⟨rfl,below_setRow HB.out (Nat.le_refl _) _⟩
open Go.RowKit
theorem wa(n:Nat)(a:Y8)(h:n<2^63):mulE (BitVec.ofInt 64 (n:Int)).toNat a=mulE n a:=by
 rw[BitVec.ofInt_natCast,BitVec.toNat_ofNat,Nat.mod_eq_of_lt (by omega)]
theorem xN(p pt j i:Nat)(I J L:Y8)(w:World)(H:EzAt w p pt I J L)(hj:j<2^63)(hi:i≤1000):
  Calls prog 324 #[.pointer (some ⟨p,0,none⟩),.int .i64 j,.int .i64 i] w fun e w' =>e= .returned (.agg (A8 (offE I J L j i)))∧Below w.heap.size w w':=by
 obtain⟨W,hW⟩: ∃W,w.alloc (.cells (A8 (ac 8 16)) 42)=W:=⟨_,rfl⟩;obtain⟨bz,hb,hz⟩:=new1 _ _ _ _ hW;have HK:=hid H;have Z0:=hid bz;have B0:=hid hb;clear bz hb hz H;obtain⟨U,hUe⟩: ∃U,U=upE i:=⟨_,rfl⟩;have hU:U<128:=by rw[hUe,upE];omega
 obtain⟨NJ,hNJ⟩: ∃NJ,NJ=BitVec.ofInt 64 (j:Int):=⟨_,rfl⟩;obtain⟨I8,hI8⟩: ∃I8,I8=i %8:=⟨_,rfl⟩;obtain⟨NI,hNI⟩: ∃NI,NI=BitVec.ofInt 64 (I8:Int):=⟨_,rfl⟩;obtain⟨A,hA⟩: ∃A,A=mulE NJ.toNat J:=⟨_,rfl⟩;obtain⟨R,hR⟩: ∃R,R=dblN I U:=⟨_,rfl⟩;obtain⟨M,hM⟩: ∃M,M=mulE NI.toNat L:=⟨_,rfl⟩;obtain⟨O,hO⟩: ∃O,O=ar (ar A R) M:=⟨_,rfl⟩;have hAl:A.length=16:=by rw[hA];exact kS _ _
 have hRl:R.length=16:=by rw[hR];exact pW _ HK.out.li _
 have hMl:M.length=16:=by rw[hM];exact kS _ _
 have hOl:O.length=16:=by rw[hO];exact ak _ _
 have hOO:O=offE I J L j i:=by rw[hO,hA,hR,hM,hNJ,hNI,hUe,hI8,wa _ _ hj,wa _ _ (by omega)];rfl
 have HA:=hid hA.symm;have HR:=hid hR.symm;have HM:=hid hM.symm;have HO:=hid hO.symm;have HOO:=hid hOO.symm;have j0:(0:Int)≤(j:Int):=by omega
 have i0:(0:Int)≤(i:Int):=by omega
 have e1:(i:Int)/8=((i/8:Nat):Int):=by omega
 have e2:(i:Int) %8=(I8:Int):=by omega
 have e3:(i:Int).tmod 8=(I8:Int):=by rw[Int.tmod_eq_emod_of_nonneg i0];exact e2
 have e4:(i:Int).tdiv 8=((i/8:Nat):Int):=by rw[Int.tdiv_eq_ediv_of_nonneg i0];exact e1
 obtain⟨Q8,hQ8⟩: ∃Q8,Q8=i/8:=⟨_,rfl⟩;rw[←hQ8]at e1 e4;obtain⟨N1,hN1⟩: ∃N1,N1=min I8 1:=⟨_,rfl⟩;have e5:min (I8:Int) 1=(N1:Int):=by omega
 have e6:(Q8:Int)+(N1:Int)=(U:Int):=by rw[hUe,upE,hQ8,hN1,hI8];omega
 have e7:IntKind.i64.wrap (U:Int)=(U:Int):=by rw[IntKind.wrap_i64];omega
 have e8:IntKind.i64.wrap (Q8:Int)=(Q8:Int):=by rw[IntKind.wrap_i64];omega
 have e9:IntKind.i64.wrap (I8:Int)=(I8:Int):=by rw[IntKind.wrap_i64];omega
 have c1:BitVec.ofInt 64 (j:Int)=NJ:=hNJ.symm;have c2:BitVec.ofInt 64 (I8:Int)=NI:=hNI.symm;clear hUe hNJ hI8 hNI hA hR hM hO hOO hQ8 hN1;go_enter func324,ntmps324;go_upto_region 4 with fail;refine aQ [0,0,0,0,0,5,2,0,0,0,0,5,2,0,0,0,0,0,0,5,2,2,2,3] [0,1,2,3,4,5,7,8,9,10,11,13,14,15,16,17,18,19] [(6,2,_),(12,2,_),(20,2,_),(21,2,_),(22,2,_)] (fun i=>if i=21 then [12,20]else if i=22 then [6,21]else []) [23] [_,_,_,_,_,_,_,_,_,_,_,_,_,_,_,_,_,_] [_] [0,0,0,0,0,5,0,0,0,0,5,0,0,0,0,0,0,5] [3] 5 rfl rfl rfl (by kernel_rfl) (by kernel_rfl) (by kernel_rfl) rfl rfl rfl (fun w1=>Below w.heap.size w w1) (fun _ _ h k=>h.trans (Below.mono k h.size)) (B0.out.drew) (fun K' hK' => ?_);have Q1: ∀w1,(fun w1=>Below w.heap.size w w1) w1→(bt 42 (.pointer (some ⟨p,1,none⟩))).run prog w1= .ok (.agg (A8 I)) w1:=fun w1 hw=>(HK.out.below hw).getI;have Q2: ∀w1,(fun w1=>Below w.heap.size w w1) w1→(bt 42 (.pointer (some ⟨p,17,none⟩))).run prog w1= .ok (.agg (A8 J)) w1:=fun w1 hw=>(HK.out.below hw).getJ;have Q3: ∀w1,(fun w1=>Below w.heap.size w w1) w1→(bt 42 (.pointer (some ⟨p,33,none⟩))).run prog w1= .ok (.agg (A8 L)) w1:=fun w1 hw=>(HK.out.below hw).getL
 repeat (first|((with_reducible refine hq0 ?_);refine hq0a ?_)|((with_reducible refine hq5 ?_);refine hq5a ?_ (fun _ hcw=>by have fQ1:=Q1 _ hcw;have fQ2:=Q2 _ hcw;have fQ3:=Q3 _ hcw;go_simp;(try go_bits);exact rfl))|((with_reducible refine hq1 ?_);refine hq1a ?_))
 refine aA ?_;clear Q1 Q2 Q3;generalize hAct:Act.mk _ _=act;obtain⟨u,rfl⟩: ∃u:Nat→Value,act={tmps:=(fun u:Nat→Value=>(Value.pointer (some ⟨p,0,none⟩)::Value.int .i64 j::Value.int .i64 i::u 3::u 4::u 5::Value.pointer (some ⟨w.heap.size,0,none⟩)::u 7::u 8::u 9::u 10::u 11::u 12::u 13::u 14::u 15::u 16::u 17::u 18::u 19::u 20::u 21::u 22::u 23::u 24::u 25::v64 NJ::u 27::u 28::u 29::Value.agg (A8 J)::u 31::Value.int .i64 U::u 33::u 34::u 35::Value.agg (A8 I)::u 37::u 38::u 39::v64 NI::u 41::u 42::u 43::Value.agg (A8 L)::u 45::u 46::u 47::[]).toArray) u,defers:=[]}:=by
  subst hAct;exact aE _ rfl
 clear hAct;obtain⟨St,hSt⟩: ∃St:(Nat→Bool)→Act→World→Prop,∀dn a' w',St dn a' w'↔(∃x31 x37 x45 x46 x47:Value,a' ={tmps:=(Value.pointer (some ⟨p,0,none⟩)::Value.int .i64 j::Value.int .i64 i::u 3::u 4::u 5::Value.pointer (some ⟨w.heap.size,0,none⟩)::u 7::u 8::u 9::u 10::u 11::u 12::u 13::u 14::u 15::u 16::u 17::u 18::u 19::u 20::u 21::u 22::u 23::u 24::u 25::v64 NJ::u 27::u 28::u 29::Value.agg (A8 J)::x31::Value.int .i64 U::u 33::u 34::u 35::Value.agg (A8 I)::x37::u 38::u 39::v64 NI::u 41::u 42::u 43::Value.agg (A8 L)::x45::x46::x47::[]).toArray,defers:=[]}∧Below W.drew.heap.size W.drew w'∧(dn 6=true→x31= .agg (A8 A))∧(dn 12=true→x37= .agg (A8 R))∧(dn 20=true→x45= .agg (A8 M))∧(dn 21=true→ ∃g,x46= .slice (some ⟨g,0,none⟩) 2 2∧Blk w' g 42 (A8 (R++M)))∧(dn 22=true→x47= .agg (A8 O))):=⟨_,fun _ _ _=>Iff.rfl⟩;refine cG (St:=St) [_,_,_,_,_] ⟨?ts1,?ts2,?ts3,?ts4,?ts5,trivial⟩ ?td ?tn ?tR ?t0
 case t0=>exact(hSt _ _ _).2 ⟨_,_,_,_,_,rfl,Below.refl _ _,fun h=>Bool.noConfusion h,fun h=>Bool.noConfusion h,fun h=>Bool.noConfusion h,fun h=>Bool.noConfusion h,fun h=>Bool.noConfusion h⟩
 case td=>decide
 case tn=>decide
 case ts1=>
  intro dn a3 w3 hd hs;obtain⟨x31,x37,x45,x46,x47,rfl,D3,h1,h2,h3,h4,h5⟩:=(hSt _ _ _).1 hs;clear hs;clear hd;refine ai ?_;refine hqc ?_;go_simp;refine af ?_;refine(oy NJ J w3 HK.out.lj).mono ?_;rintro e w4 ⟨rfl,d4⟩;refine⟨_,rfl,d4,?_⟩
  try simp only[Act.put,zz1,zz2,zz3]
  rw[HA.out];exact aA ((hSt _ _ _).2 ⟨_,_,_,_,_,rfl,D3.trans (d4.mono D3.size),fun _=>rfl,fun e=>h2 (by simpa using e),fun e=>h3 (by simpa using e),fun e=>(h4 (by simpa using e)).imp fun _ h=>⟨h.1,h.2.belowAll d4⟩,fun e=>h5 (by simpa using e)⟩)
 case ts2=>
  intro dn a3 w3 hd hs;obtain⟨x31,x37,x45,x46,x47,rfl,D3,h1,h2,h3,h4,h5⟩:=(hSt _ _ _).1 hs;clear hs;clear hd;refine ai ?_;refine hqc ?_;go_simp;refine af ?_;refine(xM U I w3 HK.out.li hU).mono ?_;rintro e w4 ⟨rfl,d4⟩;refine⟨_,rfl,d4,?_⟩
  try simp only[Act.put,zz1,zz2,zz3]
  rw[HR.out];exact aA ((hSt _ _ _).2 ⟨_,_,_,_,_,rfl,D3.trans (d4.mono D3.size),fun e=>h1 (by simpa using e),fun _=>rfl,fun e=>h3 (by simpa using e),fun e=>(h4 (by simpa using e)).imp fun _ h=>⟨h.1,h.2.belowAll d4⟩,fun e=>h5 (by simpa using e)⟩)
 case ts3=>
  intro dn a3 w3 hd hs;obtain⟨x31,x37,x45,x46,x47,rfl,D3,h1,h2,h3,h4,h5⟩:=(hSt _ _ _).1 hs;clear hs;clear hd;refine ai ?_;refine hqc ?_;go_simp;refine af ?_;refine(oy NI L w3 HK.out.ll).mono ?_;rintro e w4 ⟨rfl,d4⟩;refine⟨_,rfl,d4,?_⟩
  try simp only[Act.put,zz1,zz2,zz3]
  rw[HM.out];exact aA ((hSt _ _ _).2 ⟨_,_,_,_,_,rfl,D3.trans (d4.mono D3.size),fun e=>h1 (by simpa using e),fun e=>h2 (by simpa using e),fun _=>rfl,fun e=>(h4 (by simpa using e)).imp fun _ h=>⟨h.1,h.2.belowAll d4⟩,fun e=>h5 (by simpa using e)⟩)
 case ts4=>
  intro dn a3 w3 hd hs;obtain⟨x31,x37,x45,x46,x47,rfl,D3,h1,h2,h3,h4,h5⟩:=(hSt _ _ _).1 hs;clear hs;obtain rfl:=h2 (hd 12 (by decide));obtain rfl:=h3 (hd 20 (by decide));clear hd;refine ai ?_;refine gu (x:= .agg (A8 R)) (y:= .agg (A8 M)) (size:=16) rfl rfl (by show(A8 R).size=16;rw[ag,hRl]) (by show(A8 M).size=16;rw[ag,hMl]) (by omega) (by omega) underlying39 bN (fun w4 g4 b4 d4=> ?_);simp only[Act.put,zz1,zz2,zz3];rw[show(Value.agg (A8 R)).cells++(Value.agg (A8 M)).cells=A8 (R++M) from aN R M]at b4;exact aA ((hSt _ _ _).2 ⟨_,_,_,_,_,rfl,D3.trans (d4.mono D3.size),fun e=>h1 (by simpa using e),fun e=>h2 (by simpa using e),fun e=>h3 (by simpa using e),fun _=>⟨g4,rfl,b4⟩,fun e=>h5 (by simpa using e)⟩)
 case ts5=>
  intro dn a3 w3 hd hs;obtain⟨x31,x37,x45,x46,x47,rfl,D3,h1,h2,h3,h4,h5⟩:=(hSt _ _ _).1 hs;clear hs;obtain rfl:=h1 (hd 6 (by decide));obtain⟨g4,rfl,b4⟩:=h4 (hd 21 (by decide));clear hd;refine ai ?_;have hRM:(R++M).length=2*16:=by rw[List.length_append,hRl,hMl]
  refine hqc ?_;go_simp;refine af ?_;refine(ov A (R++M) g4 2 2 w3 (RdS.of_blk b4 hRM (by omega)) (by omega) hAl).mono ?_;rintro e w4 ⟨rfl,d4⟩;refine⟨_,rfl,d4,?_⟩
  try simp only[Act.put,zz1,zz2,zz3]
  rw[MJ A R M hRl hMl,HO.out];exact aA ((hSt _ _ _).2 ⟨_,_,_,_,_,rfl,D3.trans (d4.mono D3.size),fun e=>h1 (by simpa using e),fun e=>h2 (by simpa using e),fun e=>h3 (by simpa using e),fun e=>(h4 (by simpa using e)).imp fun _ h=>⟨h.1,h.2.belowAll d4⟩,fun _=>rfl⟩)
 case tR=>
  intro dn a3 w3 hall hs;obtain⟨x31,x37,x45,x46,x47,rfl,D3,h1,h2,h3,h4,h5⟩:=(hSt _ _ _).1 hs;clear hs hSt;obtain rfl:=h1 (hall 6 (by simp));obtain rfl:=h2 (hall 12 (by simp));obtain rfl:=h3 (hall 20 (by simp));obtain⟨g4,rfl,b4⟩:=h4 (hall 21 (by simp));obtain rfl:=h5 (hall 22 (by simp));clear hall;refine bI ?_;refine aq (Z0.out.drew.belowAll D3) rfl rfl (by rw[ag,ag,hOl,ah]) (aH _) (by rw[ag,hOl];exact sizeOf42 _) (fun w4 k4 g5 s4=> ?_);have D4:=B0.out.drew.trans (D3.mono B0.out.size);have BD:=D4.trans (ae g5 (Nat.le_refl _) D4.size);refine az ⟨BD,?_⟩;refine cQ (hK' _ _ ?_);have r3:=k4.row;have BB:=hid BD;clear hK' D3 D4 BD g5 s4 k4 h1 h2 h3 h4 h5 b4;go_wp2;refine aj (A8 O) rfl rfl rfl (isAgg42 _) (sizeOf42 _) (by rw[ag];exact hOl) r3 ⟨by rw[HOO.out],BB.out⟩
open Go.RowKit
theorem oz(p pt j i:Nat)(I J L x:Y8)(w:World)(H:EzAt w p pt I J L)(hj:j<2^63)(hi:i≤1000)(hx:x.length=16):
  Calls prog 312 #[.pointer (some ⟨p,0,none⟩),.int .i64 j,.int .i64 i,.agg (A8 x)] w fun e w' =>e= .returned (.agg (A8 (ezE I J L j i x)))∧Below w.heap.size w w':=by
 obtain⟨W,hW⟩: ∃W,(w.alloc (.cells (A8 x) 42)).alloc (.cells (A8 (ac 8 16)) 42)=W:=⟨_,rfl⟩;obtain⟨b0,b1,hb,hz⟩:=new2 _ _ _ _ _ _ hW;have HK:=hid H;have P0:=hid b0;have Z0:=hid b1;have B0:=hid hb;clear b0 b1 hb hz H;obtain⟨O,hO⟩: ∃O,O=offE I J L j i:=⟨_,rfl⟩;obtain⟨X,hX⟩: ∃X,X=ar x O:=⟨_,rfl⟩;obtain⟨K4,hK4⟩: ∃K4,K4=J++I++L++ac 8 16:=⟨_,rfl⟩;obtain⟨R,hR⟩: ∃R,R=rnds K4 X 4:=⟨_,rfl⟩;have hOl:O.length=16:=by rw[hO];exact ak _ _
 have hXl:X.length=16:=by rw[hX];exact ak _ _
 have hK4l:K4.length=64:=by rw[hK4,List.length_append,List.length_append,List.length_append,HK.out.lj,HK.out.li,HK.out.ll,ah]
 have hRl:R.length=16:=by rw[hR];exact cU _ _ hXl _
 have hRR:R=ezE I J L j i x:=by rw[hR,hX,hO,hK4,ezE,if_pos (by omega),Int.toNat_natCast]
 have HO:=hid hO.symm;have HX:=hid hX.symm;have HK4:=hid hK4;have HR:=hid hR.symm;have HRR:=hid hRR.symm;have j0:(0:Int)≤(j:Int):=by omega
 have j1: ¬(j:Int)< -1:=by omega
 have i0:(0:Int)≤(i:Int):=by omega
 clear hO hX hK4 hR hRR;go_enter func312,ntmps312;go_upto_region 4 with fail;refine aQ [0,0,0,5,5,0,0,0,2,2,2,0,0,0,5,0,0,0,5,0,0,0,5,0,2,2,3] [0,1,2,3,4,5,6,7,11,12,13,14,15,16,17,18,19,20,21,22,23] [(8,2,_),(9,2,_),(10,2,_),(24,2,_),(25,2,_)] (fun i=>if i=9 then [8]else if i=10 then [9]else if i=25 then [10,24]else []) [26] [_,_,_,_,_,_,_,_,_,_,_,_,_,_,_,_,_,_,_,_,_] [_] [0,0,0,5,5,0,0,0,0,0,0,5,0,0,0,5,0,0,0,5,0] [3] 5 rfl rfl rfl (by kernel_rfl) (by kernel_rfl) (by kernel_rfl) rfl rfl rfl (fun w1=>Below w.heap.size w w1∧Blk w1 w.heap.size 42 (A8 x)) (fun _ _ h k=>⟨h.1.trans (Below.mono k h.1.size),h.2.belowAll k⟩) (⟨B0.out.drew,P0.out.drew⟩) (fun K' hK' => ?_);have Q0: ∀w1,(fun w1=>Below w.heap.size w w1∧Blk w1 w.heap.size 42 (A8 x)) w1→w1.cell? ⟨p,0,none⟩=some (.pointer (some ⟨pt,0,none⟩)):=fun w1 hw=>(HK.out.below hw.1).cell;have Q4: ∀w1,(fun w1=>Below w.heap.size w w1∧Blk w1 w.heap.size 42 (A8 x)) w1→aF w1 w.heap.size=A8 x:=fun w1 hw=>hw.2.row;have Q1: ∀w1,(fun w1=>Below w.heap.size w w1∧Blk w1 w.heap.size 42 (A8 x)) w1→(bt 42 (.pointer (some ⟨p,1,none⟩))).run prog w1= .ok (.agg (A8 I)) w1:=fun w1 hw=>(HK.out.below hw.1).getI;have Q2: ∀w1,(fun w1=>Below w.heap.size w w1∧Blk w1 w.heap.size 42 (A8 x)) w1→(bt 42 (.pointer (some ⟨p,17,none⟩))).run prog w1= .ok (.agg (A8 J)) w1:=fun w1 hw=>(HK.out.below hw.1).getJ;have Q3: ∀w1,(fun w1=>Below w.heap.size w w1∧Blk w1 w.heap.size 42 (A8 x)) w1→(bt 42 (.pointer (some ⟨p,33,none⟩))).run prog w1= .ok (.agg (A8 L)) w1:=fun w1 hw=>(HK.out.below hw.1).getL
 repeat (first|((with_reducible refine hq0 ?_);refine hq0a ?_)|((with_reducible refine hq5 ?_);refine hq5a ?_ (fun _ hcw=>by have fQ0:=Q0 _ hcw;have fQ4:=Q4 _ hcw;have fQ1:=Q1 _ hcw;have fQ2:=Q2 _ hcw;have fQ3:=Q3 _ hcw;go_simp;(try go_bits);exact rfl))|((with_reducible refine hq1 ?_);refine hq1a ?_))
 refine aA ?_;clear Q0 Q4 Q1 Q2 Q3;generalize hAct:Act.mk _ _=act;obtain⟨u,rfl⟩: ∃u:Nat→Value,act={tmps:=(fun u:Nat→Value=>(Value.pointer (some ⟨p,0,none⟩)::Value.int .i64 j::Value.int .i64 i::u 3::u 4::u 5::u 6::u 7::Value.pointer (some ⟨w.heap.size+1,0,none⟩)::u 9::u 10::u 11::u 12::u 13::u 14::u 15::u 16::u 17::u 18::u 19::u 20::u 21::u 22::u 23::u 24::u 25::u 26::Value.pointer (some ⟨pt,0,none⟩)::Value.agg (A8 x)::Value.pointer (some ⟨p,0,none⟩)::Value.int .i64 j::Value.int .i64 i::u 32::u 33::u 34::u 35::u 36::u 37::Value.agg (A8 J)::u 39::u 40::u 41::Value.agg (A8 I)::u 43::u 44::u 45::Value.agg (A8 L)::Value.agg (A8 (ac 8 16))::u 48::u 49::u 50::u 51::u 52::u 53::u 54::u 55::u 56::u 57::u 58::u 59::u 60::u 61::u 62::u 63::u 64::u 65::u 66::u 67::u 68::u 69::u 70::u 71::u 72::u 73::u 74::u 75::u 76::[]).toArray) u,defers:=[]}:=by
  subst hAct;exact aE _ rfl
 clear hAct;obtain⟨St,hSt⟩: ∃St:(Nat→Bool)→Act→World→Prop,∀dn a' w',St dn a' w'↔(∃x32 x33 x34 x48 x49:Value,a' ={tmps:=(Value.pointer (some ⟨p,0,none⟩)::Value.int .i64 j::Value.int .i64 i::u 3::u 4::u 5::u 6::u 7::Value.pointer (some ⟨w.heap.size+1,0,none⟩)::u 9::u 10::u 11::u 12::u 13::u 14::u 15::u 16::u 17::u 18::u 19::u 20::u 21::u 22::u 23::u 24::u 25::u 26::Value.pointer (some ⟨pt,0,none⟩)::Value.agg (A8 x)::Value.pointer (some ⟨p,0,none⟩)::Value.int .i64 j::Value.int .i64 i::x32::x33::x34::u 35::u 36::u 37::Value.agg (A8 J)::u 39::u 40::u 41::Value.agg (A8 I)::u 43::u 44::u 45::Value.agg (A8 L)::Value.agg (A8 (ac 8 16))::x48::x49::u 50::u 51::u 52::u 53::u 54::u 55::u 56::u 57::u 58::u 59::u 60::u 61::u 62::u 63::u 64::u 65::u 66::u 67::u 68::u 69::u 70::u 71::u 72::u 73::u 74::u 75::u 76::[]).toArray,defers:=[]}∧Below W.drew.heap.size W.drew w'∧(dn 8=true→x32= .agg (A8 O))∧(dn 9=true→ ∃g,x33= .slice (some ⟨g,0,none⟩) 1 1∧Blk w' g 42 (A8 O))∧(dn 10=true→x34= .agg (A8 X))∧(dn 24=true→ ∃g,x48= .slice (some ⟨g,0,none⟩) 4 4∧Blk w' g 42 (A8 K4))∧(dn 25=true→x49= .agg (A8 R))):=⟨_,fun _ _ _=>Iff.rfl⟩;refine cG (St:=St) [_,_,_,_,_] ⟨?ts1,?ts2,?ts3,?ts4,?ts5,trivial⟩ ?td ?tn ?tR ?t0
 case t0=>exact(hSt _ _ _).2 ⟨_,_,_,_,_,rfl,Below.refl _ _,fun h=>Bool.noConfusion h,fun h=>Bool.noConfusion h,fun h=>Bool.noConfusion h,fun h=>Bool.noConfusion h,fun h=>Bool.noConfusion h⟩
 case td=>decide
 case tn=>decide
 case ts1=>
  intro dn a3 w3 hd hs;obtain⟨x32,x33,x34,x48,x49,rfl,D3,h1,h2,h3,h4,h5⟩:=(hSt _ _ _).1 hs;clear hs;clear hd;refine ai ?_;have E3:=B0.out.drew.trans (D3.mono B0.out.size);refine hqc ?_;go_simp;refine af ?_;refine(xN p pt j i I J L w3 (HK.out.below E3) hj hi).mono ?_;rintro e w4 ⟨rfl,d4⟩;refine⟨_,rfl,d4,?_⟩
  try simp only[Act.put,zz1,zz2,zz3]
  rw[HO.out];exact aA ((hSt _ _ _).2 ⟨_,_,_,_,_,rfl,D3.trans (d4.mono D3.size),fun _=>rfl,fun e=>(h2 (by simpa using e)).imp fun _ h=>⟨h.1,h.2.belowAll d4⟩,fun e=>h3 (by simpa using e),fun e=>(h4 (by simpa using e)).imp fun _ h=>⟨h.1,h.2.belowAll d4⟩,fun e=>h5 (by simpa using e)⟩)
 case ts2=>
  intro dn a3 w3 hd hs;obtain⟨x32,x33,x34,x48,x49,rfl,D3,h1,h2,h3,h4,h5⟩:=(hSt _ _ _).1 hs;clear hs;obtain rfl:=h1 (hd 8 (by decide));clear hd;refine ai ?_;refine Al (x:= .agg (A8 O)) (size:=16) rfl (by show(A8 O).size=16;rw[ag,hOl]) (by omega) (by omega) underlying39 bN (fun w4 g4 b4 d4=> ?_);simp only[Act.put,zz1,zz2,zz3];exact aA ((hSt _ _ _).2 ⟨_,_,_,_,_,rfl,D3.trans (d4.mono D3.size),fun e=>h1 (by simpa using e),fun _=>⟨g4,rfl,b4⟩,fun e=>h3 (by simpa using e),fun e=>(h4 (by simpa using e)).imp fun _ h=>⟨h.1,h.2.belowAll d4⟩,fun e=>h5 (by simpa using e)⟩)
 case ts3=>
  intro dn a3 w3 hd hs;obtain⟨x32,x33,x34,x48,x49,rfl,D3,h1,h2,h3,h4,h5⟩:=(hSt _ _ _).1 hs;clear hs;obtain⟨g2,rfl,b2⟩:=h2 (hd 9 (by decide));clear hd;refine ai ?_;refine hqc ?_;go_simp;refine af ?_;refine(ov x O g2 1 1 w3 (RdS.of_blk b2 (by rw[hOl]) (by omega)) (by omega) hx).mono ?_;rintro e w4 ⟨rfl,d4⟩;refine⟨_,rfl,d4,?_⟩
  try simp only[Act.put,zz1,zz2,zz3]
  rw[Jg x O hOl,HX.out];exact aA ((hSt _ _ _).2 ⟨_,_,_,_,_,rfl,D3.trans (d4.mono D3.size),fun e=>h1 (by simpa using e),fun e=>(h2 (by simpa using e)).imp fun _ h=>⟨h.1,h.2.belowAll d4⟩,fun _=>rfl,fun e=>(h4 (by simpa using e)).imp fun _ h=>⟨h.1,h.2.belowAll d4⟩,fun e=>h5 (by simpa using e)⟩)
 case ts4=>
  intro dn a3 w3 hd hs;obtain⟨x32,x33,x34,x48,x49,rfl,D3,h1,h2,h3,h4,h5⟩:=(hSt _ _ _).1 hs;clear hs;clear hd;refine ai ?_;refine Am (x:= .agg (A8 J)) (y:= .agg (A8 I)) (z:= .agg (A8 L)) (u:= .agg (A8 (ac 8 16))) (size:=16) rfl rfl rfl rfl (by show(A8 J).size=16;rw[ag,HK.out.lj]) (by show(A8 I).size=16;rw[ag,HK.out.li]) (by show(A8 L).size=16;rw[ag,HK.out.ll]) (by show(A8 (ac 8 16)).size=16;rw[ag,ah]) (by omega) (by omega) underlying39 bN (fun w4 g4 b4 d4=> ?_);simp only[Act.put,zz1,zz2,zz3];have b5:Blk w4 g4 42 (A8 K4):=by rw[HK4.out,←aN,←aN,←aN];exact b4
  exact aA ((hSt _ _ _).2 ⟨_,_,_,_,_,rfl,D3.trans (d4.mono D3.size),fun e=>h1 (by simpa using e),fun e=>(h2 (by simpa using e)).imp fun _ h=>⟨h.1,h.2.belowAll d4⟩,fun e=>h3 (by simpa using e),fun _=>⟨g4,rfl,b5⟩,fun e=>h5 (by simpa using e)⟩)
 case ts5=>
  intro dn a3 w3 hd hs;obtain⟨x32,x33,x34,x48,x49,rfl,D3,h1,h2,h3,h4,h5⟩:=(hSt _ _ _).1 hs;clear hs;obtain rfl:=h3 (hd 10 (by decide));obtain⟨g4,rfl,b4⟩:=h4 (hd 24 (by decide));clear hd;refine ai ?_;have E3:=B0.out.drew.trans (D3.mono B0.out.size);refine hqc ?_;go_simp;refine af ?_;refine(kw pt X K4 g4 0 4 4 w3 (HK.out.below E3).tab hXl (RdS.of_blk b4 (by rw[hK4l]) (by omega)) (by omega)).mono ?_;rintro e w4 ⟨rfl,d4⟩;refine⟨_,rfl,d4,?_⟩
  try simp only[Act.put,zz1,zz2,zz3]
  rw[HR.out];exact aA ((hSt _ _ _).2 ⟨_,_,_,_,_,rfl,D3.trans (d4.mono D3.size),fun e=>h1 (by simpa using e),fun e=>(h2 (by simpa using e)).imp fun _ h=>⟨h.1,h.2.belowAll d4⟩,fun e=>h3 (by simpa using e),fun e=>(h4 (by simpa using e)).imp fun _ h=>⟨h.1,h.2.belowAll d4⟩,fun _=>rfl⟩)
 case tR=>
  intro dn a3 w3 hall hs;obtain⟨x32,x33,x34,x48,x49,rfl,D3,h1,h2,h3,h4,h5⟩:=(hSt _ _ _).1 hs;clear hs hSt;obtain rfl:=h1 (hall 8 (by simp));obtain⟨g2,rfl,b2⟩:=h2 (hall 9 (by simp));obtain rfl:=h3 (hall 10 (by simp));obtain⟨g4,rfl,b4⟩:=h4 (hall 24 (by simp));obtain rfl:=h5 (hall 25 (by simp));clear hall;refine bI ?_;refine aq (Z0.out.drew.belowAll D3) rfl rfl (by rw[ag,ag,hRl,ah]) (aH _) (by rw[ag,hRl];exact sizeOf42 _) (fun w4 k4 g5 s4=> ?_);have E3:=B0.out.drew.trans (D3.mono B0.out.size);have BD:=E3.trans (ae g5 (by omega) E3.size);refine az ⟨⟨BD,(P0.out.drew.belowAll D3).grown g5 (by simp)⟩,?_⟩;refine cQ (hK' _ _ ?_);have r3:=k4.row;have BB:=hid BD;clear hK' D3 E3 BD g5 s4 k4;go_wp2;refine aj (A8 R) rfl rfl rfl (isAgg42 _) (sizeOf42 _) (by rw[ag];exact hRl) r3 ⟨by rw[HRR.out],BB.out⟩
open Go.RowKit
theorem mn(A R:Y8)(h:A.length=16)(n:Nat):aI (A++R) (n+1)=aI R n:=by
 rw[aI,aI,show(n+1)*16=A.length+n*16 by rw[h];omega,List.drop_append,show A.length+n*16-A.length=n*16 by omega,List.drop_eq_nil_of_le (by omega),List.nil_append]
theorem mp(A R:Y8)(h:A.length=16):aI (A++R) 0=A:=by
 rw[aI,Nat.zero_mul,List.drop_zero,List.take_left' h]
theorem Ai(A:Y8)(h:A.length=16):aI A 0=A:=by
 rw[aI,Nat.zero_mul,List.drop_zero,List.take_of_length_le (by omega)]
theorem Aj(I J L:Y8)(hI:I.length=16)(hJ:J.length=16)(hL:L.length=16):(tenE I J L).length=160:=by
 simp[tenE,hI,hJ,hL]
theorem Ih(I J L:Y8)(hI:I.length=16)(hJ:J.length=16)(hL:L.length=16)(n:Nat)(hn:n<10):aI (tenE I J L) n=uI I J L (n %3):=by
 have hc:n=0∨n=1∨n=2∨n=3∨n=4∨n=5∨n=6∨n=7∨n=8∨n=9:=by omega
 simp only[tenE,List.append_assoc];rcases hc with rfl|rfl|rfl|rfl|rfl|rfl|rfl|rfl|rfl|rfl<;>
  simp only[mn I _ hI,mn J _ hJ,mn L _ hL,mp I _ hI,mp J _ hJ,mp L _ hL,Ai I hI]<;>rfl
theorem FH(I J L:Y8)(hI:I.length=16)(hJ:J.length=16)(hL:L.length=16)(n:Nat)(hn:n<10):(tenE I J L).take (16*n)++uI I J L (n %3)=(tenE I J L).take (16*(n+1)):=by
 rw[←Ih I J L hI hJ hL n hn,aI,show 16*(n+1)=16*n+16 by omega,List.take_add,Nat.mul_comm n 16]
theorem we(I J L:Y8)(hI:I.length=16)(hJ:J.length=16)(hL:L.length=16)(n:Nat):(uI I J L n).length=16:=by
 unfold uI;split
 ·exact hI
 ·split
  ·exact hJ
  ·exact hL
theorem Ii(p pt i:Nat)(I J L x:Y8)(w:World)(H:EzAt w p pt I J L)(hi:i≤1000)(hx:x.length=16):
  Calls prog 312 #[.pointer (some ⟨p,0,none⟩),.int .i64 (-1),.int .i64 i,.agg (A8 x)] w fun e w' =>e= .returned (.agg (A8 (ezE I J L (-1) i x)))∧Below w.heap.size w w':=by
 obtain⟨W,hW⟩: ∃W,(w.alloc (.cells (A8 x) 42)).alloc (.cells (A8 (ac 8 16)) 42)=W:=⟨_,rfl⟩;obtain⟨b0,b1,hb,hz⟩:=new2 _ _ _ _ _ _ hW;have HK:=hid H;have P0:=hid b0;have Z0:=hid b1;have B0:=hid hb;have S0:=hid hz;have T10:=hid (FH I J L H.li H.lj H.ll);have TLn:=hid (Aj I J L H.li H.lj H.ll);have PLn:=hid (we I J L H.li H.lj H.ll);obtain⟨NI,hNI⟩: ∃NI,NI=BitVec.ofInt 64 (i:Int):=⟨_,rfl⟩;obtain⟨O,hO⟩: ∃O,O=mulE NI.toNat L:=⟨_,rfl⟩;obtain⟨X,hX⟩: ∃X,X=ar x O:=⟨_,rfl⟩;obtain⟨KT,hKT⟩: ∃KT,KT=tenE I J L:=⟨_,rfl⟩;obtain⟨R,hR⟩: ∃R,R=rnds KT X 10:=⟨_,rfl⟩;have hOl:O.length=16:=by rw[hO];exact kS _ _
 have hXl:X.length=16:=by rw[hX];exact ak _ _
 have hRl:R.length=16:=by rw[hR];exact cU _ _ hXl _
 have hRR:R=ezE I J L (-1) i x:=by rw[hR,hX,hO,hKT,hNI,wa _ _ (by omega),ezE,if_neg (by omega)]
 have HO:=hid hO.symm;have HX:=hid hX.symm;have HKT:=hid hKT;have HR:=hid hR.symm;have HRR:=hid hRR.symm;have i0:(0:Int)≤(i:Int):=by omega
 have c2:BitVec.ofInt 64 (i:Int)=NI:=hNI.symm;rw[←hKT]at T10 TLn;clear b0 b1 hb hz H hO hX hKT hR hRR hNI;go_enter func312,ntmps312;go_wp2_with fail;have O0:=hid (OwnS.nil_ W (w.heap.size+2) 42 16);go_loopw [9,50] (fun v i wr=> ∃n:Nat,n≤10∧i= .int .i64 n∧OwnS wr (w.heap.size+2) 42 16 v n (KT.take (16*n))∧Blk wr w.heap.size 42 (A8 x)∧Blk wr (w.heap.size+1) 42 (A8 (ac 8 16))∧Below w.heap.size w wr∧w.heap.size+2≤wr.heap.size) (fun _ i _=>10-(intOf i).toNat)
 case atStart=>exact⟨0,by omega,rfl,O0.out,P0.out,Z0.out,B0.out,by have:=S0.out;omega⟩
 case round=>
  obtain⟨n,hn,rfl,hO,hP,hZ,hB,hS⟩:=hrel;have O1:=hid hO;have P1:=hid hP;have Z1:=hid hZ;have B1:=hid hB;have S1:=hid hS;clear hO hP hZ hB hS P0 Z0 B0 S0 O0 hW;by_cases hn10:n<10
  ·have n1:(n:Int)<10:=by omega
   have n0:(0:Int)≤(n:Int):=by omega
   obtain⟨m,hm⟩: ∃m,m=n %3:=⟨_,rfl⟩;have e1:(n:Int) %3=(m:Int):=by omega
   have e2:(n:Int).tmod 3=(m:Int):=by rw[Int.tmod_eq_emod_of_nonneg n0];exact e1
   have e3:IntKind.i64.wrap (m:Int)=(m:Int):=by rw[IntKind.wrap_i64];omega
   have hm3:m<3:=by omega
   obtain⟨Y,hY⟩: ∃Y,Y=uI I J L m:=⟨_,rfl⟩;have hYl:Y.length=16:=by rw[hY];exact PLn.out m
   have hst:KT.take (16*n)++Y=KT.take (16*(n+1)):=by rw[hY,hm];exact T10.out n hn10
   have HY:=hid hY.symm;have HST:=hid hst;clear hm hY hst;go_upto_region 9 with fail;refine aG [0,0,0,0,2,2,2,0] rfl (fun ops' K2 hK2=> ?_)
   repeat (first|((with_reducible refine zq0 ?_);refine zq0a ?_)|((with_reducible refine zq1 ?_);refine zq1a ?_))
   (with_reducible refine bC rfl ?_)
   go_simp;refine af ?_;refine(Dj p pt m I J L wr (HK.out.below B1.out) hm3).mono ?_;rintro e w2 ⟨rfl,b2⟩;refine⟨_,rfl,?_⟩
   try simp only[Act.put,zz1,zz2,zz3]
   rw[HY.out];refine qV hYl (by omega) (by omega) rfl underlying39 bN (fun w4 g4 r4 b4=> ?_);simp only[Act.put,zz1,zz2,zz3];have b24:=b2.trans (b4.mono b2.size);refine jb (O1.out.below b24) r4 rfl rfl (by omega) (by omega) underlying39 bN (by omega) (Nat.le_trans S1.out b24.size) (fun w5 v5 o5 g5 b5=> ?_);simp only[Act.put,zz1,zz2,zz3]
   repeat (first|((with_reducible refine zq0 ?_);refine zq0a ?_)|((with_reducible refine zq1 ?_);refine zq1a ?_))
   refine az (hK2 _ _ ?_);rw[HST.out]at o5;have O5:=hid o5;have P5:=hid ((P1.out.belowAll b24).grown g5 ((O1.out.below b24).apart (by omega)));have Z5:=hid ((Z1.out.belowAll b24).grown g5 ((O1.out.below b24).apart (by omega)));have B5:=hid ((B1.out.trans (b24.mono B1.out.size)).trans (b5.mono (by omega)));have S5:=hid (Nat.le_trans (Nat.le_trans S1.out b24.size) b5.size);clear o5 g5 b5 r4 b24 b2 b4 hK2;go_wp2;exact⟨⟨n+1,by omega,by go_num,O5.out,P5.out,Z5.out,B5.out,S5.out⟩,by simp[intOf];omega⟩
  ·obtain rfl:n=10:=by omega
   have hO:=O1.out;rw[List.take_of_length_le (by rw[TLn.out];omega)]at hO;obtain⟨gk,ck,rfl,hgk⟩:=hO.form (by omega);have RK:=hid hO.rdAt;clear hO O1 hgk;go_upto_region 11 with fail;refine aQ [0,0,0,5,5,0,0,0,0,0,5,2,2,2,0,2,3] [0,1,2,3,4,5,6,7,8,9,10,14] [(11,2,_),(12,2,_),(13,2,_),(15,2,_)] (fun i=>if i=12 then [11]else if i=13 then [12]else if i=15 then [13]else []) [16] [_,_,_,_,_,_,_,_,_,_,_,_] [_] [0,0,0,5,5,0,0,0,0,0,5,0] [3] 4 rfl rfl rfl (by kernel_rfl) (by kernel_rfl) (by kernel_rfl) rfl rfl rfl (fun w1=>Below w.heap.size w w1∧Blk w1 w.heap.size 42 (A8 x)) (fun _ _ h k=>⟨h.1.trans (Below.mono k h.1.size),h.2.belowAll k⟩) (⟨B1.out.drew,P1.out.drew⟩) (fun K' hK' => ?_);have Q0: ∀w1,(fun w1=>Below w.heap.size w w1∧Blk w1 w.heap.size 42 (A8 x)) w1→w1.cell? ⟨p,0,none⟩=some (.pointer (some ⟨pt,0,none⟩)):=fun w1 hw=>(HK.out.below hw.1).cell;have Q4: ∀w1,(fun w1=>Below w.heap.size w w1∧Blk w1 w.heap.size 42 (A8 x)) w1→aF w1 w.heap.size=A8 x:=fun w1 hw=>hw.2.row;have Q3: ∀w1,(fun w1=>Below w.heap.size w w1∧Blk w1 w.heap.size 42 (A8 x)) w1→(bt 42 (.pointer (some ⟨p,33,none⟩))).run prog w1= .ok (.agg (A8 L)) w1:=fun w1 hw=>(HK.out.below hw.1).getL
   repeat (first|((with_reducible refine hq0 ?_);refine hq0a ?_)|((with_reducible refine hq5 ?_);refine hq5a ?_ (fun _ hcw=>by have fQ0:=Q0 _ hcw;have fQ4:=Q4 _ hcw;have fQ3:=Q3 _ hcw;go_simp;(try go_bits);exact rfl))|((with_reducible refine hq1 ?_);refine hq1a ?_))
   refine aA ?_;clear Q0 Q4 Q3;generalize hAct:Act.mk _ _=act;obtain⟨u,rfl⟩: ∃u:Nat→Value,act={tmps:=(fun u:Nat→Value=>(Value.pointer (some ⟨p,0,none⟩)::Value.int .i64 (-1)::Value.int .i64 i::u 3::u 4::u 5::u 6::u 7::Value.pointer (some ⟨w.heap.size+1,0,none⟩)::Value.slice (some ⟨gk,0,none⟩) 10 ck::u 10::u 11::u 12::u 13::u 14::u 15::u 16::u 17::u 18::u 19::u 20::u 21::u 22::u 23::u 24::u 25::u 26::u 27::u 28::u 29::u 30::u 31::u 32::u 33::u 34::u 35::u 36::u 37::u 38::u 39::u 40::u 41::u 42::u 43::u 44::u 45::u 46::u 47::u 48::u 49::u 50::u 51::u 52::u 53::u 54::u 55::u 56::u 57::u 58::u 59::u 60::u 61::u 62::u 63::Value.pointer (some ⟨pt,0,none⟩)::Value.agg (A8 x)::u 66::v64 NI::u 68::u 69::u 70::Value.agg (A8 L)::u 72::u 73::u 74::Value.slice (some ⟨gk,0,none⟩) 10 ck::u 76::[]).toArray) u,defers:=[]}:=by
    subst hAct;exact aE _ rfl
   clear hAct;obtain⟨St,hSt⟩: ∃St:(Nat→Bool)→Act→World→Prop,∀dn a' w',St dn a' w'↔(∃x72 x73 x74 x76:Value,a' ={tmps:=(Value.pointer (some ⟨p,0,none⟩)::Value.int .i64 (-1)::Value.int .i64 i::u 3::u 4::u 5::u 6::u 7::Value.pointer (some ⟨w.heap.size+1,0,none⟩)::Value.slice (some ⟨gk,0,none⟩) 10 ck::u 10::u 11::u 12::u 13::u 14::u 15::u 16::u 17::u 18::u 19::u 20::u 21::u 22::u 23::u 24::u 25::u 26::u 27::u 28::u 29::u 30::u 31::u 32::u 33::u 34::u 35::u 36::u 37::u 38::u 39::u 40::u 41::u 42::u 43::u 44::u 45::u 46::u 47::u 48::u 49::u 50::u 51::u 52::u 53::u 54::u 55::u 56::u 57::u 58::u 59::u 60::u 61::u 62::u 63::Value.pointer (some ⟨pt,0,none⟩)::Value.agg (A8 x)::u 66::v64 NI::u 68::u 69::u 70::Value.agg (A8 L)::x72::x73::x74::Value.slice (some ⟨gk,0,none⟩) 10 ck::x76::[]).toArray,defers:=[]}∧Below wr.drew.heap.size wr.drew w'∧(dn 11=true→x72= .agg (A8 O))∧(dn 12=true→ ∃g,x73= .slice (some ⟨g,0,none⟩) 1 1∧Blk w' g 42 (A8 O))∧(dn 13=true→x74= .agg (A8 X))∧(dn 15=true→x76= .agg (A8 R))):=⟨_,fun _ _ _=>Iff.rfl⟩;refine cG (St:=St) [_,_,_,_] ⟨?ts1,?ts2,?ts3,?ts4,trivial⟩ ?td ?tn ?tR ?t0
   case t0=>exact(hSt _ _ _).2 ⟨_,_,_,_,rfl,Below.refl _ _,fun h=>Bool.noConfusion h,fun h=>Bool.noConfusion h,fun h=>Bool.noConfusion h,fun h=>Bool.noConfusion h⟩
   case td=>decide
   case tn=>decide
   case ts1=>
    intro dn a3 w3 hd hs;obtain⟨x72,x73,x74,x76,rfl,D3,h1,h2,h3,h4⟩:=(hSt _ _ _).1 hs;clear hs;clear hd;refine ai ?_;refine hqc ?_;go_simp;refine af ?_;refine(oy NI L w3 HK.out.ll).mono ?_;rintro e w4 ⟨rfl,d4⟩;refine⟨_,rfl,d4,?_⟩
    try simp only[Act.put,zz1,zz2,zz3]
    rw[HO.out];exact aA ((hSt _ _ _).2 ⟨_,_,_,_,rfl,D3.trans (d4.mono D3.size),fun _=>rfl,fun e=>(h2 (by simpa using e)).imp fun _ h=>⟨h.1,h.2.belowAll d4⟩,fun e=>h3 (by simpa using e),fun e=>h4 (by simpa using e)⟩)
   case ts2=>
    intro dn a3 w3 hd hs;obtain⟨x72,x73,x74,x76,rfl,D3,h1,h2,h3,h4⟩:=(hSt _ _ _).1 hs;clear hs;obtain rfl:=h1 (hd 11 (by decide));clear hd;refine ai ?_;refine Al (x:= .agg (A8 O)) (size:=16) rfl (by show(A8 O).size=16;rw[ag,hOl]) (by omega) (by omega) underlying39 bN (fun w4 g4 b4 d4=> ?_);simp only[Act.put,zz1,zz2,zz3];exact aA ((hSt _ _ _).2 ⟨_,_,_,_,rfl,D3.trans (d4.mono D3.size),fun e=>h1 (by simpa using e),fun _=>⟨g4,rfl,b4⟩,fun e=>h3 (by simpa using e),fun e=>h4 (by simpa using e)⟩)
   case ts3=>
    intro dn a3 w3 hd hs;obtain⟨x72,x73,x74,x76,rfl,D3,h1,h2,h3,h4⟩:=(hSt _ _ _).1 hs;clear hs;obtain⟨g2,rfl,b2⟩:=h2 (hd 12 (by decide));clear hd;refine ai ?_;refine hqc ?_;go_simp;refine af ?_;refine(ov x O g2 1 1 w3 (RdS.of_blk b2 (by rw[hOl]) (by omega)) (by omega) hx).mono ?_;rintro e w4 ⟨rfl,d4⟩;refine⟨_,rfl,d4,?_⟩
    try simp only[Act.put,zz1,zz2,zz3]
    rw[Jg x O hOl,HX.out];exact aA ((hSt _ _ _).2 ⟨_,_,_,_,rfl,D3.trans (d4.mono D3.size),fun e=>h1 (by simpa using e),fun e=>(h2 (by simpa using e)).imp fun _ h=>⟨h.1,h.2.belowAll d4⟩,fun _=>rfl,fun e=>h4 (by simpa using e)⟩)
   case ts4=>
    intro dn a3 w3 hd hs;obtain⟨x72,x73,x74,x76,rfl,D3,h1,h2,h3,h4⟩:=(hSt _ _ _).1 hs;clear hs;obtain rfl:=h3 (hd 13 (by decide));clear hd;refine ai ?_;have E3:=B1.out.drew.trans (D3.mono B1.out.size);refine hqc ?_;go_simp;refine af ?_;refine(kw pt X KT gk 0 10 ck w3 (HK.out.below E3).tab hXl (RK.out.drew.below D3) (by omega)).mono ?_;rintro e w4 ⟨rfl,d4⟩;refine⟨_,rfl,d4,?_⟩
    try simp only[Act.put,zz1,zz2,zz3]
    rw[HR.out];exact aA ((hSt _ _ _).2 ⟨_,_,_,_,rfl,D3.trans (d4.mono D3.size),fun e=>h1 (by simpa using e),fun e=>(h2 (by simpa using e)).imp fun _ h=>⟨h.1,h.2.belowAll d4⟩,fun e=>h3 (by simpa using e),fun _=>rfl⟩)
   case tR=>
    intro dn a3 w3 hall hs;obtain⟨x72,x73,x74,x76,rfl,D3,h1,h2,h3,h4⟩:=(hSt _ _ _).1 hs;clear hs hSt;obtain rfl:=h1 (hall 11 (by simp));obtain⟨g2,rfl,b2⟩:=h2 (hall 12 (by simp));obtain rfl:=h3 (hall 13 (by simp));obtain rfl:=h4 (hall 15 (by simp));clear hall;refine bI ?_;refine aq (Z1.out.drew.belowAll D3) rfl rfl (by rw[ag,ag,hRl,ah]) (aH _) (by rw[ag,hRl];exact sizeOf42 _) (fun w4 k4 g5 s4=> ?_);have E3:=B1.out.drew.trans (D3.mono B1.out.size);have BD:=E3.trans (ae g5 (by omega) E3.size);refine az ⟨⟨BD,(P1.out.drew.belowAll D3).grown g5 (by simp)⟩,?_⟩;refine cQ (hK' _ _ ?_);have r3:=k4.row;have BB:=hid BD;clear hK' D3 E3 BD g5 s4 k4;go_wp2;refine aj (A8 R) rfl rfl rfl (isAgg42 _) (sizeOf42 _) (by rw[ag];exact hRl) r3 ⟨by rw[HRR.out],BB.out⟩
end Go.Proofs.YtddkbkbpogcffaaGreatDoor
