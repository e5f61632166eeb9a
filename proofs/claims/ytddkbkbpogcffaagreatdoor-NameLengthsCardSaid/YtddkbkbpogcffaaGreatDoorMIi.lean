/-xctr:Block-/
import Derived.Test.YtddkbkbpogcffaaGreatDoorMGh
import Derived.Test.YtddkbkbpogcffaaGreatDoorMXctrP
import Derived.Test.YtddkbkbpogcffaaGreatDoorMGb
import Derived.WalkMore
namespace Go.Proofs.YtddkbkbpogcffaaGreatDoor
open Go.Proofs.Tryz
open Lib (hid)
set_option linter.unusedSimpArgs false
set_option linter.unusedVariables false
set_option maxRecDepth 100000
set_option maxHeartbeats 1600000
open Go.RowKit
def ou(L:Y8)(m:Nat)(s:Y8)(y:BitVec 64):Y8:=encS L m (xctS s y)
theorem iW(L:Y8)(m:Nat)(s:Y8)(y:BitVec 64):(ou L m s y).length=16:=dp _ _ _
@[go_sem ↓ high] theorem Jf(l:Y8)(j:Nat)(w:World)(h:j<l.length)(hn:j<8):(Instr.index 107 (.agg (A8 l)) (.int .i64 j)).run prog w= .ok (v8 (nth l j)) w:=
 qX (n:=8) (e:=5) (by kernel_rfl) (isAgg5 _) (sizeOf5 _) l j h hn
theorem Ag(k p m:Nat)(L s:Y8)(y:BitVec 64)(w:World)(h:KeyAt w k p m L)(hs:s.length=16)(hm:3≤m)(hm2:m≤100):
  Calls prog 283 #[.pointer (some ⟨k,0,none⟩),.agg (A8 s),v64 y] w fun e w' =>e= .returned (.agg (A8 (ou L m s y)))∧Below w.heap.size w w':=by
 obtain⟨W,hW⟩: ∃W,(w.alloc (.cells (A8 s) 42)).alloc (.cells (A8 (ac 8 16)) 42)=W:=⟨_,rfl⟩;obtain⟨b0,b1,hb,hz⟩:=new2 _ _ _ _ _ _ hW;have HH:=hid h;have P0:=hid b0;have Z0:=hid b1;have B0:=hid hb;clear b0 b1 hb hz h;go_enter func283,ntmps283;go_wp2_with fail;clear hW;refine(aM y _).mono ?_;rintro e w1 ⟨rfl,d1⟩;have P1:=hid (P0.out.belowAll d1);have Z1:=hid (Z0.out.belowAll d1);have B1:=hid (B0.out.trans (d1.mono B0.out.size));have hel:=ep y;obtain⟨E,hE⟩: ∃E,E=le64 y:=⟨_,rfl⟩;rw[←hE]at hel⊢;have HE:=hid hE;clear hE P0 Z0 B0 d1;go_wp2_with fail;go_loopw [11] (fun i wr=> ∃j:Nat,j≤8∧i= .int .i64 j∧Blk wr w.heap.size 42 (A8 (xrTo s E j))∧Blk wr (w.heap.size+1) 42 (A8 (ac 8 16))∧Below w.heap.size w wr) (fun i _=>8-(intOf i).toNat)
 case atStart=>exact⟨0,by omega,rfl,by rw[ub s E hs];exact P1.out,Z1.out,B1.out⟩
 case round=>
  obtain⟨j,hj,rfl,hP,hZ,hB⟩:=hrel;have P2:=hid hP;have Z2:=hid hZ;have B2:=hid hB;clear hP hZ hB P1 Z1 B1;by_cases hj8:j<8
  ·have j1:(j:Int)<8:=by omega
   have j0:(0:Int)≤(j:Int):=by omega
   have j2:(j:Int)<16:=by omega
   have jl:j<E.length:=by omega
   have c1:=P2.out.cell8 (et s E j) j (by omega);rw[wS s E j (by omega)]at c1;have fo:=P2.out.frozen j;have kk:=P2.out.set_ j (v8 (nth s j^^^nth E j));rw[eL,wT s E j (by omega)]at kk;have P3:=hid kk;have Z3:=hid (Z2.out.far (p:=⟨w.heap.size,j,none⟩) (by simp) (v8 (nth s j^^^nth E j)));have B3:=hid (B2.out.setCell (p:=⟨w.heap.size,j,none⟩) (by simp) (v8 (nth s j^^^nth E j)));clear kk P2 Z2 B2;go_wp2;exact⟨⟨j+1,by omega,by go_num,P3.out,Z3.out,B3.out⟩,by simp[intOf];omega⟩
  ·obtain rfl:j=8:=by omega
   obtain⟨x,hx⟩: ∃x,x=xrTo s E 8:=⟨_,rfl⟩;have hxl:x.length=16:=by rw[hx];exact et _ _ _
   have hxe:encS L m x=ou L m s y:=by rw[hx,HE.out];rfl
   have HX:=hid hxe;have P3:=P2.out;rw[←hx]at P3;have r1:=P3.row;obtain⟨U,hU⟩: ∃U,U=ou L m s y:=⟨_,rfl⟩;have hUl:U.length=16:=by rw[hU];exact iW _ _ _ _
   have HU:=hid hU;clear hx hxe P3 hU;go_wp2_with fail;refine(fS k p m L x wr (HH.out.below B2.out) hxl hm hm2).mono ?_;rintro e w3 ⟨rfl,d3⟩;rw[HX.out,←HU.out];have z3:=Z2.out.belowAll d3;have r3:=z3.row;have r4:=z3.whole;have B3:=B2.out.trans (d3.mono B2.out.size);have r5:=(z3.put (A8 U)).row;have B4:=below_setRow B3 (show w.heap.size≤w.heap.size+1 by omega) (A8 U);clear z3 d3 B3;go_wp2;rw[←HU.out];refine aj (A8 U) rfl rfl rfl (isAgg42 _) (sizeOf42 _) (by rw[ag];exact hUl) r5 ⟨rfl,B4⟩
open Go.RowKit
def xnum(L:Y8)(m:Nat)(s:Y8)(j:Nat):Y8:=ou L m s (BitVec.ofNat 64 (j+1))
def iX(L:Y8)(m:Nat)(s l:Y8):Y8:=kU (xnum L m s) l
theorem fN(L:Y8)(m:Nat)(s l:Y8):(iX L m s l).length=l.length:=dx _ _
def xH:Value→Nat
 | .slice _ n _=>n
 |_=>0
def Kw(w:World)(k m:Nat)(L s l:Y8)(a':Act)(w':World):Prop:=
 ∃(j n:Nat) (y:BitVec 64) (a:Option Addr) (c:Nat) (v:Value),(∃u:Nat→Value,a' ={tmps:=(fun u:Nat→Value=> #[.pointer (some ⟨k,0,none⟩),.agg (A8 s),.slice a n c,u 3,.pointer (some ⟨w.heap.size,0,none⟩),u 5,.slice none 0 0,.int .i64 0,v,v64 y,u 10,u 11,u 12,u 13,u 14,u 15,u 16,u 17,u 18,u 19,u 20,u 21,u 22,u 23,u 24,u 25,u 26,u 27,u 28,u 29,u 30,u 31,u 32,u 33,u 34,u 35,u 36]) u,defers:=[]})∧
  y=BitVec.ofNat 64 (j+1)∧n=l.length-16*j∧Rd8 w a n c (l.drop (16*j))∧Blk w' w.heap.size 42 (A8 s)∧Own8 w' (w.heap.size+1) 5 v ((iX L m s l).take (16*j))∧Below w.heap.size w w'
theorem Ah(k p m:Nat)(L s l:Y8)(a:Option Addr)(n c:Nat)(w:World)(h:KeyAt w k p m L)(hs:s.length=16)(hm:3≤m)(hm2:m≤100)(hr:Rd8 w a n c l)(hsz:n≤140737488355328):
  Calls prog 280 #[.pointer (some ⟨k,0,none⟩),.agg (A8 s),.slice a n c] w fun e w' => ∃v,e= .returned (.tuple #[v,.int .i64 0])∧Own8 w' w.heap.size 5 v (iX L m s l)∧Below w.heap.size w w':=by
 go_enter func280,ntmps280;go_wp2;have Hr:=hid hr;have HH:=hid h;refine bd 0 (Kw w k m L s l) (fun a' _=>xH (a'.tmps.getD 2 undef)) rfl (fun hrest=> ?_) ?_
 ·obtain⟨W,hW⟩: ∃W,(w.alloc (.cells (A8 s) 42))=W:=⟨_,rfl⟩;obtain⟨b0,hb,hz⟩:=new1 _ _ _ _ hW;rw[hW];have hmk:=cE (P:=prog) W 22 5 0 n underlying22 bM (by omega) (by omega) (by omega);rw[Int.toNat_natCast,Int.toNat_zero]at hmk;have hln:=hr.1;clear hW;go_wp2;go_step3;obtain⟨W4,hW4⟩: ∃W4,W4=W.alloc (.cells (A8 (ac 8 n)) 5):=⟨_,rfl⟩;have q1:=b0.alloc (.cells (A8 (ac 8 n)) 5);have q3:=Own8.made W (w.heap.size+1) 5 (ac 8 n) 0 (by have:=b0.lt;omega) (by simp) (by rw[ah];unfold maxLen;omega);have q4:=hb.alloc hb.size (.cells (A8 (ac 8 n)) 5);rw[←hW4]at q1 q3 q4⊢;rw[ah]at q3;refine ‹∀(a:Act) (w_1:World),Code.wp _ _ _ a w_1→_› _ _ (hrest _ _ ?_);refine⟨0,n,1#64,a,c,.slice (some ⟨W.heap.size,0,none⟩) 0 n,aE _ ?_,rfl,by omega,?_,q1,q3,q4⟩
  ·rw[hz];rfl
  rw[Nat.mul_zero,List.drop_zero];exact hr
 ·rintro a' w' ⟨j,n,y,a,c,v,⟨u,rfl⟩,hy,hn',hr,hk0,hov,hB⟩;by_cases hn0:n=0
  ·have hfin:(iX L m s l).take (16*j)=iX L m s l:=List.take_of_length_le (by rw[fN];omega);rw[hfin]at hov;have O:=hid (hov.base (show w.heap.size≤w.heap.size+1 by omega));have B:=hid hB;clear hr hk0 hov hB hn' hfin;subst hn0;go_wp2;simp only[Exit.jump];go_ret2;exact⟨_,rfl,O.out,B.out⟩
  ·have O:=hid hov;have B:=hid hB;have R:=hid hr;have G:=hid hk0;have N0:=hid hn';have HY:=hid hy;have r1:=hk0.row;clear hr hk0 hov hB hn' hy;have n0: ¬(n:Int)=0:=by omega
   go_wp2_with fail;refine(Ag k p m L s y w' (HH.out.below B.out) hs hm hm2).mono ?_;rintro e w3 ⟨rfl,hb3⟩;obtain⟨blo,hblo⟩: ∃blo,blo=ou L m s y:=⟨_,rfl⟩;rw[←hblo];have hbl:blo.length=16:=by rw[hblo,iW]
   have O3:=hid ((O.out.below hb3).alloc (.cells (A8 blo) 42));have G3:=hid ((G.out.belowAll hb3).alloc (.cells (A8 blo) 42));have P3:=hid (Blk.new w3 42 (A8 blo));have hB3:=B.out.trans (hb3.mono B.out.size);have B3:=hid (hB3.alloc hB3.size (.cells (A8 blo) 42));have HB:=hid hblo;clear hb3 hB3 O G B r1 hblo;go_wp2_with fail;generalize w3.alloc (.cells (A8 blo) 42)=W3 at*;generalize w3.heap.size=p3 at*;have R3:=hid (P3.out.rd8 16 (by omega) (by rw[hbl];unfold maxLen;omega));rw[hbl,List.take_of_length_le (by omega)]at R3;refine(fK _ _ _ _ _ _ _ _ W3 (R.out.below B3.out) R3.out (by omega)).mono ?_;rintro e w4 ⟨pv,rfl,hpo,hb4⟩;obtain⟨pa,pc,hpv,hpr,hpl⟩:=hpo.rd;subst hpv;have hxl:(xorl (l.drop (16*j)) blo).length=min n 16:=by rw[aJ,hbl,R.out.1]
   rw[hxl]at hpr⊢;obtain⟨q,hq'⟩: ∃q,q=min n 16:=⟨_,rfl⟩;rw[←hq']at hpr⊢;have hcl:(iX L m s l).length=l.length:=fN _ _ _ _;have hcut:=N0.out;have hll:=Hr.out.1;have O4:=hid (O3.out.below hb4);have G4:=hid (G3.out.belowAll hb4);have hB4:=B3.out.trans (hb4.mono B3.out.size);have B4:=hid hB4;have PR:=hid hpr;have hlen:((iX L m s l).take (16*j)).length+q≤140737488355328:=by simp[hcl];omega
   have HLEN:=hid hlen;have hqn:q≤n:=by omega
   have HQN:=hid hqn;have QQ:=hid hq';have LL:=hid hll;clear hb4 hpr hpl hpo hB4 hxl hcl hcut hll hq' hlen hqn O3 G3 P3 R3 B3;go_upto_region 9 with fail;refine aG [0,0,2,0] rfl (fun ops' K2 hK2=> ?_)
   repeat (first|((with_reducible refine zq0 ?_);refine zq0a ?_)|((with_reducible refine zq1 ?_);refine zq1a ?_))
   refine bE O4.out PR.out rfl rfl underlying22 bM HLEN.out (by have:=G4.out.lt;omega) (fun w5 v5 o5 g5 b5=> ?_);simp only[Act.put,zz1,zz2,zz3]
   repeat (first|((with_reducible refine zq0 ?_);refine zq0a ?_)|((with_reducible refine zq1 ?_);refine zq1a ?_))
   refine az (hK2 _ _ ?_);rw[show iX L m s l=kU (xnum L m s) l from rfl]at o5;rw[show xorl (l.drop (16*j)) blo=xorl (l.drop (16*j)) (xnum L m s j) by rw[HB.out,xnum,HY.out],AV _ _ _ (iW _ _ _ _)]at o5;have O5:=hid o5;have G5:=hid (G4.out.grown g5 (O4.out.apart (by omega)));have B5:=hid (B4.out.trans (b5.mono (by omega)));have R5:=hid (R.out.cut (j:=q) (k:=n) HQN.out (Nat.le_refl _));have nc:(n:Int)≤(c:Int):=by have:=R.out.2.1;omega
   have kn:(q:Int)≤(n:Int):=by have:=HQN.out;omega
   have k0:(0:Int)≤(q:Int):=by omega
   clear o5 g5 b5 O4 G4 B4 R PR;go_wp2
   all_goals
    go_step3;refine⟨rfl,⟨j+1,n-q,y+1#64,_,_,v5,aE _ rfl,by rw[HY.out];simp[BitVec.ofNat_add],by have:=N0.out;have:=QQ.out;omega,?_,G5.out,O5.out,B5.out⟩,?_⟩
    ·have h5:=R5.out;have e5:(List.drop (16*j) l).length=n:=by rw[List.length_drop,N0.out]
     rw[List.take_of_length_le (by omega),List.drop_drop]at h5;have e6:(l.drop (16*j+q))=l.drop (16*(j+1)):=by
      have:=N0.out;have:=QQ.out;by_cases h6:n≤16
      ·rw[List.drop_eq_nil_of_le (by omega),List.drop_eq_nil_of_le (by omega)]
      ·rw[show 16*j+q=16*(j+1) by omega]
     rw[e6]at h5;by_cases hcq:c=q
     ·first|(exfalso;exact ‹¬c=q› hcq)|simpa[hcq]using h5
     ·first|(exfalso;exact hcq ‹c=q›)|simpa[hcq]using h5
    ·simp[xH];have:=QQ.out;omega
end Go.Proofs.YtddkbkbpogcffaaGreatDoor
