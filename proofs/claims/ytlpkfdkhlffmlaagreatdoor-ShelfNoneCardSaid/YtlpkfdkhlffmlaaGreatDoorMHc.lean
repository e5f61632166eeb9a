/-What math/bits.RotateLeft32 makes of a number,turned by 0 to 31. -/
import Derived.Test.YtlpkfdkhlffmlaaGreatDoorRows
import Derived.Test.YtlpkfdkhlffmlaaGreatDoorMGa
import Derived.Test.YtlpkfdkhlffmlaaGreatDoorMGb
import Derived.Test.YtlpkfdkhlffmlaaGreatDoorMGt
import Derived.Lib.SlBytesConst
import Derived.Test.YtlpkfdkhlffmlaaGreatDoorMGs
import Derived.WalkMore
import Derived.Test.YtlpkfdkhlffmlaaGreatDoorMGu
namespace Go.Proofs.YtlpkfdkhlffmlaaGreatDoor
open Go.Proofs.Tryz
open Lib (hid)
set_option linter.unusedSimpArgs false
set_option linter.unusedVariables false
set_option maxRecDepth 100000
set_option maxHeartbeats 1600000
open Go.RowKit
theorem ug(k:Int)(h0:0≤k)(h1:k<32):amt (BitVec.ofInt 64 k&&&31#64)=k.toNat:=by
 obtain⟨m,rfl⟩:=Int.eq_ofNat_of_zero_le h0;have hm:m<32:=by omega
 unfold amt;rw[BitVec.ofInt_natCast,Int.toNat_natCast];have: ∀i:Fin 32,(BitVec.ofNat 64 i.1&&&31#64).toNat=i.1:=by decide
 exact this ⟨m,hm⟩
theorem uh(k:Int)(h0:0≤k)(h1:k<32):amt (32#64-(BitVec.ofInt 64 k&&&31#64))=32-k.toNat:=by
 obtain⟨m,rfl⟩:=Int.eq_ofNat_of_zero_le h0;have hm:m<32:=by omega
 unfold amt;rw[BitVec.ofInt_natCast,Int.toNat_natCast];have: ∀i:Fin 32,(32#64-(BitVec.ofNat 64 i.1&&&31#64)).toNat=32-i.1:=by decide
 exact this ⟨m,hm⟩
def jw(x:BitVec 32)(k:Nat):BitVec 32:=x<<<k|||x>>>(32-k)
theorem ui(x:BitVec 32)(k:Int)(w:World)(h0:0≤k)(h1:k<32):
  Calls prog 196 #[v32 x,.int .i64 k] w fun e w' =>e= .returned (v32 (jw x k.toNat))∧w=w':=by
 go_enter func196,ntmps196;go_wp2;go_ret;refine⟨?_,rfl⟩;show Ending.returned (v32 (x<<<amt (BitVec.ofInt 64 k&&&31#64)|||x>>>amt (32#64-(BitVec.ofInt 64 k&&&31#64))))=_;rw[ug k h0 h1,uh k h0 h1];rfl
open Go.RowKit
def yz(a b d:BitVec 32)(k:Nat):BitVec 32×BitVec 32:=(a+b,jw (d^^^(a+b)) k)
theorem rv(a b d:BitVec 32)(k:Int)(w:World)(h0:0≤k)(h1:k<32):
  Calls prog 184 #[v32 a,v32 b,v32 d,.int .i64 k] w fun e w' =>e= .returned (.tuple #[v32 (yz a b d k.toNat).1,v32 (yz a b d k.toNat).2])∧w=w':=by
 go_enter func184,ntmps184;go_wp2_with (go_at_call 196;refine(ui _ _ _ h0 h1).mono ?_;rintro e w' ⟨rfl,rfl⟩);go_ret2;exact⟨rfl,rfl⟩
def iO(a b c d:BitVec 32):BitVec 32×BitVec 32×BitVec 32×BitVec 32:=
 let a1:=a+b
 let d1:=jw (d^^^a1) 16
 let c1:=c+d1
 let b1:=jw (b^^^c1) 12
 let a2:=a1+b1
 let d2:=jw (d1^^^a2) 8
 let c2:=c1+d2
 let b2:=jw (b1^^^c2) 7
 (a2,b2,c2,d2)
theorem pC(a b c d:BitVec 32)(w:World):
  Calls prog 161 #[v32 a,v32 b,v32 c,v32 d] w fun e w' =>e= .returned (.tuple #[v32 (iO a b c d).1,v32 (iO a b c d).2.1,v32 (iO a b c d).2.2.1,v32 (iO a b c d).2.2.2])∧w=w':=by
 go_enter func161,ntmps161;go_wp2_with (go_at_call 184;refine(rv _ _ _ _ _ (by omega) (by omega)).mono ?_;rintro e w' ⟨rfl,rfl⟩);refine bodyPost_ret (nJ rfl _ _ _) rfl ?_;exact⟨rfl,rfl⟩
open Go.RowKit
def ry(s:List (BitVec 32))(i j k l:Nat):List (BitVec 32):=
 let q:=iO (nth s i) (nth s j) (nth s k) (nth s l)
 (((s.set i q.1).set j q.2.1).set k q.2.2.1).set l q.2.2.2
theorem mv(s:List (BitVec 32))(i j k l:Nat):(ry s i j k l).length=s.length:=by simp[ry]
def cI(s:List (BitVec 32))(b:Nat):Nat→List (BitVec 32)
 |0=>s
 |i+1=>ry (cI s b i) i (4+(i+b) %4) (8+(i+2*b) %4) (12+(i+3*b) %4)
theorem cJ(s:List (BitVec 32))(b i:Nat):(cI s b i).length=s.length:=by
 induction i with
 |zero=>rfl
 |succ i ih=>rw[cI,mv,ih]
theorem mS(s:List (BitVec 32))(g b:Nat)(w:World)(hs:s.length=16)(hb:Blk w g 233 (A32 s))(hb1:b≤1):
  Calls prog 150 #[.pointer (some ⟨g,0,none⟩),.int .i64 b] w fun e w' =>e= .returned (.tuple #[])∧w.grownBy w' (some g)∧Blk w' g 233 (A32 (cI s b 4)):=by
 have Hb:=hid hb;clear hb;go_enter func150,ntmps150;go_wp2;go_loopw [8] (fun i wr=> ∃j:Nat,j≤4∧i= .int .i64 j∧Blk wr g 233 (A32 (cI s b j))∧w.grownBy wr (some g)) (fun i _=>4-(intOf i).toNat)
 case atStart=>exact⟨0,Nat.zero_le _,rfl,Hb.out,dK _ _⟩
 case round=>
  obtain⟨i,hi,rfl,hblk,hgr⟩:=hrel;have Hg:=hid hgr;have Hk:=hid hblk;clear hgr hblk;by_cases hi4:i<4
  ·go_wp2_with fail;obtain⟨j,hj⟩: ∃j:Nat,j=4+(i+b) %4:=⟨_,rfl⟩;obtain⟨k,hk⟩: ∃k:Nat,k=8+(i+2*b) %4:=⟨_,rfl⟩;obtain⟨m,hm⟩: ∃m:Nat,m=12+(i+3*b) %4:=⟨_,rfl⟩;rw[show(4+((i:Int)+(b:Int)) %4)=(j:Int) by omega,show(8+((i:Int)+2*(b:Int)) %4)=(k:Int) by omega,show(12+((i:Int)+3*(b:Int)) %4)=(m:Int) by omega];have Hj:=hid hj;have Hkk:=hid hk;have Hm:=hid hm;have bj:j<16:=by omega
   have bk:k<16:=by omega
   have bm:m<16:=by omega
   have bi:i<16:=by omega
   have cj:(j:Int)<16:=by omega
   have ck:(k:Int)<16:=by omega
   have cm:(m:Int)<16:=by omega
   have ci:(i:Int)<16:=by omega
   have n1:(0:Int)≤j:=by omega
   have n2:(0:Int)≤k:=by omega
   have n3:(0:Int)≤m:=by omega
   have n4:(0:Int)≤i:=by omega
   clear hj hk hm;have hl:(cI s b i).length=16:=by rw[cJ,hs]
   have hblk:=Hk.out;have hc:=hblk.cell32 hl;have HL:=hid hl;have Hblk:=hid hblk;clear hl hblk Hk;refine az [0,0,0,0,0,0,0,0,0,0,0,0,1,0,0,0,0,1,0,0,0,0,1,0,0,0,0,1,3,0,0,0,0,0,0,0,2,0,0,2,0,0,2,0,0,2] (by kernel_rfl) (by kernel_rfl) (fun ops' K' hK' => ?_)
   repeat (first|((with_reducible refine zq0 ?_);refine zq0a ?_)|((with_reducible refine zq1 ?_);refine zq1a ?_))
   ((with_reducible refine lA (v:= ?_) (a':= ?_) rfl (fun _=> ?_) ?_ ?_);rotate_left;rotate_left)
   ·go_simp;refine cu ?_;exact pC _ _ _ _ _
   ·(simp only[Act.put,zz1,zz2,zz3,Act.eval,zz4,zz5,zz6,zz7,zz8];exact rfl)
   clear hc
   repeat (first|((with_reducible refine zq0 ?_);refine zq0a ?_)|((with_reducible refine zq1 ?_);refine zq1a ?_))
   refine eQ Hblk.out.drew rfl rfl (by rw[HL.out];omega) (sizeOf69 _) (fun w1 hb1 hg1 _=> ?_);have Hb1:=hid hb1;have Hg1:=hid hg1;clear hb1 hg1
   repeat (first|((with_reducible refine zq0 ?_);refine zq0a ?_)|((with_reducible refine zq1 ?_);refine zq1a ?_))
   refine eQ Hb1.out rfl rfl (by simp[HL.out];omega) (sizeOf69 _) (fun w2 hb2 hg2 _=> ?_);have Hb2:=hid hb2;have Hg2:=hid hg2;clear hb2 hg2
   repeat (first|((with_reducible refine zq0 ?_);refine zq0a ?_)|((with_reducible refine zq1 ?_);refine zq1a ?_))
   refine eQ Hb2.out rfl rfl (by simp[HL.out];omega) (sizeOf69 _) (fun w3 hb3 hg3 _=> ?_);have Hb3:=hid hb3;have Hg3:=hid hg3;clear hb3 hg3
   repeat (first|((with_reducible refine zq0 ?_);refine zq0a ?_)|((with_reducible refine zq1 ?_);refine zq1a ?_))
   refine eQ Hb3.out rfl rfl (by simp[HL.out];omega) (sizeOf69 _) (fun w4 hb4 hg4 _=> ?_);have Hb4:=hid hb4;have Hg4:=hid hg4;clear hb4 hg4;refine ak (hK' _ _ ?_);go_wp2;refine⟨⟨i+1,by omega,by go_num,?_,av Hg.out (av (av (av (av (kO (dK _ _)) Hg1.out) Hg2.out) Hg3.out) Hg4.out)⟩,by simp[intOf];omega⟩;rw[cI,←Hj.out,←Hkk.out,←Hm.out];exact Hb4.out
  ·obtain rfl:i=4:=by omega
   go_wp2;go_end0;exact⟨rfl,Hg.out,Hk.out⟩
def wn(s:List (BitVec 32)):List (BitVec 32):=cI (cI s 0 4) 1 4
theorem oo(s:List (BitVec 32)):(wn s).length=s.length:=by rw[wn,cJ,cJ]
def eU(s:List (BitVec 32)):Nat→List (BitVec 32)
 |0=>s
 |n+1=>wn (eU s n)
theorem cd(s:List (BitVec 32))(n:Nat):(eU s n).length=s.length:=by
 induction n with
 |zero=>rfl
 |succ n ih=>rw[eU,oo,ih]
open Go.RowKit
theorem rA(s:List (BitVec 32))(g:Nat)(w:World)(hs:s.length=16)(hb:Blk w g 233 (A32 s)):
  Calls prog 150 #[.pointer (some ⟨g,0,none⟩),.int .i64 0] w fun e w' =>e= .returned (.tuple #[])∧w.grownBy w' (some g)∧Blk w' g 233 (A32 (cI s 0 4)):=mS s g 0 w hs hb (by omega)
theorem rB(s:List (BitVec 32))(g:Nat)(w:World)(hs:s.length=16)(hb:Blk w g 233 (A32 s)):
  Calls prog 150 #[.pointer (some ⟨g,0,none⟩),.int .i64 1] w fun e w' =>e= .returned (.tuple #[])∧w.grownBy w' (some g)∧Blk w' g 233 (A32 (cI s 1 4)):=mS s g 1 w hs hb (by omega)
theorem mU(s:List (BitVec 32))(r:Int)(w:World)(hs:s.length=16)(hr0:0≤r)(hr:r≤20):
  Calls prog 131 #[.agg (A32 s),.int .i64 r] w fun e w' =>e= .returned (.agg (A32 (eU s (r.toNat/2))))∧Below w.heap.size w w':=by
 have Hs:=hid hs;obtain⟨n,rfl⟩:=Int.eq_ofNat_of_zero_le hr0;obtain⟨q,hq⟩: ∃q:Nat,q=n/2:=⟨_,rfl⟩;have hqi:(n:Int)/2=(q:Int):=by omega
 have Hq:=hid hq;clear hq;go_enter func131,ntmps131;go_wp2;go_loopw [7] (fun i wr=> ∃j:Nat,j≤q∧i= .int .i64 j∧Blk wr w.heap.size 233 (A32 (eU s j))∧Blk wr (w.heap.size+1) 233 (A32 (aa 32 16))∧Below w.heap.size w wr) (fun i _=>q-(intOf i).toNat)
 case atStart=>exact⟨0,Nat.zero_le _,rfl,(Blk.new _ _ _).alloc _,(by have h:=Blk.new (w.alloc (.cells (A32 s) 233)) 233 (A32 (aa 32 16));rw[World.size_alloc]at h;exact h),((Below.refl _ _).alloc (Nat.le_refl _) _).alloc (by simp) _⟩
 case round=>
  obtain⟨j,hj,rfl,hb1,hb2,hbel⟩:=hrel;have H1:=hid hb1;have H2:=hid hb2;have H3:=hid hbel;have hl:(eU s j).length=16:=by rw[cd,hs]
  have Hl:=hid hl;clear hb1 hb2 hbel;by_cases hlt:j<q
  ·clear hl;go_wp2_with fail;refine(rA _ _ _ Hl.out H1.out).mono ?_;rintro e w1 ⟨rfl,hg1,hk1⟩;have G1:=hid hg1;have K1:=hid hk1;clear hg1 hk1;go_wp2_with fail;refine(rB _ _ _ (by rw[cJ];exact Hl.out) K1.out).mono ?_;rintro e w2 ⟨rfl,hg2,hk2⟩;have G2:=hid hg2;have K2:=hid hk2;clear hg2 hk2;go_wp2;exact⟨⟨j+1,by omega,by go_num,K2.out,(H2.out.grown G1.out (by simp)).grown G2.out (by simp),(H3.out.trans (ac G1.out (Nat.le_refl _) H3.out.size)).trans (ac G2.out (Nat.le_refl _) (Nat.le_trans H3.out.size G1.out.size))⟩,by simp[intOf];omega⟩
  ·obtain rfl:j=q:=by omega
   have r1:=H1.out.row;have r2:=H2.out.row;have r3:=H2.out.whole;go_wp2;refine ag (A32 (eU s j)) rfl rfl rfl (isAgg233 _) (sizeOf233 _) (by rw[bI];exact Hl.out) (ah _ r3) ⟨?_,below_setRow H3.out (by omega) _⟩;rw[Int.toNat_natCast,←Hq.out]
theorem mV(r:Int)(w:World)(h:r=8∨r=12∨r=20):
  Calls prog 129 #[.int .i64 r] w fun e w' =>e= .returned (.int .i64 0)∧w=w':=by
 rcases h with rfl|rfl|rfl
 all_goals
  go_enter func129,ntmps129;go_wp2;go_ret;exact⟨rfl,rfl⟩
open Go.RowKit
def aF(l:List (BitVec 32)):Y8:=l.flatMap le32
theorem bx(l:List (BitVec 32)):(aF l).length=4*l.length:=by
 induction l with
 |nil=>rfl
 |cons x l ih=>simp only[aF,List.flatMap_cons,List.length_append,eg,List.length_cons]at*;omega
theorem lF(a b:List (BitVec 32)):aF (a++b)=aF a++aF b:=by simp[aF]
theorem mW {n:Nat}(m:List (BitVec n))(o:Nat)(x y:List (BitVec n))(h:o+x.length+y.length≤m.length):splc (splc m o x) (o+x.length) y=splc m o (x++y):=by
 have hx:=aL m o x (by omega);apply aD
 ·rw[aL _ _ _ (by omega),hx,aL _ _ _ (by simp;omega)]
 ·intro i _;rw[eJ _ _ _ (by omega),eJ _ _ _ (by omega),eJ _ _ _ (by simp;omega),bO];simp only[List.length_append];by_cases h1:i<o
  ·rw[if_neg (by omega),if_neg (by omega),if_neg (by omega)]
  ·by_cases h2:i<o+x.length
   ·rw[if_neg (by omega),if_pos (by omega),if_pos (by omega),if_pos (by omega)]
   ·by_cases h3:i<o+x.length+y.length
    ·rw[if_pos (by omega),if_pos (by omega),if_neg (by omega)];congr 1;omega
    ·rw[if_neg (by omega),if_neg (by omega),if_neg (by omega)]
theorem mw {n:Nat}(l:List (BitVec n))(j:Nat)(h:j<l.length):l.take (j+1)=l.take j++ [nth l j]:=by
 rw[List.take_succ_eq_append_getElem h,iB h]
theorem jy(s:List (BitVec 32))(m:Y8)(g o L C h off n c:Nat)(t T:TypeId)(w:World)(hb:Blk w g t (A8 m))(hs:Blk w h T (A32 s))(hne:h≠g)(hoff:off+n≤s.length)(hL:4*n≤L)(hLC:L≤C)(hC:C≤1000000)(ho:o+4*n≤m.length):
  Calls prog 132 #[.slice (some ⟨g,o,none⟩) L C,.slice (some ⟨h,off,none⟩) n c] w fun e w' =>e= .returned (.tuple #[])∧w.grownBy w' (some g)∧Blk w' g t (A8 (splc m o (aF ((s.drop off).take n)))):=by
 have Hb:=hid hb;have Hs:=hid hs;clear hb hs;go_enter func132,ntmps132;go_wp2;go_loopw [9] (fun i wr=> ∃j:Nat,j≤n∧i= .int .i64 j∧Blk wr g t (A8 (splc m o (aF ((s.drop off).take j))))∧w.grownBy wr (some g)) (fun i _=>n-(intOf i).toNat)
 case atStart=>exact⟨0,Nat.zero_le _,rfl,by rw[List.take_zero,show aF []=[] from rfl,oP];exact Hb.out,dK _ _⟩
 case round=>
  obtain⟨j,hj,rfl,hblk,hgr⟩:=hrel;have Hk:=hid hblk;have Hg:=hid hgr;clear hblk hgr;by_cases hjn:j<n
  ·have hx:wr.cell? ⟨h,off+j,none⟩=some (v32 (nth (s.drop off) j)):=by
    rw[bv];exact(Hs.out.grown Hg.out (by simpa using hne)).cell32 rfl _ (by omega)
   have i1:(j:Int)<(n:Int):=by omega
   have i0:(0:Int)≤(j:Int):=by omega
   go_wp2_with fail;refine(ei _ _).mono ?_;rintro e w1 ⟨rfl,hb1⟩;have B1:=hid hb1;have s1:=hb1.size;clear hb1 hx;go_wp2_with fail;have hnc: ¬C=4*j:=by omega
   have c1:(4*(j:Int))≤(L:Int):=by omega
   have c0:(0:Int)≤4*(j:Int):=by omega
   have c2:(4*(j:Int)).toNat=4*j:=by omega
   refine az [0,0,0,0,0,2] (by kernel_rfl) (by kernel_rfl) (fun ops' K' hK' => ?_)
   repeat (first|((with_reducible refine zq0 ?_);refine zq0a ?_)|((with_reducible refine zq1 ?_);refine zq1a ?_))
   have K1:=(Hk.out.belowAll B1.out).alloc (.cells (A8 (le32 (nth (s.drop off) j))) 75);have R1:=(Blk.new w1 75 (A8 (le32 (nth (s.drop off) j)))).rd8 4 (by simp) (by simp[maxLen]);rw[List.take_of_length_le (by simp)]at R1;have hpl:(aF ((s.drop off).take j)).length=4*j:=by rw[bx];simp;omega
   have e4:min 4 (L-4*j)=4:=by omega
   refine cH K1.drew R1.drew rfl rfl underlying22 eo ?_ ?_
   ·rw[aL _ _ _ (by omega)];omega
   rintro w2 v k2 g2 _;have e5:=mW m o (aF ((s.drop off).take j)) (le32 (nth (s.drop off) j)) (by rw[hpl];simp;omega);have e6:aF ((s.drop off).take j)++le32 (nth (s.drop off) j)=aF ((s.drop off).take (j+1)):=by
    rw[mw _ _ (by simp;omega),lF];simp[aF]
   rw[e4,List.take_of_length_le (l:=le32 _) (by simp),←hpl,e5,e6]at k2;have K2:=hid k2;have G2:=hid g2;clear k2 g2 e5 e6 e4 hpl R1 K1 c0 c1 c2 hnc;refine ak (hK' _ _ ?_);go_wp2;exact⟨⟨j+1,by omega,by go_num,K2.out,av Hg.out (av (aW B1.out _) (av (World.grownBy_alloc _ _ _) (av (kO (dK _ _)) G2.out)))⟩,by simp[intOf];omega⟩
  ·obtain rfl:j=n:=by omega
   go_wp2;go_end0;exact⟨rfl,Hg.out,Hk.out⟩
open Go.RowKit
def fk:Y8:=[101,120,112,97,110,100,32,51,50,45,98,121,116,101,32,107]
def bF(key inp:Y8):Nat→List (BitVec 32)
 |0=>aa 32 16
 |i+1=>((((bF key inp i).set i (word fk (4*i))).set (4+i) (word key (4*i))).set (8+i) (word key (4*i+16))).set (12+i) (word inp (4*i))
theorem bp(key inp:Y8)(i:Nat):(bF key inp i).length=16:=by
 induction i with
 |zero=>simp[bF]
 |succ i ih=>simp[bF,ih]
theorem jz(w:World)(c:Array Value)(t:TypeId)(f:Nat×Nat):ar (w.alloc (.cells c t f)) w.heap.size=c:=by
 unfold ar;rw[heap_alloc_new]
theorem rC(w:World)(e:TypeId)(f:Nat×Nat)(cs:Array Value)(h:cs=A8 fk):Rd8 (w.alloc (.cells cs e f)) (some ⟨w.heap.size,0,none⟩) 16 16 fk:=by
 subst h;exact Rd8.of_row (jz _ _ _ _) rfl (by simp) (by decide)
structure StartSt(w wr:World)(key inp:Y8)(s:List (BitVec 32)):Prop where
 k:Blk wr w.heap.size 143 (A8 key)
 i:Blk wr (w.heap.size+1) 154 (A8 inp)
 z:Blk wr (w.heap.size+2) 233 (A32 (aa 32 16))
 s:Blk wr (w.heap.size+3) 233 (A32 s)
 b:Below w.heap.size w wr
theorem StartSt.below {w wr w':World} {key inp:Y8} {s:List (BitVec 32)}(h:StartSt w wr key inp s)(hb:Below wr.heap.size wr w'):StartSt w w' key inp s:=
 ⟨h.k.belowAll hb,h.i.belowAll hb,h.z.belowAll hb,h.s.belowAll hb,h.b.trans (hb.mono h.b.size)⟩
theorem StartSt.alloc {w wr:World} {key inp:Y8} {s:List (BitVec 32)}(h:StartSt w wr key inp s)(o:Obj):StartSt w (wr.alloc o) key inp s:=
 h.below ((Below.refl _ _).alloc (Nat.le_refl _) _)
theorem StartSt.set_ {w wr:World} {key inp:Y8} {s:List (BitVec 32)}(h:StartSt w wr key inp s)(i:Nat)(x:BitVec 32):StartSt w (wr.setCell ⟨w.heap.size+3,i,none⟩ (v32 x)) key inp (s.set i x):=
 ⟨h.k.far (by simp) _,h.i.far (by simp) _,h.z.far (by simp) _,by have:=h.s.set_ i (v32 x);rw[gu]at this;exact this,h.b.setCell (by simp) _⟩
theorem mX(key inp:Y8)(w:World)(hk:key.length=32)(hi:inp.length=16):
  Calls prog 130 #[.agg (A8 key),.agg (A8 inp)] w fun e w' =>e= .returned (.agg (A32 (bF key inp 4)))∧Below w.heap.size w w':=by
 have kc:=fun(w:World) (C:Array Value) (n c:Nat)=>Go.Lib.run_convert_bytes_const (P:=prog) w 22 5 C n c underlying22 underlying5;have HK:=hid hk;have HI:=hid hi;go_enter func130,ntmps130;go_wp2;go_loopw [7] (fun i wr=> ∃j:Nat,j≤4∧i= .int .i64 j∧StartSt w wr key inp (bF key inp j)) (fun i _=>4-(intOf i).toNat)
 case atStart=>
  refine⟨0,Nat.zero_le _,rfl,?_⟩;have h0:=Blk.new w 143 (A8 key);have h1:=Blk.new (w.alloc (.cells (A8 key) 143)) 154 (A8 inp);have h2:=Blk.new ((w.alloc (.cells (A8 key) 143)).alloc (.cells (A8 inp) 154)) 233 (A32 (aa 32 16));have h3:=Blk.new (((w.alloc (.cells (A8 key) 143)).alloc (.cells (A8 inp) 154)).alloc (.cells (A32 (aa 32 16)) 233)) 233 (A32 (aa 32 16));simp only[World.size_alloc,Nat.add_assoc,Nat.reduceAdd]at h1 h2 h3;refine⟨((h0.alloc _).alloc _).alloc _,(h1.alloc _).alloc _,h2.alloc _,h3,?_⟩
  repeat (first|exact Below.refl _ _|assumption|refine Below.drew ?_|refine Below.alloc ?_ ?_ _|refine Below.setCell ?_ ?_ _|refine below_setRow ?_ ?_ _|refine Below.trans ?_ (Below.mono (by assumption) ?_))
  all_goals (first|(simp;done)|(simp;omega)|(simp at*;omega))
 case round=>
  obtain⟨j,hj,rfl,hst⟩:=hrel;have H:=hid hst;clear hst;by_cases hj4:j<4
  ·have hl:=bp key inp j;have HL:=hid hl;clear hl;have a0:(0:Int)≤(j:Int):=by omega
   have a1:(j:Int)<16:=by omega
   have a2:(0:Int)≤4+(j:Int):=by omega
   have a3:4+(j:Int)<16:=by omega
   have a4:(0:Int)≤8+(j:Int):=by omega
   have a5:8+(j:Int)<16:=by omega
   have a6:(0:Int)≤12+(j:Int):=by omega
   have a7:12+(j:Int)<16:=by omega
   go_wp2_with fail;have R0:=rC wr 5 (16,17) _ (show _=A8 fk from rfl);have H1:=hid (H.out.alloc (.cells (A8 fk) 5 (16,17)));refine(bW fk _ _ _ _ _ R0 (by omega) (by omega)).mono ?_;rintro e w1 ⟨rfl,hb1⟩;have H2:=hid (H1.out.below hb1);clear R0 hb1;have f1:=H2.out.s.cell32 HL.out j (by omega);have f2:=H2.out.s.frozen j;go_wp2_with fail;have H3:=hid (H2.out.set_ j (word fk (4*j)));clear f1 f2;have R1:=H3.out.k.rd8 32 (by omega) (by rw[hk];decide);rw[List.take_of_length_le (by omega),hk]at R1;refine(bW key _ _ _ _ _ R1 (by omega) (by omega)).mono ?_;rintro e w2 ⟨rfl,hb2⟩;have H4:=hid (H3.out.below hb2);clear R1 hb2;have f1:=H4.out.s.cell32 (m:=16) (by simp[HL.out]) (4+j) (by omega);have f2:=H4.out.s.frozen (4+j);go_wp2_with fail;have H5:=hid (H4.out.set_ (4+j) (word key (4*j)));clear f1 f2;have R1:=H5.out.k.rd8 32 (by omega) (by rw[hk];decide);rw[List.take_of_length_le (by omega),hk]at R1;refine(bW key _ _ _ _ _ R1 (by omega) (by omega)).mono ?_;rintro e w3 ⟨rfl,hb3⟩;have H6:=hid (H5.out.below hb3);clear R1 hb3;have f1:=H6.out.s.cell32 (m:=16) (by simp[HL.out]) (8+j) (by omega);have f2:=H6.out.s.frozen (8+j);go_wp2_with fail;have H7:=hid (H6.out.set_ (8+j) (word key (4*j+16)));clear f1 f2;have R1:=H7.out.i.rd8 16 (by omega) (by rw[hi];decide);rw[List.take_of_length_le (by omega),hi]at R1;refine(bW inp _ _ _ _ _ R1 (by omega) (by omega)).mono ?_;rintro e w4 ⟨rfl,hb4⟩;have H8:=hid (H7.out.below hb4);clear R1 hb4;have f1:=H8.out.s.cell32 (m:=16) (by simp[HL.out]) (12+j) (by omega)
   have f2:=H8.out.s.frozen (12+j);go_wp2;have H9:=hid (H8.out.set_ (12+j) (word inp (4*j)));exact⟨⟨j+1,by omega,by go_num,H9.out⟩,by simp[intOf];omega⟩
  ·obtain rfl:j=4:=by omega
   have r1:=H.out.s.row;have r2:=H.out.z.row;have r3:=H.out.z.whole;have hl:=bp key inp 4;go_wp2;refine ag (A32 (bF key inp 4)) rfl rfl rfl (isAgg233 _) (sizeOf233 _) (by rw[bI];exact hl) (ah _ r3) ⟨rfl,below_setRow H.out.b (by omega) _⟩
open Go.RowKit
def fm(t:List (BitVec 32)):Y8:=aF (t.take 4)++aF (t.drop 12)
theorem cK(t:List (BitVec 32))(h:t.length=16):(fm t).length=32:=by simp[fm,bx,h]
theorem rD(t:List (BitVec 32))(h:t.length=16):splc (splc (aa 8 32) 0 (aF ((t.drop 0).take 4))) 16 (aF ((t.drop 12).take 4))=fm t:=by
 have l1:(aF (t.take 4)).length=16:=by simp[bx,h]
 have l2:(aF (t.drop 12)).length=16:=by simp[bx,h]
 rw[List.drop_zero,List.take_of_length_le (l:=t.drop 12) (by simp[h])];have:=mW (aa 8 32) 0 (aF (t.take 4)) (aF (t.drop 12)) (by rw[l1,l2];simp);rw[l1,Nat.zero_add]at this;rw[this];apply aD
 ·rw[aL _ _ _ (by simp[l1,l2]),cK t h];simp
 ·intro i hi;rw[aL _ _ _ (by simp[l1,l2])]at hi;simp at hi;rw[eJ _ _ _ (by simp[l1,l2]),if_pos (by simp[l1,l2];omega),Nat.sub_zero];rfl
theorem uj(key inp:Y8)(r:Int)(w:World)(hk:key.length=32)(hi:inp.length=16)(h:r=8∨r=12∨r=20):
  Calls prog 93 #[.agg (A8 key),.agg (A8 inp),.int .i64 r] w fun e w' =>e= .returned (.tuple #[.agg (A8 (fm (eU (bF key inp 4) (r.toNat/2)))),.int .i64 0])∧Below w.heap.size w w':=by
 have HK:=hid hk;have HI:=hid hi;obtain⟨t,ht⟩: ∃t,t=eU (bF key inp 4) (r.toNat/2):=⟨_,rfl⟩;have hm:t.length=16:=by rw[ht,cd,bp]
 have HM:=hid hm;have HT:=hid ht;clear ht hm;go_enter func93,ntmps93;go_wp2_with fail;refine(mV _ _ h).mono ?_;rintro e w0 ⟨rfl,hw⟩;obtain⟨k0,k1,k2,k3,hb,hz⟩:=new4 _ _ _ _ _ _ _ _ _ _ hw;have r0:=k0.row;have r1:=k1.row;have K2:=hid k2;have K3:=hid k3;have B0:=hid hb;have Z0:=hid hz;clear hw k0 k1 k2 k3 hb hz;go_wp2_with fail;refine(mX key inp _ hk hi).mono ?_;rintro e w1 ⟨rfl,hb1⟩;have J2:=hid (K2.out.belowAll hb1);have J3:=hid (K3.out.belowAll hb1);have B1:=hid (B0.out.trans (hb1.mono B0.out.size));clear r0 r1 hb1 K2 K3;go_wp2_with fail;refine(mU (bF key inp 4) r _ (bp _ _ _) (by omega) (by omega)).mono ?_;rintro e w2 ⟨rfl,hb2⟩;rw[←HT.out];have I2:=hid (J2.out.belowAll hb2);have I3:=hid (J3.out.belowAll hb2);have B2:=hid (B1.out.trans (hb2.mono B1.out.size));clear hb2 J2 J3 B0 B1;have hm:=HM.out;go_wp2_with fail;clear hm;have hsz:=I3.out.lt;have T1:=Blk.new w2 233 (A32 t);refine az [0,0,2] (by kernel_rfl) (by kernel_rfl) (fun ops' K' hK' => ?_)
 repeat (first|((with_reducible refine zq0 ?_);refine zq0a ?_)|((with_reducible refine zq1 ?_);refine zq1a ?_))
 (with_reducible refine aM rfl ?_)
 go_simp;refine ae ?_;refine(jy t (aa 8 32) (w.heap.size+3) 0 32 32 w2.heap.size 0 4 16 143 233 _ (I3.out.alloc _).drew T1.drew (by omega) (by rw[HM.out];omega) (by omega) (by omega) (by omega) (by simp)).mono ?_;rintro e w3 ⟨rfl,hg3,hk3⟩;refine⟨_,rfl,?_⟩
 try simp only[Act.put,zz1,zz2,zz3]
 refine ak (hK' _ _ ?_);have T2:=hid ((T1.drew).grown hg3 (by simp;omega));have P2:=hid ((I2.out.alloc _).drew.grown hg3 (by simp));have P3:=hid hk3;have B3:=hid (((B2.out.alloc B2.out.size (.cells (A32 t) 233)).drew).trans (ac hg3 (by omega) (by simp;omega)));have sz3:=hg3.size;simp at sz3;clear T1 hg3 hk3;go_wp2_with fail;refine az [0,0,2] (by kernel_rfl) (by kernel_rfl) (fun ops' K2 hK2=> ?_)
 repeat (first|((with_reducible refine zq0 ?_);refine zq0a ?_)|((with_reducible refine zq1 ?_);refine zq1a ?_))
 (with_reducible refine aM rfl ?_)
 go_simp;refine ae ?_;refine(jy t (splc (aa 8 32) 0 (aF ((t.drop 0).take 4))) (w.heap.size+3) 16 16 16 w2.heap.size 12 4 4 143 233 _ P3.out.drew T2.out.drew (by omega) (by rw[HM.out];omega) (by omega) (by omega) (by omega) (by rw[aL _ _ _ (by simp[bx];omega)];simp)).mono ?_;rintro e w4 ⟨rfl,hg4,hk4⟩;refine⟨_,rfl,?_⟩
 try simp only[Act.put,zz1,zz2,zz3]
 refine ak (hK2 _ _ ?_);rw[rD t HM.out]at hk4;have Q2:=(P2.out.drew.grown hg4 (by simp));have r1:=hk4.row;have r2:=Q2.row;have r3:=Q2.whole;have hso:=cK t HM.out;have B4:=hid (B3.out.drew.trans (ac hg4 (by omega) (by simp;omega)));clear hk4 hg4 Q2 T2 P2 P3 B2 I2 I3;go_wp2;refine aY (A8 (fm t)) rfl rfl rfl (isAgg143 _) (sizeOf143 _) (by rw[au];exact hso) (ah _ r3) ⟨?_,below_setRow B4.out (by omega) _⟩;rw[←HT.out];rfl
def cL(t s:List (BitVec 32)):Nat→List (BitVec 32)
 |0=>t
 |i+1=>(cL t s i).set i (nth (cL t s i) i+nth s i)
theorem bK(t s:List (BitVec 32))(i:Nat):(cL t s i).length=t.length:=by
 induction i with
 |zero=>rfl
 |succ i ih=>rw[cL,List.length_set,ih]
def gz(s:List (BitVec 32))(n:Nat):Y8:=aF (cL (eU s n) s 16)
theorem lG(s:List (BitVec 32))(n:Nat)(h:s.length=16):(gz s n).length=64:=by
 rw[gz,bx,bK,cd,h]
theorem rE(key inp:Y8)(r:Int)(w:World)(hk:key.length=32)(hi:inp.length=16)(h:r=8∨r=12∨r=20):
  Calls prog 94 #[.agg (A8 key),.agg (A8 inp),.int .i64 r] w fun e w' =>e= .returned (.tuple #[.agg (A8 (gz (bF key inp 4) (r.toNat/2))),.int .i64 0])∧Below w.heap.size w w':=by
 obtain⟨s,hs⟩: ∃s,s=bF key inp 4:=⟨_,rfl⟩;have hsl:s.length=16:=by rw[hs,bp]
 obtain⟨t,ht⟩: ∃t,t=eU s (r.toNat/2):=⟨_,rfl⟩;have hm:t.length=16:=by rw[ht,cd,hsl]
 have HM:=hid hm;have HS:=hid hsl;have HT:=hid ht;have HSE:=hid hs;clear ht hm hs hsl;go_enter func94,ntmps94;go_wp2_with fail;refine(mV _ _ h).mono ?_;rintro e w0 ⟨rfl,hw⟩;obtain⟨k0,k1,k2,k3,hb,hz⟩:=new4 _ _ _ _ _ _ _ _ _ _ hw;have r0:=k0.row;have r1:=k1.row;have K2:=hid k2;have K3:=hid k3;have B0:=hid hb;clear hw k0 k1 k2 k3 hb hz;go_wp2_with fail;refine(mX key inp _ hk hi).mono ?_;rintro e w1 ⟨rfl,hb1⟩;rw[←HSE.out];have J2:=hid ((K2.out.belowAll hb1).alloc (.cells (A32 s) 233));have J3:=hid ((K3.out.belowAll hb1).alloc (.cells (A32 s) 233));have B1:=hid ((B0.out.trans (hb1.mono B0.out.size)).alloc (Nat.le_trans B0.out.size hb1.size) (.cells (A32 s) 233));have hlt:=(K3.out.belowAll hb1).lt;have JS:=hid (Blk.new w1 233 (A32 s));clear r0 r1 hb1 K2 K3 hk hi;have hsl:=HS.out;go_wp2_with fail;refine(mU s r _ hsl (by omega) (by omega)).mono ?_;rintro e w2 ⟨rfl,hb2⟩;rw[←HT.out];have I2:=hid (J2.out.belowAll hb2);have I3:=hid (J3.out.belowAll hb2);have IS:=hid (JS.out.belowAll hb2);have B2:=hid (B1.out.trans (hb2.mono B1.out.size));have hsz:=hb2.size;simp at hsz;clear hb2 J2 J3 JS B0 B1 hsl;have hm:=HM.out;go_wp2;clear hm;obtain⟨S,hS⟩: ∃S,S=w1.heap.size:=⟨_,rfl⟩;obtain⟨T,hT⟩: ∃T,T=w2.heap.size:=⟨_,rfl⟩;rw[←hT,←hS];have hS3:w.heap.size+3<S:=by omega
 have hT3:w.heap.size+3<T:=by omega
 go_loopw [25] (fun i wr=> ∃j:Nat,j≤16∧i= .int .i64 j∧Blk wr (w.heap.size+2) 190 (A8 (aa 8 64))∧Blk wr (w.heap.size+3) 190 (A8 (aa 8 64))∧Blk wr S 233 (A32 s)∧Blk wr T 233 (A32 (cL t s j))∧Below w.heap.size w wr) (fun i _=>16-(intOf i).toNat)
 case atStart=>
  exact⟨0,Nat.zero_le _,rfl,I2.out.alloc _,I3.out.alloc _,by rw[hS];exact IS.out.alloc _,by rw[hT];exact Blk.new _ _ _,B2.out.alloc B2.out.size _⟩
 case round=>
  obtain⟨j,hj,rfl,hz,ho,hs,ht,hb⟩:=hrel;have Z:=hid hz;have O:=hid ho;have Sx:=hid hs;have Tx:=hid ht;have B:=hid hb;have hST:S<T:=by omega
  have HST:=hid hS;have HTT:=hid hT;clear hz ho hs ht hb hS hT I2 I3 IS B2;by_cases hj16:j<16
  ·have j0:(0:Int)≤(j:Int):=by omega
   have j1:(j:Int)<16:=by omega
   have c1:=Sx.out.cell32 HS.out j hj16;have c2:=Tx.out.cell32 (m:=16) (by rw[bK];exact HM.out) j hj16;go_wp2_with fail;refine az [0,0,1,0,0,1,0,0,2] (by kernel_rfl) (by kernel_rfl) (fun ops' K' hK' => ?_)
   repeat (first|((with_reducible refine zq0 ?_);refine zq0a ?_)|((with_reducible refine zq1 ?_);refine zq1a ?_))
   refine eQ Tx.out.drew rfl rfl (by rw[bK,HM.out];exact hj16) (sizeOf69 _) (fun w3 hb3 hg3 _=> ?_);refine ak (hK' _ _ ?_);have E1:=hid hb3;have E2:=hid hg3;clear hb3 hg3 c1 c2;go_wp2;exact⟨⟨j+1,by omega,by go_num,Z.out.drew.grown E2.out (by simp;omega),O.out.drew.grown E2.out (by simp;omega),Sx.out.drew.grown E2.out (by simp;omega),E1.out,B.out.drew.trans (ac E2.out (by omega) B.out.size)⟩,by simp[intOf];omega⟩
  ·obtain rfl:j=16:=by omega
   go_wp2_with fail;refine az [0,0,2] (by kernel_rfl) (by kernel_rfl) (fun ops' K2 hK2=> ?_)
   repeat (first|((with_reducible refine zq0 ?_);refine zq0a ?_)|((with_reducible refine zq1 ?_);refine zq1a ?_))
   (with_reducible refine aM rfl ?_)
   go_simp;refine ae ?_;refine(jy (cL t s 16) (aa 8 64) (w.heap.size+3) 0 64 64 T 0 16 16 190 233 _ O.out.drew Tx.out.drew (by omega) (by rw[bK,HM.out];omega) (by omega) (by omega) (by omega) (by simp)).mono ?_;rintro e w4 ⟨rfl,hg4,hk4⟩;refine⟨_,rfl,?_⟩
   try simp only[Act.put,zz1,zz2,zz3]
   refine ak (hK2 _ _ ?_);have hbl:(aF (cL t s 16)).length=64:=by rw[bx,bK,HM.out]
   have e1:splc (aa 8 64) 0 (aF (((cL t s 16).drop 0).take 16))=aF (cL t s 16):=by
    rw[List.drop_zero,List.take_of_length_le (by rw[bK,HM.out];omega),mG _ _ (by rw[hbl];simp)]
   rw[e1]at hk4;have Q2:=(Z.out.drew.grown hg4 (by simp));have r1:=hk4.row;have r2:=Q2.row;have r3:=Q2.whole;have B4:=hid (B.out.drew.trans (ac hg4 (by omega) B.out.size));clear hk4 hg4 Q2 Z O Sx Tx B e1;go_wp2;refine aY (A8 (aF (cL t s 16))) rfl rfl rfl (isAgg190 _) (sizeOf190 _) (by rw[au];exact hbl) (ah _ r3) ⟨?_,below_setRow B4.out (by omega) _⟩;rw[gz,←HSE.out,←HT.out];rfl
open Go.RowKit
def bt(f:Nat→Y8)(b:Y8):Y8:=(List.range b.length).map fun i=>nth b i^^^nth (f (i/64)) (i %64)
def mY(key nonce:Y8)(n:Nat):Y8:=fm (eU (bF key (nonce.take 16) 4) n)
def fT(own nonce:Y8)(n:Nat)(m:Nat):Y8:=gz (bF own (le64 (BitVec.ofNat 64 m)++nonce.drop 16) 4) n
def aG(key nonce:Y8)(r:Nat)(b:Y8):Y8:=bt (fT (mY key nonce (r/2)) nonce (r/2)) b
def pD:Value→Nat
 | .slice _ n _=>n
 |_=>0
theorem dy(f:Nat→Y8)(b:Y8):(bt f b).length=b.length:=by simp[bt]
theorem dz(f:Nat→Y8)(b:Y8)(i:Nat)(h:i<b.length):nth (bt f b) i=nth b i^^^nth (f (i/64)) (i %64):=by
 simp[nth,bt,List.getD_eq_getElem?_getD,h]
theorem mx(f:Nat→Y8)(b:Y8)(m:Nat)(hf:(f m).length=64):(bt f b).take (64*m)++xorl (b.drop (64*m)) (f m)=(bt f b).take (64*(m+1)):=by
 have hl:=dy f b;have hx:=bz (b.drop (64*m)) (f m);rw[hf,List.length_drop]at hx;apply aD
 ·simp[hl,hx];omega
 ·intro i hi;simp[hl,hx]at hi;rw[bO,List.length_take,hl,aJ (bt f b) _ _ (show i<64*(m+1) by omega),dz f b i (by omega)];by_cases h:i<64*m
  ·rw[if_pos (by omega),aJ _ _ _ h,dz f b i (by omega)]
  ·have e1:i/64=m:=by omega
   have e2:i %64=i-64*m:=by omega
   rw[if_neg (by omega),show min (64*m) b.length=64*m by omega,kQ _ _ _ (by rw[hf,List.length_drop];omega),bv,show 64*m+(i-64*m)=i by omega,e1,e2]
def zI(w:World)(key nonce own l:Y8)(r:Int)(a':Act)(w':World):Prop:=
 ∃(m n:Nat) (y:BitVec 64) (a:Option Addr) (c:Nat) (v:Value) (x:Y8) (g gi:Nat),(∃u:Nat→Value,a' ={tmps:=(fun u:Nat→Value=> #[.agg (A8 key),.agg (A8 nonce),.int .i64 r,.slice a n c,.pointer (some ⟨w.heap.size,0,none⟩),.pointer (some ⟨w.heap.size+1,0,none⟩),u 6,u 7,.slice none 0 0,.int .i64 0,.pointer (some ⟨g,0,none⟩),.int .i64 0,.pointer (some ⟨gi,0,none⟩),v,v64 y,u 15,u 16,u 17,u 18,u 19,u 20,u 21,u 22,u 23,u 24,u 25,u 26,u 27,u 28,u 29,u 30,u 31,u 32,u 33,u 34,u 35,u 36,u 37,u 38,u 39,u 40,u 41,u 42,u 43,u 44,u 45,u 46,u 47,u 48,u 49,u 50,u 51,u 52,u 53,u 54,u 55,u 56,u 57,u 58,u 59,u 60,u 61,u 62,u 63,u 64]) u,defers:=[]})∧
  y=BitVec.ofNat 64 m∧n=l.length-64*m∧Rd8 w a n c (l.drop (64*m))∧x.length=8∧Blk w' g 143 (A8 own)∧Blk w' gi 154 (A8 (x++nonce.drop 16))∧Own8 w' (gi+1) 5 v ((aG key nonce r.toNat l).take (64*m))∧Below w.heap.size w w'∧w.heap.size+1<g∧g<gi
theorem mZ(key nonce l:Y8)(r:Int)(a:Option Addr)(n c:Nat)(w:World)(hk:key.length=32)(hn:nonce.length=24)(h:r=8∨r=12∨r=20)(hr:Rd8 w a n c l)(hsz:n≤140737488355328):
  Calls prog 66 #[.agg (A8 key),.agg (A8 nonce),.int .i64 r,.slice a n c] w fun e w' => ∃v,e= .returned (.tuple #[v,.int .i64 0])∧Own8 w' w.heap.size 5 v (aG key nonce r.toNat l)∧Below w.heap.size w w':=by
 go_enter func66,ntmps66;go_wp2;have Hr:=hid hr;refine aQ 0 (zI w key nonce (mY key nonce (r.toNat/2)) l r) (fun a' _=>pD (a'.tmps.getD 3 undef)) rfl (fun hrest=> ?_) ?_
 ·go_wp2;obtain⟨W,hW⟩: ∃W,(w.alloc (.cells (A8 key) 143)).alloc (.cells (A8 nonce) 149)=W:=⟨_,rfl⟩;obtain⟨b0,b1,hb,hz⟩:=new2 _ _ _ _ _ _ hW;rw[hW];refine lD [1,0,0,1,0,1,0,0,0,9] [2,0] [(9,.cells (A8 (aa 8 32)) 143)] (by kernel_rfl) (by kernel_rfl) (by kernel_rfl) (by kernel_rfl) ?_ (fun C hC0 hCb hCn K' hK' => ?_)
  ·intro p hp o ho;simp only[List.mem_singleton]at hp;subst hp;simp at ho;subst ho;exact⟨rfl,fun a w=>by go_simp⟩
  have R0: ∀w1,C w1→ar w1 w.heap.size=A8 key:=fun w1 h=>(b0.drew.belowAll (hCb w1 h)).row;have R1: ∀w1,C w1→ar w1 (w.heap.size+1)=A8 nonce:=fun w1 h=>(b1.drew.belowAll (hCb w1 h)).row
  repeat
   first
    |(with_reducible refine wg ?_)
    |((with_reducible refine yy (v:= ?_) (a':= ?_) ?_ (fun _=> ?_) ?_ ?_);rotate_left;rotate_left;(focus (exact rfl));(focus (go_simp;(try go_bits);exact rfl));(focus (simp only[Act.put,zz1,zz2,zz3,Act.eval,zz4,zz5,zz6,zz7,zz8];exact rfl)))
    |((with_reducible refine wa (v:= ?_) (a':= ?_) ?_ (fun _ hcw=> ?_) ?_ ?_);rotate_left;rotate_left;(focus (exact rfl));(focus (have f:=R0 _ hcw;have f':=R1 _ hcw;go_simp;(try go_bits);exact rfl));(focus (simp only[Act.put,zz1,zz2,zz3,Act.eval,zz4,zz5,zz6,zz7,zz8];exact rfl)))
    |((with_reducible refine we (a':= ?_) ?_ ?_ ?_);rotate_left;(focus (exact rfl));(focus (simp only[Act.put,zz1,zz2,zz3,Act.eval,zz4,zz5,zz6,zz7,zz8];exact rfl)))
    |((with_reducible refine sY (a':= ?_) ?_ ?_ ?_);rotate_left;(focus (exact rfl));(focus (simp only[Act.put,zz1,zz2,zz3,Act.eval,zz4,zz5,zz6,zz7,zz8];exact rfl)))
  ((with_reducible refine zE (v:= ?_) (a':= ?_) ?_ (fun wq hcw=> ?_) ?_ ?_);rotate_left;rotate_left)
  ·exact rfl
  ·go_simp;refine rq ?_;exact uj key (nonce.take 16) r _ hk (by simp[hn]) h
  ·(simp only[Act.put,zz1,zz2,zz3,Act.eval,zz4,zz5,zz6,zz7,zz8];exact rfl)
  repeat
   first
    |(with_reducible refine wg ?_)
    |((with_reducible refine yy (v:= ?_) (a':= ?_) ?_ (fun _=> ?_) ?_ ?_);rotate_left;rotate_left;(focus (exact rfl));(focus (go_simp;(try go_bits);exact rfl));(focus (simp only[Act.put,zz1,zz2,zz3,Act.eval,zz4,zz5,zz6,zz7,zz8];exact rfl)))
    |((with_reducible refine wa (v:= ?_) (a':= ?_) ?_ (fun _ hcw=> ?_) ?_ ?_);rotate_left;rotate_left;(focus (exact rfl));(focus (have f:=R0 _ hcw;have f':=R1 _ hcw;go_simp;(try go_bits);exact rfl));(focus (simp only[Act.put,zz1,zz2,zz3,Act.eval,zz4,zz5,zz6,zz7,zz8];exact rfl)))
    |((with_reducible refine we (a':= ?_) ?_ ?_ ?_);rotate_left;(focus (exact rfl));(focus (simp only[Act.put,zz1,zz2,zz3,Act.eval,zz4,zz5,zz6,zz7,zz8];exact rfl)))
    |((with_reducible refine sY (a':= ?_) ?_ ?_ ?_);rotate_left;(focus (exact rfl));(focus (simp only[Act.put,zz1,zz2,zz3,Act.eval,zz4,zz5,zz6,zz7,zz8];exact rfl)))
  refine Bw (xE fun g w1 hgW hcw hg=> ?_);simp only[Act.put,zz1,zz2,zz3,zz6,zz7,Option.bind_some];have hg':Blk w1 g 143 (A8 (aa 8 32)):=hg;obtain⟨own,hown⟩: ∃own,own=mY key nonce (r.toNat/2):=⟨_,rfl⟩;have hol:own.length=32:=by rw[hown];exact cK _ (by rw[cd,bp])
  rw[show fm (eU (bF key (List.take 16 nonce) 4) (r.toNat/2))=own from hown.symm];refine am hg' rfl rfl (by rw[au,au,hol,af]) (aB _) (by rw[au,hol];exact sizeOf143 _) (fun w2 hb2 hg2 hs2=> ?_)
  repeat (first|((with_reducible refine zq0 ?_);refine zq0a ?_)|((with_reducible refine zq1 ?_);refine zq1a ?_))
  refine ak (hK' _ _ ?_);have c1:=hCb w1 hcw;have n0:=(b1.drew.belowAll c1).grown hg2 (by simp;omega);have hB2:Below w.heap.size w w2:=(hb.drew.trans (c1.mono (by simp;omega))).trans (ac hg2 (by omega) (by have:=hb.size;have:=c1.size;simp at this;omega));clear hC0 hCb hCn R0 R1 hg hg' hg2 hs2 c1 b0 b1 hcw hb;go_wp2_with fail;obtain⟨gi,hgi⟩: ∃gi,gi=w2.heap.size:=⟨_,rfl⟩;have hBi:=hB2.alloc hB2.size (.cells (A8 (aa 8 16)) 154);have m0:=(n0.alloc (.cells (A8 (aa 8 16)) 154));have mo:=(hb2.alloc (.cells (A8 (aa 8 16)) 154));have mi:=Blk.new w2 154 (A8 (aa 8 16));have hlg:=hb2.lt;have hln:=n0.lt;rw[←hgi]at mi hlg hln;rw[←hgi];generalize (w2.alloc (.cells (A8 (aa 8 16)) 154))=w3 at*;have hgl:w.heap.size+1<g:=by omega
  clear hgi hgW hW hz hB2 n0 hb2;refine az [0,0,2] (by kernel_rfl) (by kernel_rfl) (fun ops' K2 hK2=> ?_)
  repeat (first|((with_reducible refine zq0 ?_);refine zq0a ?_)|((with_reducible refine zq1 ?_);refine zq1a ?_))
  have rn:=((m0.drew.rd8 24 (by omega) (by rw[hn];unfold maxLen;omega)).cut (j:=16) (k:=24) (by omega) (by omega));rw[hn,if_neg (by omega)]at rn;refine cH mi.drew rn rfl rfl underlying22 eo (by simp) (fun w4 v4 k4 g4 s4=> ?_);refine ak (hK2 _ _ ?_);have e4:splc (aa 8 16) 8 ((((nonce.take 24).take 24).drop 16).take (min (24-16) 8))=aa 8 8++nonce.drop 16:=by
   rw[List.take_of_length_le (l:=nonce) (by omega),List.take_of_length_le (l:=nonce) (by omega),List.take_of_length_le (by simp;omega)];apply aD
   ·rw[aL _ _ _ (by simp[hn])];simp[hn]
   ·intro i hi;rw[eJ _ _ _ (by simp[hn]),bO];simp[hn,cT];by_cases h8:i<8
    ·rw[if_neg (by omega),if_pos h8]
    ·rw[aL _ _ _ (by simp[hn])]at hi;simp at hi;rw[if_pos (by omega),if_neg h8]
  rw[e4]at k4;have mo4:=mo.drew.grown g4 (by simp;omega);have hB4:=hBi.drew.trans (ac g4 (by omega) hBi.size);have hmk:=bZ (P:=prog) w4 22 5 0 n underlying22 bQ (by omega) (by omega) (by omega);rw[Int.toNat_natCast,Int.toNat_zero]at hmk;have hln:=hr.1;have h4:=k4.lt;clear e4 g4 s4 rn m0 mo mi hBi;go_wp2;go_step3;obtain⟨W4,hW4⟩: ∃W4,W4=w4.alloc (.cells (A8 (aa 8 n)) 5):=⟨_,rfl⟩;have q1:=k4.alloc (.cells (A8 (aa 8 n)) 5);have q2:=mo4.alloc (.cells (A8 (aa 8 n)) 5);have q3:=Own8.made w4 (gi+1) 5 (aa 8 n) 0 (by omega) (by simp) (by rw[af];unfold maxLen;omega);have q4:=hB4.alloc hB4.size (.cells (A8 (aa 8 n)) 5);rw[←hW4]at q1 q2 q3 q4⊢;rw[af]at q3;refine ‹∀(a:Act) (w_1:World),Code.wp _ _ _ a w_1→_› _ _ (hrest _ _ ?_);refine⟨0,n,_,a,c,_,aa 8 8,g,gi,aI _ rfl,rfl,by omega,?_,by simp,?_,q1,q3,q4,hgl,hlg⟩
  ·rw[Nat.mul_zero,List.drop_zero];exact hr
  ·rw[←hown];exact q2
 ·rintro a' w' ⟨m,n,y,a,c,v,x,g,gi,⟨u,rfl⟩,hy,hn',hr,hx,hkg,hki,hov,hB,h1,h2⟩;generalize hown:mY key nonce (r.toNat/2)=own at*;have hol:own.length=32:=by rw[←hown];exact cK _ (by rw[cd,bp])
  by_cases hn0:n=0
  ·have hfin:(aG key nonce r.toNat l).take (64*m)=aG key nonce r.toNat l:=List.take_of_length_le (by rw[aG,dy];omega);rw[hfin]at hov;have O:=hid (hov.base (show w.heap.size≤gi+1 by omega));have B:=hid hB;clear hown hol hr hkg hki hov hB hx hn' hfin;subst hn0;go_wp2;simp only[Exit.jump];go_ret2;exact⟨_,rfl,O.out,B.out⟩
  ·have O:=hid hov;have B:=hid hB;have R:=hid hr;have G:=hid hkg;have I:=hid hki;have N0:=hid hn';have HO:=hid hown;have HL:=hid hol;clear hown hol hr hkg hki hov hB hn';have n0: ¬(n:Int)=0:=by omega
   have HY:=hid hy;clear hy;go_wp2_with fail;refine(aw y _).mono ?_;rintro e w1 ⟨rfl,hb1⟩;have O1:=hid ((O.out.below hb1).alloc (.cells (A8 (le64 y)) 171));have G1:=hid ((G.out.belowAll hb1).alloc (.cells (A8 (le64 y)) 171));have I1:=hid ((I.out.belowAll hb1).alloc (.cells (A8 (le64 y)) 171));have P1:=hid (Blk.new w1 171 (A8 (le64 y)));have hB1:=B.out.trans (hb1.mono B.out.size);have B1:=hid (hB1.alloc hB1.size (.cells (A8 (le64 y)) 171));have hgw:=(I.out.belowAll hb1).lt;clear hb1 hB1 O B G I;go_wp2_with fail;generalize w1.alloc (.cells (A8 (le64 y)) 171)=W1 at*;generalize w1.heap.size=p1 at*;refine az [0,0,2] (by kernel_rfl) (by kernel_rfl) (fun ops' K2 hK2=> ?_)
   repeat (first|((with_reducible refine zq0 ?_);refine zq0a ?_)|((with_reducible refine zq1 ?_);refine zq1a ?_))
   have rn:=P1.out.drew.rd8 8 (by simp) (by simp;unfold maxLen;omega);refine cH I1.out.drew rn rfl rfl underlying22 eo (by simp[hx]) (fun w2 v2 k2 g2 s2=> ?_);refine ak (hK2 _ _ ?_);have e2:splc (x++nonce.drop 16) 0 (((le64 y).take 8).take (min 8 8))=le64 y++nonce.drop 16:=by
    rw[List.take_of_length_le (l:=le64 y) (by simp),List.take_of_length_le (by simp)];unfold splc;rw[List.take_zero,List.nil_append,el,Nat.zero_add,List.drop_left' hx]
   have e2':splc (x++nonce.drop 16) 0 (((le64 y).take 8).take (min 8 8))=splc (x++nonce.drop 16) 0 ((((le64 y)).take 8).take (min 8 8)):=rfl;rw[List.take_take]at k2;rw[List.take_take]at e2;rw[e2]at k2;have il:(le64 y++nonce.drop 16).length=16:=by simp[hn]
   obtain⟨inn,hin⟩: ∃inn,inn=le64 y++nonce.drop 16:=⟨_,rfl⟩;rw[←hin]at k2 il;have O2:=hid (O1.out.drew.grown g2 (by omega));have G2:=hid (G1.out.drew.grown g2 (by simp;omega));have I2:=hid k2;have B2:=hid (B1.out.drew.trans (ac g2 (by omega) B1.out.size));have r1:=G2.out.row;have r2:=I2.out.row;have hol:=HL.out;have HIN:=hid hin;clear k2 g2 s2 rn e2 e2' hin O1 G1 I1 P1 B1;go_wp2_with fail;refine(rE own inn r _ HL.out il h).mono ?_;rintro e w3 ⟨rfl,hb3⟩;obtain⟨blo,hblo⟩: ∃blo,blo=gz (bF own inn 4) (r.toNat/2):=⟨_,rfl⟩;rw[←hblo];have hbl:blo.length=64:=by rw[hblo,lG _ _ (bp _ _ _)]
   have O3:=hid ((O2.out.below hb3).alloc (.cells (A8 blo) 190));have G3:=hid ((G2.out.belowAll hb3).alloc (.cells (A8 blo) 190));have I3:=hid ((I2.out.belowAll hb3).alloc (.cells (A8 blo) 190));have P3:=hid (Blk.new w3 190 (A8 blo));have hB3:=B2.out.trans (hb3.mono B2.out.size);have B3:=hid (hB3.alloc hB3.size (.cells (A8 blo) 190));have HB:=hid hblo;clear hb3 hB3 O2 G2 I2 B2 r1 r2 hblo hol;go_wp2_with fail;generalize w3.alloc (.cells (A8 blo) 190)=W3 at*;generalize w3.heap.size=p3 at*;have R3:=hid (P3.out.rd8 64 (by omega) (by rw[hbl];unfold maxLen;omega));rw[hbl,List.take_of_length_le (by omega)]at R3;refine(sJ _ _ _ _ _ _ _ _ W3 (R.out.below B3.out) R3.out (by omega)).mono ?_;rintro e w4 ⟨pv,rfl,hpo,hb4⟩;obtain⟨pa,pc,hpv,hpr,hpl⟩:=hpo.rd;subst hpv;have hxl:(xorl (l.drop (64*m)) blo).length=min n 64:=by rw[bz,hbl,R.out.1]
   rw[hxl]at hpr⊢;obtain⟨k,hk'⟩: ∃k,k=min n 64:=⟨_,rfl⟩;rw[←hk']at hpr⊢;have hcl:(aG key nonce r.toNat l).length=l.length:=by rw[aG,dy]
   have hcut:=N0.out;have hll:=Hr.out.1;have O4:=hid (O3.out.below hb4);have G4:=hid (G3.out.belowAll hb4);have I4:=hid (I3.out.belowAll hb4);have hB4:=B3.out.trans (hb4.mono B3.out.size);have B4:=hid hB4;have PR:=hid hpr;have hlen:((aG key nonce r.toNat l).take (64*m)).length+k≤140737488355328:=by simp[hcl];omega
   have HLEN:=hid hlen;have hkn:k≤n:=by omega
   have HKN:=hid hkn;have KK:=hid hk';have LL:=hid hll;clear hb4 hpr hpl hpo hB4 hxl hcl hcut hll hk' hlen hkn O3 G3 I3 P3 R3 B3;go_upto_region 14 with fail;refine aq [0,0,2,0] rfl (fun ops' K2 hK2=> ?_)
   repeat (first|((with_reducible refine zq0 ?_);refine zq0a ?_)|((with_reducible refine zq1 ?_);refine zq1a ?_))
   refine dE O4.out PR.out rfl rfl underlying22 bQ HLEN.out (by have:=I4.out.lt;omega) (fun w5 v5 o5 g5 b5=> ?_);simp only[Act.put,zz1,zz2,zz3]
   repeat (first|((with_reducible refine zq0 ?_);refine zq0a ?_)|((with_reducible refine zq1 ?_);refine zq1a ?_))
   refine ak (hK2 _ _ ?_);rw[show aG key nonce r.toNat l=bt (fT (mY key nonce (r.toNat/2)) nonce (r.toNat/2)) l from rfl]at o5;rw[show xorl (l.drop (64*m)) blo=xorl (l.drop (64*m)) (fT (mY key nonce (r.toNat/2)) nonce (r.toNat/2) m) by rw[HB.out,HIN.out,HO.out,fT,HY.out],mx _ _ _ (by rw[HO.out,fT,←HY.out,←HIN.out,←HB.out];exact hbl)]at o5;have O5:=hid o5;have G5:=hid (G4.out.grown g5 (O4.out.apart (by omega)));have I5:=hid (I4.out.grown g5 (O4.out.apart (by omega)));have B5:=hid (B4.out.trans (b5.mono (by omega)));have R5:=hid (R.out.cut (j:=k) (k:=n) HKN.out (Nat.le_refl _));have nc:(n:Int)≤(c:Int):=by have:=R.out.2.1;omega
   have kn:(k:Int)≤(n:Int):=by have:=HKN.out;omega
   have k0:(0:Int)≤(k:Int):=by omega
   clear o5 g5 b5 O4 G4 I4 B4 R PR;go_wp2
   all_goals
    go_step3;refine⟨rfl,⟨m+1,n-k,y+1#64,_,_,v5,le64 y,g,gi,aI _ rfl,by rw[HY.out];simp[BitVec.ofNat_add],by have:=N0.out;have:=KK.out;omega,?_,el y,G5.out,by rw[←HIN.out];exact I5.out,O5.out,B5.out,h1,h2⟩,?_⟩
    ·have h5:=R5.out;have e5:(List.drop (64*m) l).length=n:=by rw[List.length_drop,N0.out]
     rw[List.take_of_length_le (by omega),List.drop_drop]at h5;have e6:(l.drop (64*m+k))=l.drop (64*(m+1)):=by
      have:=N0.out;have:=KK.out;by_cases h6:n≤64
      ·rw[List.drop_eq_nil_of_le (by omega),List.drop_eq_nil_of_le (by omega)]
      ·rw[show 64*m+k=64*(m+1) by omega]
     rw[e6]at h5;by_cases hck:c=k
     ·first|(exfalso;exact ‹¬c=k› hck)|simpa[hck]using h5
     ·first|(exfalso;exact hck ‹c=k›)|simpa[hck]using h5
    ·simp[pD];have:=KK.out;omega
end Go.Proofs.YtlpkfdkhlffmlaaGreatDoor
