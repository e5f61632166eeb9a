/-blake:RotateLeft64 (to the right),half,stir-/
import Derived.Test.YtddkbkbpogcffaaGreatDoorMGw
import Derived.Test.YtddkbkbpogcffaaGreatDoorMGe
import Derived.Test.YtddkbkbpogcffaaGreatDoorMGb
import Derived.Test.YtddkbkbpogcffaaGreatDoorMGc
import Derived.Deep.CutBlock
import Derived.Deep.CutRange
import Derived.Test.YtddkbkbpogcffaaGreatDoorMGs
import Derived.Test.YtddkbkbpogcffaaGreatDoorRows
import Derived.ProofKit
import Derived.LaidMore
import Derived.OpenShut
import Derived.Stop.Joined
namespace Go.Proofs.YtddkbkbpogcffaaGreatDoor
open Go.Proofs.Tryz
open Lib (hid)
set_option linter.unusedSimpArgs false
set_option linter.unusedVariables false
set_option maxRecDepth 100000
set_option maxHeartbeats 1600000
open Go.RowKit
def Ge(x:BitVec 64)(k:Nat):BitVec 64:=x<<<(64-k)|||x>>>k
theorem uU(k:Nat)(h0:0<k)(h1:k<64):amt (BitVec.ofInt 64 (-(k:Int))&&&63#64)=64-k∧amt (64#64-(BitVec.ofInt 64 (-(k:Int))&&&63#64))=k:=by
 have: ∀i:Fin 64,0<i.1→amt (BitVec.ofInt 64 (-(i.1:Int))&&&63#64)=64-i.1∧amt (64#64-(BitVec.ofInt 64 (-(i.1:Int))&&&63#64))=i.1:=by decide
 exact this ⟨k,h1⟩ h0
theorem yi(x:BitVec 64)(k:Nat)(w:World)(h0:0<k)(h1:k<64):
  Calls prog 211 #[v64 x,.int .i64 (-(k:Int))] w fun e w' =>e= .returned (v64 (Ge x k))∧w=w':=by
 go_enter func211,ntmps211;go_wp2;go_ret;refine⟨?_,rfl⟩;show Ending.returned (v64 (x<<<amt (BitVec.ofInt 64 (-(k:Int))&&&63#64)|||x>>>amt (64#64-(BitVec.ofInt 64 (-(k:Int))&&&63#64))))=_;rw[(uU k h0 h1).1,(uU k h0 h1).2];rfl
def bh1(l:List (BitVec 64))(a b:Nat)(x:BitVec 64):List (BitVec 64):=l.set a (nth l a+(nth l b+x))
def bh2(l:List (BitVec 64))(a d:Nat)(k:Nat):List (BitVec 64):=l.set d (Ge (nth l d^^^nth l a) k)
def bh3(l:List (BitVec 64))(c d:Nat):List (BitVec 64):=l.set c (nth l c+nth l d)
def kh(l:List (BitVec 64))(a b c d:Nat)(x:BitVec 64)(k m:Nat):List (BitVec 64):=bh2 (bh3 (bh2 (bh1 l a b x) a d k) c d) c b m
theorem Bz(l:List (BitVec 64))(a b:Nat)(x:BitVec 64):(bh1 l a b x).length=l.length:=List.length_set ..
theorem qw(l:List (BitVec 64))(a b k:Nat):(bh2 l a b k).length=l.length:=List.length_set ..
theorem BA(l:List (BitVec 64))(a b:Nat):(bh3 l a b).length=l.length:=List.length_set ..
theorem oI(l:List (BitVec 64))(a b c d:Nat)(x:BitVec 64)(k m:Nat):(kh l a b c d x k m).length=l.length:=by rw[kh,qw,BA,qw,Bz]
theorem yj(l:List (BitVec 64))(g a b c d k m:Nat)(x:BitVec 64)(w:World)(hb:Blk w g 238 (A64 l))(hl:l.length=16)(ha:a<16)(hb1:b<16)(hc:c<16)(hd:d<16)(hk0:0<k)(hk:k<64)(hm0:0<m)(hm:m<64):
  Calls prog 209 #[.pointer (some ⟨g,0,none⟩),.int .i64 a,.int .i64 b,.int .i64 c,.int .i64 d,v64 x,.int .i64 k,.int .i64 m] w fun e w' =>e= .returned (.tuple #[])∧Blk w' g 238 (A64 (kh l a b c d x k m))∧w.grownBy w' (some g):=by
 have B0:=hid hb;clear hb;have a1:(a:Int)<16:=by omega
 have a0:(0:Int)≤(a:Int):=by omega
 have b1:(b:Int)<16:=by omega
 have b0:(0:Int)≤(b:Int):=by omega
 have c1:(c:Int)<16:=by omega
 have c0:(0:Int)≤(c:Int):=by omega
 have d1:(d:Int)<16:=by omega
 have d0:(0:Int)≤(d:Int):=by omega
 go_enter func209,ntmps209;have hb:=hb1;have L_l:l.length=16:=hl;have fk:IntKind.i64.wrap (-(k:Int))= -(k:Int):=by rw[IntKind.wrap_i64];omega
 have fm:IntKind.i64.wrap (-(m:Int))= -(m:Int):=by rw[IntKind.wrap_i64];omega
 go_upto_region 0 with fail;refine aw [0,0,0,0,5,0,0,0,0,5,0,0,0,0,0,3] (by kernel_rfl) (by kernel_rfl) (fun C hC0 hCb K' hK' => ?_);have q1: ∀w1,C w1→w1.cell? ⟨g,a,none⟩=some (v64 (nth l a)):=fun w1 hw=>(B0.out.drew.belowAll (hCb w1 hw)).cell64 L_l a ha;have q2: ∀w1,C w1→w1.cell? ⟨g,b,none⟩=some (v64 (nth l b)):=fun w1 hw=>(B0.out.drew.belowAll (hCb w1 hw)).cell64 L_l b hb
 repeat (first|((with_reducible refine hq0 ?_);refine hq0a ?_)|((with_reducible refine hq5 ?_);refine hq5a ?_ (fun _ hcw=>by have fq1:=q1 _ hcw;have fq2:=q2 _ hcw;go_simp;(try go_bits);exact rfl))|((with_reducible refine hq1 ?_);refine hq1a ?_))
 clear q1 q2;refine aU [2] rfl (by simp) ?_;refine dL B0.out.drew rfl rfl (by rw[L_l];omega) (sizeOf23 _) (fun W1 k1 g1 s1=> ?_);refine az (hK' _ _ ?_);obtain⟨l1,hl1⟩: ∃l',l' =bh1 l a b x:=⟨_,rfl⟩;have L_l1:l1.length=16:=by rw[hl1,Bz,L_l]
 have B1:=hid (show Blk W1 g 238 (A64 l1) by rw[hl1];exact k1);have G1:=hid (ao (aD ((Below.refl w.heap.size w).drew) (some g)) g1);have HL1:=hid hl1;clear hK' hCb hC0 k1 g1 s1 hl1 B0;clear C K';go_upto_region 1 with fail;refine aw [0,0,0,0,0,0,5,0,0,0,0,5,0,0,0,2,0,0,3] (by kernel_rfl) (by kernel_rfl) (fun C hC0 hCb K' hK' => ?_);have q1: ∀w1,C w1→w1.cell? ⟨g,d,none⟩=some (v64 (nth l1 d)):=fun w1 hw=>(B1.out.drew.belowAll (hCb w1 hw)).cell64 L_l1 d hd;have q2: ∀w1,C w1→w1.cell? ⟨g,a,none⟩=some (v64 (nth l1 a)):=fun w1 hw=>(B1.out.drew.belowAll (hCb w1 hw)).cell64 L_l1 a ha
 repeat (first|((with_reducible refine hq0 ?_);refine hq0a ?_)|((with_reducible refine hq5 ?_);refine hq5a ?_ (fun _ hcw=>by have fq1:=q1 _ hcw;have fq2:=q2 _ hcw;go_simp;(try go_bits);exact rfl))|((with_reducible refine hq1 ?_);refine hq1a ?_))
 refine hqc ?_;go_simp;refine af ?_;refine(yi (nth l1 d^^^nth l1 a) k W1.drew hk0 hk).mono ?_;rintro e w4 ⟨rfl,rfl⟩;refine⟨_,rfl,Below.refl _ _,?_⟩
 try simp only[Act.put,zz1,zz2,zz3]
 repeat (first|((with_reducible refine hq0 ?_);refine hq0a ?_)|((with_reducible refine hq5 ?_);refine hq5a ?_)|((with_reducible refine hq1 ?_);refine hq1a ?_))
 clear q1 q2;refine aU [2] rfl (by simp) ?_;refine dL B1.out.drew rfl rfl (by rw[L_l1];omega) (sizeOf23 _) (fun W2 k2 g2 s2=> ?_);refine az (hK' _ _ ?_);obtain⟨l2,hl2⟩: ∃l',l' =bh2 l1 a d k:=⟨_,rfl⟩;have L_l2:l2.length=16:=by rw[hl2,qw,L_l1]
 have B2:=hid (show Blk W2 g 238 (A64 l2) by rw[hl2];exact k2);have G2:=hid (ao G1.out (ao (aD ((Below.refl W1.heap.size W1).drew) (some g)) g2));have HL2:=hid hl2;clear hK' hCb hC0 k2 g2 s2 hl2 B1 G1;clear C K';go_upto_region 2 with fail;refine aw [0,0,0,0,5,0,0,0,0,5,0,0,0,3] (by kernel_rfl) (by kernel_rfl) (fun C hC0 hCb K' hK' => ?_);have q1: ∀w1,C w1→w1.cell? ⟨g,c,none⟩=some (v64 (nth l2 c)):=fun w1 hw=>(B2.out.drew.belowAll (hCb w1 hw)).cell64 L_l2 c hc;have q2: ∀w1,C w1→w1.cell? ⟨g,d,none⟩=some (v64 (nth l2 d)):=fun w1 hw=>(B2.out.drew.belowAll (hCb w1 hw)).cell64 L_l2 d hd
 repeat (first|((with_reducible refine hq0 ?_);refine hq0a ?_)|((with_reducible refine hq5 ?_);refine hq5a ?_ (fun _ hcw=>by have fq1:=q1 _ hcw;have fq2:=q2 _ hcw;go_simp;(try go_bits);exact rfl))|((with_reducible refine hq1 ?_);refine hq1a ?_))
 clear q1 q2;refine aU [2] rfl (by simp) ?_;refine dL B2.out.drew rfl rfl (by rw[L_l2];omega) (sizeOf23 _) (fun W3 k3 g3 s3=> ?_);refine az (hK' _ _ ?_);obtain⟨l3,hl3⟩: ∃l',l' =bh3 l2 c d:=⟨_,rfl⟩;have L_l3:l3.length=16:=by rw[hl3,BA,L_l2]
 have B3:=hid (show Blk W3 g 238 (A64 l3) by rw[hl3];exact k3);have G3:=hid (ao G2.out (ao (aD ((Below.refl W2.heap.size W2).drew) (some g)) g3));have HL3:=hid hl3;clear hK' hCb hC0 k3 g3 s3 hl3 B2 G2;clear C K';go_upto_region 3 with fail;refine aw [0,0,0,0,0,0,5,0,0,0,0,5,0,0,0,2,0,0,3] (by kernel_rfl) (by kernel_rfl) (fun C hC0 hCb K' hK' => ?_);have q1: ∀w1,C w1→w1.cell? ⟨g,b,none⟩=some (v64 (nth l3 b)):=fun w1 hw=>(B3.out.drew.belowAll (hCb w1 hw)).cell64 L_l3 b hb;have q2: ∀w1,C w1→w1.cell? ⟨g,c,none⟩=some (v64 (nth l3 c)):=fun w1 hw=>(B3.out.drew.belowAll (hCb w1 hw)).cell64 L_l3 c hc
 repeat (first|((with_reducible refine hq0 ?_);refine hq0a ?_)|((with_reducible refine hq5 ?_);refine hq5a ?_ (fun _ hcw=>by have fq1:=q1 _ hcw;have fq2:=q2 _ hcw;go_simp;(try go_bits);exact rfl))|((with_reducible refine hq1 ?_);refine hq1a ?_))
 refine hqc ?_;go_simp;refine af ?_;refine(yi (nth l3 b^^^nth l3 c) m W3.drew hm0 hm).mono ?_;rintro e w4 ⟨rfl,rfl⟩;refine⟨_,rfl,Below.refl _ _,?_⟩
 try simp only[Act.put,zz1,zz2,zz3]
 repeat (first|((with_reducible refine hq0 ?_);refine hq0a ?_)|((with_reducible refine hq5 ?_);refine hq5a ?_)|((with_reducible refine hq1 ?_);refine hq1a ?_))
 clear q1 q2;refine aU [2] rfl (by simp) ?_;refine dL B3.out.drew rfl rfl (by rw[L_l3];omega) (sizeOf23 _) (fun W4 k4 g4 s4=> ?_);refine az (hK' _ _ ?_);obtain⟨l4,hl4⟩: ∃l',l' =bh2 l3 c b m:=⟨_,rfl⟩;have L_l4:l4.length=16:=by rw[hl4,qw,L_l3]
 have B4:=hid (show Blk W4 g 238 (A64 l4) by rw[hl4];exact k4);have G4:=hid (ao G3.out (ao (aD ((Below.refl W3.heap.size W3).drew) (some g)) g4));have HL4:=hid hl4;clear hK' hCb hC0 k4 g4 s4 hl4 B3 G3;clear C K';go_end0;exact⟨rfl,by have h:=B4.out;rw[HL4.out,HL3.out,HL2.out,HL1.out]at h;exact h,G4.out⟩
def yl(l:List (BitVec 64))(i k:Nat)(x y:BitVec 64):List (BitVec 64):=
 kh (kh l i (4+(i+k) %4) (8+(i+2*k) %4) (12+(i+3*k) %4) x 32 24) i (4+(i+k) %4) (8+(i+2*k) %4) (12+(i+3*k) %4) y 16 63
theorem DA(l:List (BitVec 64))(i k:Nat)(x y:BitVec 64):(yl l i k x y).length=l.length:=by rw[yl,oI,oI]
theorem Gh(l:List (BitVec 64))(g i k:Nat)(x y:BitVec 64)(w:World)(hb:Blk w g 238 (A64 l))(hl:l.length=16)(hi:i<4)(hk:k<2):
  Calls prog 203 #[.pointer (some ⟨g,0,none⟩),.int .i64 i,.int .i64 k,v64 x,v64 y] w fun e w' =>e= .returned (.tuple #[])∧Blk w' g 238 (A64 (yl l i k x y))∧w.grownBy w' (some g):=by
 have B0:=hid hb;clear hb;have key: ∀b c d:Nat,b<16→c<16→d<16→b=4+(i+k) %4→c=8+(i+2*k) %4→d=12+(i+3*k) %4→Calls prog 203 #[.pointer (some ⟨g,0,none⟩),.int .i64 i,.int .i64 k,v64 x,v64 y] w fun e w' =>e= .returned (.tuple #[])∧Blk w' g 238 (A64 (kh (kh l i b c d x 32 24) i b c d y 16 63))∧w.grownBy w' (some g):=by
  intro b c d hb16 hc16 hd16 hb hc hd;have hall: ∀w1,Blk w1 g 238 (A64 (kh l i b c d x 32 24))→Calls prog 209 #[.pointer (some ⟨g,0,none⟩),.int .i64 i,.int .i64 b,.int .i64 c,.int .i64 d,v64 y,.int .i64 ((16:Nat):Int),.int .i64 ((63:Nat):Int)] w1 fun e w' =>e= .returned (.tuple #[])∧Blk w' g 238 (A64 (kh (kh l i b c d x 32 24) i b c d y 16 63))∧w1.grownBy w' (some g):=fun w1 h=>yj _ g i b c d 16 63 y w1 h (by rw[oI,hl]) (by omega) hb16 hc16 hd16 (by omega) (by omega) (by omega) (by omega);have H1:=hid (yj l g i b c d 32 24 x w B0.out hl (by omega) hb16 hc16 hd16 (by omega) (by omega) (by omega) (by omega));have H2:=hid hall;clear hall;obtain⟨L1,hL1⟩: ∃L1,L1=kh l i b c d x 32 24:=⟨_,rfl⟩;obtain⟨L2,hL2⟩: ∃L2,L2=kh L1 i b c d y 16 63:=⟨_,rfl⟩;rw[←hL1]at H1 H2⊢;rw[←hL2]at H2⊢;clear hL1 hL2;go_enter func203,ntmps203;rcases(by omega:i=0∨i=1∨i=2∨i=3)with rfl|rfl|rfl|rfl<;>rcases(by omega:k=0∨k=1)with rfl|rfl
  all_goals
   simp only[Nat.reduceAdd,Nat.reduceMul,Nat.reduceMod]at hb hc hd;subst hb hc hd;go_wp2_with fail;refine H1.out.mono ?_;rintro e w1 ⟨rfl,k1,g1⟩;go_wp2_with fail;refine(H2.out w1 k1).mono ?_;rintro e w2 ⟨rfl,k2,g2⟩;go_wp2;go_end0;exact⟨rfl,k2,ao g1 g2⟩
 exact key _ _ _ (by omega) (by omega) (by omega) rfl rfl rfl
open Go.RowKit
def bfirst:List (BitVec 64):=[0x6a09e667f3bcc908#64,0xbb67ae8584caa73b#64,0x3c6ef372fe94f82b#64,0xa54ff53a5f1d36f1#64,0x510e527fade682d1#64,0x9b05688c2b3e6c1f#64,0x1f83d9abfb41bd6b#64,0x5be0cd19137e2179#64]
def brows:Y8:=[0#8,1#8,2#8,3#8,4#8,5#8,6#8,7#8,8#8,9#8,10#8,11#8,12#8,13#8,14#8,15#8,
 14#8,10#8,4#8,8#8,9#8,15#8,13#8,6#8,1#8,12#8,0#8,2#8,11#8,7#8,5#8,3#8,
 11#8,8#8,12#8,0#8,5#8,2#8,15#8,13#8,10#8,14#8,3#8,6#8,7#8,1#8,9#8,4#8,
 7#8,9#8,3#8,1#8,13#8,12#8,11#8,14#8,2#8,6#8,5#8,10#8,4#8,0#8,15#8,8#8,
 9#8,0#8,5#8,7#8,2#8,4#8,10#8,15#8,14#8,1#8,11#8,12#8,6#8,8#8,3#8,13#8,
 2#8,12#8,6#8,10#8,0#8,11#8,8#8,3#8,4#8,13#8,7#8,5#8,15#8,14#8,1#8,9#8,
 12#8,5#8,1#8,15#8,14#8,13#8,4#8,10#8,0#8,7#8,6#8,3#8,9#8,2#8,8#8,11#8,
 13#8,11#8,7#8,14#8,12#8,1#8,3#8,9#8,5#8,0#8,15#8,4#8,8#8,6#8,2#8,10#8,
 6#8,15#8,14#8,9#8,11#8,3#8,0#8,8#8,12#8,2#8,13#8,7#8,1#8,4#8,10#8,5#8,
 10#8,2#8,8#8,4#8,7#8,6#8,1#8,5#8,15#8,11#8,9#8,14#8,3#8,12#8,13#8,0#8]
theorem uV:brows.length=160:=rfl
theorem Gi(i:Nat)(h:i<160):(nth brows i).toNat<16:=by
 have: ∀i:Fin 160,(nth brows i.1).toNat<16:=by decide
 exact this ⟨i,h⟩
def Blaking(w:World):Prop:=aF w 2=A64 bfirst∧aF w 4=A8 brows∧2<w.heap.size∧4<w.heap.size
theorem Blaking.below {w w':World}(h:Blaking w)(hb:Below w.heap.size w w'):Blaking w':=
 ⟨(oU hb h.2.2.1).trans h.1,(oU hb h.2.2.2).trans h.2.1,Nat.lt_of_lt_of_le h.2.2.1 hb.size,Nat.lt_of_lt_of_le h.2.2.2 hb.size⟩
theorem Blaking.drew {w:World}(h:Blaking w):Blaking w.drew:=h
theorem Blaking.first {w:World}(h:Blaking w)(i:Nat)(hi:i<8):w.cell? ⟨2,i,none⟩=some (v64 (nth bfirst i)):=by
 rw[bW,h.1,mJ bfirst i (by simpa[bfirst]using hi)]
theorem Blaking.rows {w:World}(h:Blaking w):RdS w 16 (some ⟨4,0,none⟩) 10 10 brows:=
 ⟨rfl,Nat.le_refl _,by unfold maxLen;omega,fun _=>⟨_,0,rfl,h.2.2.2,fun i hi=>by rw[bW,h.2.1,Nat.zero_add,kt brows i (by rw[uV];omega)]⟩⟩
theorem Blaking.from_ {w w':World} {B:Nat}(h:Blaking w)(hb:Below B w w')(h0:2<B)(h1:4<B):Blaking w':=by
 refine⟨?_,?_,Nat.lt_of_lt_of_le h.2.2.1 hb.size,Nat.lt_of_lt_of_le h.2.2.2 hb.size⟩
 ·unfold aF;rw[hb.block _ h0];exact h.1
 ·unfold aF;rw[hb.block _ h1];exact h.2.1
def bm(blk:Y8):Nat→List (BitVec 64)
 |0=>ac 64 16
 |j+1=>(bm blk j).set j (long blk (8*j))
theorem AA(blk:Y8): ∀j,(bm blk j).length=16
 |0=>ah _ _
 |j+1=>by rw[bm,List.length_set,AA blk j]
def bv0(h:List (BitVec 64)):Nat→List (BitVec 64)
 |0=>ac 64 16
 |j+1=>((bv0 h j).set j (nth h j)).set (j+8) (nth bfirst j)
theorem nC(h:List (BitVec 64)): ∀j,(bv0 h j).length=16
 |0=>ah _ _
 |j+1=>by rw[bv0,List.length_set,List.length_set,nC h j]
def bx12(v:List (BitVec 64))(lo:BitVec 64):List (BitVec 64):=v.set 12 (nth v 12^^^lo)
def bx13(v:List (BitVec 64))(hi:BitVec 64):List (BitVec 64):=v.set 13 (nth v 13^^^hi)
def bx14(v:List (BitVec 64))(last:Bool):List (BitVec 64):=if last then v.set 14 (~~~nth v 14)else v
theorem Gj(v:List (BitVec 64))(last:Bool):(bx14 v last).length=v.length:=by unfold bx14;split<;>simp
def brow(r j:Nat):Nat:=(nth brows (r %10*16+j)).toNat
theorem BE(r j:Nat)(h:j<16):brow r j<16:=Gi _ (by omega)
def iz(m v:List (BitVec 64))(r:Nat):Nat→List (BitVec 64)
 |0=>v
 |j+1=>yl (iz m v r j) (j %4) (j/4) (nth m (brow r (2*j))) (nth m (brow r (2*j+1)))
theorem mw(m v:List (BitVec 64))(r:Nat): ∀j,(iz m v r j).length=v.length
 |0=>rfl
 |j+1=>by rw[iz,DA,mw m v r j]
def fO(m v:List (BitVec 64)):Nat→List (BitVec 64)
 |0=>v
 |r+1=>iz m (fO m v r) r 8
theorem kQ(m v:List (BitVec 64)): ∀r,(fO m v r).length=v.length
 |0=>rfl
 |r+1=>by rw[fO,mw,kQ m v r]
def bfin(h v:List (BitVec 64)):Nat→List (BitVec 64)
 |0=>h
 |j+1=>(bfin h v j).set j (nth (bfin h v j) j^^^(nth v j^^^nth v (j+8)))
theorem sZ(h v:List (BitVec 64)): ∀j,(bfin h v j).length=h.length
 |0=>rfl
 |j+1=>by rw[bfin,List.length_set,sZ h v j]
def bvec(h:List (BitVec 64))(lo hi:BitVec 64)(last:Bool):List (BitVec 64):=bx14 (bx13 (bx12 (bv0 h 8) lo) hi) last
theorem Gk(h:List (BitVec 64))(lo hi:BitVec 64)(last:Bool):(bvec h lo hi last).length=16:=by rw[bvec,Gj,bx13,List.length_set,bx12,List.length_set,nC]
def ta(h:List (BitVec 64))(blk:Y8)(lo hi:BitVec 64)(last:Bool):List (BitVec 64):=bfin h (fO (bm blk 16) (bvec h lo hi last) 12) 8
theorem uW(h:List (BitVec 64))(blk:Y8)(lo hi:BitVec 64)(last:Bool):(ta h blk lo hi last).length=h.length:=sZ _ _ _
structure CpS(w:World)(gh gb gc gr gm gv:Nat)(h:List (BitVec 64))(blk:Y8)(x:W2)(m v:List (BitVec 64)):Prop where
 o:gh<gb∧gb<gc∧gc<gr∧gr<gm∧gm<gv
 h:Blk w gh 190 (A64 h)
 b:Blk w gb 271 (A8 blk)
 c:Blk w gc 250 (A64 (wl x))
 r:Blk w gr 190 (A64 (ac 64 8))
 m:Blk w gm 238 (A64 m)
 v:Blk w gv 238 (A64 v)
section
variable {w w':World} {gh gb gc gr gm gv:Nat} {h h':List (BitVec 64)} {blk:Y8} {x:W2} {m v m' v':List (BitVec 64)}
theorem CpS.below(H:CpS w gh gb gc gr gm gv h blk x m v)(hb:Below w.heap.size w w'):CpS w' gh gb gc gr gm gv h blk x m v:=
 ⟨H.o,H.h.belowAll hb,H.b.belowAll hb,H.c.belowAll hb,H.r.belowAll hb,H.m.belowAll hb,H.v.belowAll hb⟩
theorem CpS.drew(H:CpS w gh gb gc gr gm gv h blk x m v):CpS w.drew gh gb gc gr gm gv h blk x m v:=⟨H.o,H.h.drew,H.b.drew,H.c.drew,H.r.drew,H.m.drew,H.v.drew⟩
theorem CpS.putm(H:CpS w gh gb gc gr gm gv h blk x m v)(hg:w.grownBy w' (some gm))(hb:Blk w' gm 238 (A64 m')):CpS w' gh gb gc gr gm gv h blk x m' v:=by
 have o:=H.o;exact⟨o,H.h.grown hg (by simp;omega),H.b.grown hg (by simp;omega),H.c.grown hg (by simp;omega),H.r.grown hg (by simp;omega),hb,H.v.grown hg (by simp;omega)⟩
theorem CpS.putv(H:CpS w gh gb gc gr gm gv h blk x m v)(hg:w.grownBy w' (some gv))(hb:Blk w' gv 238 (A64 v')):CpS w' gh gb gc gr gm gv h blk x m v':=by
 have o:=H.o;exact⟨o,H.h.grown hg (by simp;omega),H.b.grown hg (by simp;omega),H.c.grown hg (by simp;omega),H.r.grown hg (by simp;omega),H.m.grown hg (by simp;omega),hb⟩
theorem CpS.puth(H:CpS w gh gb gc gr gm gv h blk x m v)(hg:w.grownBy w' (some gh))(hb:Blk w' gh 190 (A64 h')):CpS w' gh gb gc gr gm gv h' blk x m v:=by
 have o:=H.o;exact⟨o,hb,H.b.grown hg (by simp;omega),H.c.grown hg (by simp;omega),H.r.grown hg (by simp;omega),H.m.grown hg (by simp;omega),H.v.grown hg (by simp;omega)⟩
end
theorem wC(h:List (BitVec 64))(blk:Y8)(x:W2)(last:Bool)(w:World)(hB:Blaking w)(hh:h.length=8)(hbl:blk.length=128):
  Calls prog 190 #[.agg (A64 h),.agg (A8 blk),.agg (A64 (wl x)),.bool last] w fun e w' =>e= .returned (.agg (A64 (ta h blk x.1 x.2 last)))∧Below w.heap.size w w':=by
 obtain⟨W,hW⟩: ∃W,(((((w.alloc (.cells (A64 h) 190)).alloc (.cells (A8 blk) 271)).alloc (.cells (A64 (wl x)) 250)).alloc (.cells (A64 (ac 64 8)) 190)).alloc (.cells (A64 (ac 64 16)) 238)).alloc (.cells (A64 (ac 64 16)) 238)=W:=⟨_,rfl⟩;obtain⟨b0,b1,b2,b3,b4,b5,hb,hz⟩:=new6 _ _ _ _ _ _ _ _ _ _ _ _ _ _ hW;have S0:CpS W w.heap.size (w.heap.size+1) (w.heap.size+1+1) (w.heap.size+1+1+1) (w.heap.size+1+1+1+1) (w.heap.size+1+1+1+1+1) h blk x (bm blk 0) (bv0 h 0):=
  ⟨by omega,b0,b1,b2,b3,b4,b5⟩
 have HB:=hid hB;have B0:=hid hb;clear b0 b1 b2 b3 b4 b5 hb hz hB;go_enter func190,ntmps190;go_wp2_with fail;have og:w.heap.size≤w.heap.size:=Nat.le_refl _;obtain⟨gh,hgh⟩: ∃g,g=w.heap.size:=⟨_,rfl⟩;generalize w.heap.size+1+1+1+1+1=gv at*;generalize w.heap.size+1+1+1+1=gm at*;generalize w.heap.size+1+1+1=gr at*;generalize w.heap.size+1+1=gc at*;generalize w.heap.size+1=gb at*;have C0:=hid S0;have hO:=S0.o;clear S0 og hgh;go_loopw [17] (fun i wr=> ∃j:Nat,j≤16∧i= .int .i64 j∧CpS wr w.heap.size gb gc gr gm gv h blk x (bm blk j) (bv0 h 0)∧Below w.heap.size w wr) (fun i _=>16-(intOf i).toNat)
 case atStart=>exact⟨0,by omega,rfl,C0.out,B0.out⟩
 case round=>
  obtain⟨j,hj,rfl,hC,hD⟩:=hrel;have C1:=hid hC;have D1:=hid hD;clear hC hD C0 B0 hW;by_cases hjn:j<16
  ·have i1:(j:Int)<16:=by omega
   have i0:(0:Int)≤(j:Int):=by omega
   go_wp2_with fail;refine(qH blk (some ⟨gb,0,none⟩) 128 128 (8*(j:Int)) wr (by have:=C1.out.b.rd8 128 (by omega) (by rw[hbl];unfold maxLen;omega);rw[List.take_of_length_le (by omega),hbl]at this;exact this) (by omega) (by omega)).mono ?_;rintro e w1 ⟨rfl,hb1⟩;have e4:(8*(j:Int)).toNat=8*j:=by omega
   rw[e4];have K1:=C1.out.below hb1;have D2:=D1.out.trans (hb1.mono D1.out.size);have c1:w1.cell? ⟨gm,j,none⟩=some (v64 (nth (bm blk j) j)):=K1.m.cell64 (AA _ _) j (by omega);have fr:=K1.m.frozen j;have k2:=K1.m.set_ j (v64 (long blk (8*j)));rw[eN]at k2;have K2:=hid (K1.putm (aW w1 gm j (v64 (long blk (8*j)))) k2);have D3:=hid (D2.setCell (p:=⟨gm,j,none⟩) (by simp;omega) (v64 (long blk (8*j))));clear hb1 K1 D2 C1 D1 k2;go_wp2;exact⟨⟨j+1,by omega,by go_num,K2.out,D3.out⟩,by simp[intOf];omega⟩
  ·obtain rfl:j=16:=by omega
   go_wp2_with fail;go_loopw [27] (fun i wr=> ∃j:Nat,j≤8∧i= .int .i64 j∧CpS wr w.heap.size gb gc gr gm gv h blk x (bm blk 16) (bv0 h j)∧Below w.heap.size w wr) (fun i _=>8-(intOf i).toNat)
   case atStart=>exact⟨0,by omega,rfl,C1.out,D1.out⟩
   case round=>
    obtain⟨j,hj,rfl,hC,hD⟩:=hrel;have C2:=hid hC;have D2:=hid hD;clear hC hD C1 D1;by_cases hjn:j<8
    ·have i1:(j:Int)<8:=by omega
     have i16:(j:Int)<16:=by omega
     have i0:(0:Int)≤(j:Int):=by omega
     obtain⟨J,hJ⟩: ∃J,J=j+8:=⟨_,rfl⟩;have j1:(j:Int)+8=(J:Int):=by omega
     have j2:IntKind.i64.wrap (J:Int)=(J:Int):=by rw[IntKind.wrap_i64];omega
     have j3:(J:Int)<16:=by omega
     have j4:(0:Int)≤(J:Int):=by omega
     have HJ:=hid hJ;clear hJ;go_upto_region 10 with fail;refine aw [0,0,0,0,0,5,0,0,5,0,3,0,3] (by kernel_rfl) (by kernel_rfl) (fun C hC0 hCb K' hK' => ?_);have q1: ∀w1,C w1→w1.cell? ⟨w.heap.size,j,none⟩=some (v64 (nth h j)):=fun w1 hw=>(C2.out.drew.below (hCb w1 hw)).h.cell64 hh j hjn;have q2: ∀w1,C w1→w1.cell? ⟨2,j,none⟩=some (v64 (nth bfirst j)):=fun w1 hw=>((HB.out.below (Below.refl _ _)).from_ D2.out HB.out.2.2.1 HB.out.2.2.2|>.drew.below (hCb w1 hw)).first j hjn
     repeat (first|((with_reducible refine hq0 ?_);refine hq0a ?_)|((with_reducible refine hq5 ?_);refine hq5a ?_ (fun _ hcw=>by have fq1:=q1 _ hcw;have fq2:=q2 _ hcw;go_simp;(try go_bits);exact rfl))|((with_reducible refine hq1 ?_);refine hq1a ?_))
     have hs:=C2.out.v.lt;have hwv:w.heap.size≤gv:=by omega
     clear q1 q2;refine aU [2,0,2] rfl (by simp) ?_;refine dL C2.out.drew.v rfl rfl (by rw[nC];omega) (sizeOf23 _) (fun w3 k3 g3 s3=> ?_)
     repeat (first|((with_reducible refine zq0 ?_);refine zq0a ?_)|((with_reducible refine zq1 ?_);refine zq1a ?_))
     refine dL k3 rfl rfl (by rw[List.length_set,nC];omega) (sizeOf23 _) (fun w4 k4 g4 s4=> ?_);refine az (hK' _ _ ?_);have K4:=(C2.out.drew.putv g3 k3).putv g4 k4;rw[HJ.out]at K4;have C3:=hid (show CpS w4 w.heap.size gb gc gr gm gv h blk x (bm blk 16) (bv0 h (j+1)) from K4);have D3:=D2.out.drew.trans (ae g3 hwv D2.out.size);have D4:=hid (D3.trans (ae g4 hwv D3.size));clear hK' hCb hC0 k3 g3 s3 k4 g4 s4 K4 D3 C2 D2;clear C K';go_wp2;exact⟨⟨j+1,by omega,by go_num,C3.out,D4.out⟩,by simp[intOf];omega⟩
    ·obtain rfl:j=8:=by omega
     have hwv:w.heap.size≤gv:=by omega
     obtain⟨V0,hV0⟩: ∃V0,V0=bv0 h 8:=⟨_,rfl⟩;have hV0l:V0.length=16:=by rw[hV0];exact nC _ _
     rw[←hV0]at C2;have HV0:=hid hV0;clear hV0;have q12:=C2.out.v.cell64 hV0l 12 (by omega);have qc0:wr.cell? ⟨gc,0,none⟩=some (v64 x.1):=C2.out.c.cell64 (m:=2) rfl 0 (by omega);have fv:=C2.out.v.frozen 12;go_upto_region 13 with fail;obtain⟨W1,hW1⟩: ∃W1,W1=wr.setCell ⟨gv,12,none⟩ (v64 (nth V0 12^^^x.1)):=⟨_,rfl⟩;have hg1:wr.grownBy W1 (some gv):=by rw[hW1];exact aW _ _ _ _
     have hk1:Blk W1 gv 238 (A64 (bx12 V0 x.1)):=by
      have:=C2.out.v.set_ 12 (v64 (nth V0 12^^^x.1));rw[eN]at this;rw[hW1];exact this
     rw[←hW1];have C3:=hid (C2.out.putv hg1 hk1);have D3:=hid (D2.out.trans (ae hg1 hwv D2.out.size));clear q12 qc0 fv hW1 hg1 hk1 C2 D2;obtain⟨V1,hV1⟩: ∃V1,V1=bx12 V0 x.1:=⟨_,rfl⟩;have hV1l:V1.length=16:=by rw[hV1,bx12,List.length_set,hV0l]
     rw[←hV1]at C3;have HV1:=hid hV1;clear hV1;have q13:=C3.out.v.cell64 hV1l 13 (by omega);have qc1:W1.cell? ⟨gc,1,none⟩=some (v64 x.2):=C3.out.c.cell64 (m:=2) rfl 1 (by omega);have fv:=C3.out.v.frozen 13
     go_upto_if 54 with fail
     obtain⟨W2,hW2⟩: ∃W2,W2=W1.setCell ⟨gv,13,none⟩ (v64 (nth V1 13^^^x.2)):=⟨_,rfl⟩;have hg2:W1.grownBy W2 (some gv):=by rw[hW2];exact aW _ _ _ _
     have hk2:Blk W2 gv 238 (A64 (bx13 V1 x.2)):=by
      have:=C3.out.v.set_ 13 (v64 (nth V1 13^^^x.2));rw[eN]at this;rw[hW2];exact this
     rw[←hW2];have C4:=hid (C3.out.putv hg2 hk2);have D4:=hid (D3.out.trans (ae hg2 hwv D3.out.size));clear q13 qc1 fv hW2 hg2 hk2 C3 D3;obtain⟨V2,hV2⟩: ∃V2,V2=bx13 V1 x.2:=⟨_,rfl⟩;have hV2l:V2.length=16:=by rw[hV2,bx13,List.length_set,hV1l]
     rw[←hV2]at C4;have HV2:=hid hV2;clear hV2;have hbv:bvec h x.1 x.2 last=bx14 V2 last:=by rw[HV2.out,HV1.out,HV0.out];rfl
     have HBV:=hid hbv;clear HV0 HV1 HV2 hbv hV0l hV1l
     go_cut [54] from 55 to 58 (fun s54 wx=>s54= .bool last∧CpS wx w.heap.size gb gc gr gm gv h blk x (bm blk 16) (bvec h x.1 x.2 last)∧Below w.heap.size w wx)
     case first=>
      cases last
      ·go_wp2_with fail
       go_meet
       exact⟨rfl,by rw[HBV.out];exact C4.out,D4.out⟩
      ·have q14:=C4.out.v.cell64 hV2l 14 (by omega);have fv:=C4.out.v.frozen 14;have hg3:=aW W2 gv 14 (v64 (~~~nth V2 14));have hk3:=C4.out.v.set_ 14 (v64 (~~~nth V2 14));rw[eN]at hk3;have C5:=hid (C4.out.putv hg3 hk3);have D5:=hid (D4.out.trans (ae hg3 hwv D4.out.size));clear hg3 hk3;go_wp2_with fail
       go_meet
       exact⟨rfl,by rw[HBV.out];exact C5.out,D5.out⟩
     case rest=>
      obtain⟨rfl,hC5,hD5⟩:=hcut;have C5:=hid hC5;have D5:=hid hD5;clear hC5 hD5 C4 D4 HBV hV2l;have hVl:=Gk h x.1 x.2 last;obtain⟨V,hV⟩: ∃V,V=bvec h x.1 x.2 last:=⟨_,rfl⟩;rw[←hV]at C5 hVl;have hMl:=AA blk 16;obtain⟨M,hM⟩: ∃M,M=bm blk 16:=⟨_,rfl⟩;rw[←hM]at C5 hMl;have HE:=hid (show ta h blk x.1 x.2 last=bfin h (fO M V 12) 8 by rw[hM,hV];rfl);clear hM hV;go_wp2_with fail;go_loopw [59] (fun i wr=> ∃r:Nat,r≤12∧i= .int .i64 r∧CpS wr w.heap.size gb gc gr gm gv h blk x M (fO M V r)∧Below w.heap.size w wr) (fun i _=>12-(intOf i).toNat)
      case atStart=>exact⟨0,by omega,rfl,C5.out,D5.out⟩
      case round=>
       obtain⟨r,hr,rfl,hC,hD⟩:=hrel;have C6:=hid hC;have D6:=hid hD;clear hC hD C5 D5;by_cases hrn:r<12
       ·have i1:(r:Int)<12:=by omega
        have i0:(0:Int)≤(r:Int):=by omega
        obtain⟨R,hR⟩: ∃R,R=r %10:=⟨_,rfl⟩;have r1:(r:Int).tmod 10=(R:Int):=by rw[Int.tmod_eq_emod_of_nonneg i0];omega
        have r2:(R:Int)<10:=by omega
        have r3:(0:Int)≤(R:Int):=by omega
        have hRl:R<10:=by omega
        have hb6:=HB.out.from_ D6.out HB.out.2.2.1 HB.out.2.2.2;obtain⟨row,hrow⟩: ∃row,row=(brows.drop (R*16)).take 16:=⟨_,rfl⟩;have hrl:row.length=16:=by rw[hrow,List.length_take,List.length_drop,uV];omega
        have gA:=hb6.rows.row (t:=42) (isAgg42 _) (sizeOf42 _) R hRl;rw[←hrow,Nat.zero_add]at gA;have hbr: ∀k,k<16→brow r k=(nth row k).toNat:=fun k hk=>by
         rw[brow,hrow,br _ _ _ hk,bQ,←hR]
        have HBR:=hid hbr;have HRO:=hid hrow;clear hrow hbr hb6 hR;obtain⟨Vr,hVr⟩: ∃Vr,Vr=fO M V r:=⟨_,rfl⟩;rw[←hVr]at C6;have hVrl:Vr.length=16:=by rw[hVr,kQ,hVl]
        have HVR:=hid hVr;clear hVr;go_wp2_with fail;have hgw:gv<wr.heap.size:=C6.out.v.lt;have dal:Below wr.heap.size wr (wr.alloc (.cells (A8 row) 42)):=(Below.refl _ _).alloc (Nat.le_refl _) _;have C7:=hid (C6.out.below dal);have D7:=hid (D6.out.trans (dal.mono D6.out.size));have R7:=hid (Blk.new wr 42 (A8 row));generalize wr.alloc (.cells (A8 row) 42)=W7 at*;generalize wr.heap.size=gw at*;clear dal gA C6 D6;go_loopw [66] (fun i wr=> ∃j:Nat,j≤8∧i= .int .i64 j∧CpS wr w.heap.size gb gc gr gm gv h blk x M (iz M Vr r j)∧Blk wr gw 42 (A8 row)∧Below w.heap.size w wr) (fun i _=>8-(intOf i).toNat)
        case atStart=>exact⟨0,by omega,rfl,C7.out,R7.out,D7.out⟩
        case round=>
         obtain⟨j,hj,rfl,hC,hRw,hD⟩:=hrel;have C8:=hid hC;have R8:=hid hRw;have D8:=hid hD;clear hC hRw hD C7 R7 D7;by_cases hjn:j<8
         ·have j1:(j:Int)<8:=by omega
          have j0:(0:Int)≤(j:Int):=by omega
          obtain⟨T,hT⟩: ∃T,T=2*j:=⟨_,rfl⟩;obtain⟨T1,hT1⟩: ∃T1,T1=2*j+1:=⟨_,rfl⟩;obtain⟨J4,hJ4⟩: ∃J4,J4=j %4:=⟨_,rfl⟩;obtain⟨Q4,hQ4⟩: ∃Q4,Q4=j/4:=⟨_,rfl⟩;have f1:(j:Int).tmod 4=(J4:Int):=by rw[Int.tmod_eq_emod_of_nonneg j0];omega
          have f2:(j:Int).tdiv 4=(Q4:Int):=by rw[Int.tdiv_eq_ediv_of_nonneg j0];omega
          have f3:2*(j:Int)=(T:Int):=by omega
          have f4:IntKind.i64.wrap (T:Int)=(T:Int):=by rw[IntKind.wrap_i64];omega
          have f5:(T:Int)+1=(T1:Int):=by omega
          have f6:IntKind.i64.wrap (T1:Int)=(T1:Int):=by rw[IntKind.wrap_i64];omega
          have f7:(T:Int)<16:=by omega
          have f8:(T1:Int)<16:=by omega
          have f9:(0:Int)≤(T:Int):=by omega
          have f10:(0:Int)≤(T1:Int):=by omega
          have f11:IntKind.i64.wrap (Q4:Int)=(Q4:Int):=by rw[IntKind.wrap_i64];omega
          have hJl:J4<4:=by omega
          have hQl:Q4<2:=by omega
          have hTl:T<16:=by omega
          have hT1l:T1<16:=by omega
          obtain⟨A,hA⟩: ∃A,A=nth row T:=⟨_,rfl⟩;obtain⟨B,hB⟩: ∃B,B=nth row T1:=⟨_,rfl⟩;have hAe:brow r (2*j)=A.toNat:=by rw[hA,hT];exact HBR.out _ (by omega)
          have hBe:brow r (2*j+1)=B.toNat:=by rw[hB,hT1];exact HBR.out _ (by omega)
          have hAl:A.toNat<16:=by rw[←hAe];exact BE _ _ (by omega)
          have hBl:B.toNat<16:=by rw[←hBe];exact BE _ _ (by omega)
          have g1:(A.toNat:Int)<16:=by omega
          have g2:(B.toNat:Int)<16:=by omega
          obtain⟨X,hX⟩: ∃X,X=nth M A.toNat:=⟨_,rfl⟩;obtain⟨Y,hY⟩: ∃Y,Y=nth M B.toNat:=⟨_,rfl⟩;have hst:yl (iz M Vr r j) J4 Q4 X Y=iz M Vr r (j+1):=by
           rw[iz,hAe,hBe,hX,hY,hJ4,hQ4]
          have HST:=hid hst;have HA:=hid hA;have HB':=hid hB;have HX:=hid hX;have HY:=hid hY;clear hst hA hB hX hY hT hT1 hJ4 hQ4 hAe hBe;have hil:(iz M Vr r j).length=16:=by rw[mw,hVrl]
          obtain⟨Vj,hVj⟩: ∃Vj,Vj=iz M Vr r j:=⟨_,rfl⟩;rw[←hVj]at C8 HST hil;clear hVj;go_upto_region 23 with fail;refine aw [0,0,0,0,0,0,0,5,0,5,0,0,0,0,5,0,5,3] (by kernel_rfl) (by kernel_rfl) (fun C hC0 hCb K' hK' => ?_);have q1: ∀w1,C w1→w1.cell? ⟨gw,T,none⟩=some (v8 A):=fun w1 hw=>by rw[HA.out];exact(R8.out.drew.belowAll (hCb w1 hw)).cell8 hrl T hTl
          have q2: ∀w1,C w1→w1.cell? ⟨gw,T1,none⟩=some (v8 B):=fun w1 hw=>by rw[HB'.out];exact(R8.out.drew.belowAll (hCb w1 hw)).cell8 hrl T1 hT1l
          have q3: ∀w1,C w1→w1.cell? ⟨gm,A.toNat,none⟩=some (v64 X):=fun w1 hw=>by rw[HX.out];exact(C8.out.drew.below (hCb w1 hw)).m.cell64 hMl _ hAl
          have q4: ∀w1,C w1→w1.cell? ⟨gm,B.toNat,none⟩=some (v64 Y):=fun w1 hw=>by rw[HY.out];exact(C8.out.drew.below (hCb w1 hw)).m.cell64 hMl _ hBl
          repeat (first|((with_reducible refine hq0 ?_);refine hq0a ?_)|((with_reducible refine hq5 ?_);refine hq5a ?_ (fun _ hcw=>by have fq1:=q1 _ hcw;have fq2:=q2 _ hcw;have fq3:=q3 _ hcw;have fq4:=q4 _ hcw;go_simp;(try go_bits);exact rfl))|((with_reducible refine hq1 ?_);refine hq1a ?_))
          clear q1 q2 q3 q4;refine aU [2] rfl (by simp) ?_
          (with_reducible refine bC rfl ?_)
          go_simp;refine af ?_;refine(Gh Vj gv J4 Q4 X Y wr.drew C8.out.drew.v hil hJl hQl).mono ?_;rintro e w4 ⟨rfl,k4,g4⟩;refine⟨_,rfl,?_⟩
          try simp only[Act.put,zz1,zz2,zz3]
          refine az (hK' _ _ ?_);rw[HST.out]at k4;have hwv:w.heap.size≤gv:=by omega
          have C9:=hid (C8.out.drew.putv g4 k4);have R9:=hid (R8.out.drew.grown g4 (by simp;omega));have D9:=hid (D8.out.drew.trans (ae g4 hwv D8.out.size));clear hK' hCb hC0 k4 g4 C8 R8 D8;clear C K';go_wp2;exact⟨⟨_,_,_,_,_,_,_,_,_,_,_,_,_,_,_,_,_,_,_,_,_,_,_,⟨j+1,by omega,by go_num,C9.out,R9.out,D9.out⟩,rfl⟩,by simp[intOf];omega⟩
         ·obtain rfl:j=8:=by omega
          have hnx:iz M Vr r 8=fO M V (r+1):=by rw[fO,HVR.out]
          have HNX:=hid hnx;clear hnx;go_wp2;exact⟨⟨r+1,by omega,by go_num,by rw[←HNX.out];exact C8.out,D8.out⟩,by simp[intOf];omega⟩
       ·obtain rfl:r=12:=by omega
        obtain⟨F,hF⟩: ∃F,F=fO M V 12:=⟨_,rfl⟩;rw[←hF]at C6 HE;have hFl:F.length=16:=by rw[hF,kQ,hVl]
        clear hF;go_wp2_with fail;go_loopw [89] (fun i wr=> ∃j:Nat,j≤8∧i= .int .i64 j∧CpS wr w.heap.size gb gc gr gm gv (bfin h F j) blk x M F∧Below w.heap.size w wr) (fun i _=>8-(intOf i).toNat)
        case atStart=>exact⟨0,by omega,rfl,C6.out,D6.out⟩
        case round=>
         obtain⟨j,hj,rfl,hC,hD⟩:=hrel;have C7:=hid hC;have D7:=hid hD;clear hC hD C6 D6;have hfl:(bfin h F j).length=8:=by rw[sZ,hh]
         by_cases hjn:j<8
         ·have i1:(j:Int)<8:=by omega
          have i16:(j:Int)<16:=by omega
          have i0:(0:Int)≤(j:Int):=by omega
          obtain⟨J,hJ⟩: ∃J,J=j+8:=⟨_,rfl⟩;have j1:(j:Int)+8=(J:Int):=by omega
          have j2:IntKind.i64.wrap (J:Int)=(J:Int):=by rw[IntKind.wrap_i64];omega
          have j3:(J:Int)<16:=by omega
          have j4:(0:Int)≤(J:Int):=by omega
          have hnx:(bfin h F j).set j (nth (bfin h F j) j^^^(nth F j^^^nth F J))=bfin h F (j+1):=by rw[bfin,hJ]
          have HNX:=hid hnx;clear hJ hnx;obtain⟨H,hH⟩: ∃H,H=bfin h F j:=⟨_,rfl⟩;rw[←hH]at C7 HNX hfl;clear hH;go_upto_region 29 with fail;refine aw [0,0,5,0,0,5,0,0,0,5,0,0,0,3] (by kernel_rfl) (by kernel_rfl) (fun C hC0 hCb K' hK' => ?_);have q1: ∀w1,C w1→w1.cell? ⟨w.heap.size,j,none⟩=some (v64 (nth H j)):=fun w1 hw=>(C7.out.drew.below (hCb w1 hw)).h.cell64 hfl j hjn;have q2: ∀w1,C w1→w1.cell? ⟨gv,j,none⟩=some (v64 (nth F j)):=fun w1 hw=>(C7.out.drew.below (hCb w1 hw)).v.cell64 hFl j (by omega);have q3: ∀w1,C w1→w1.cell? ⟨gv,J,none⟩=some (v64 (nth F J)):=fun w1 hw=>(C7.out.drew.below (hCb w1 hw)).v.cell64 hFl J (by omega)
          repeat (first|((with_reducible refine hq0 ?_);refine hq0a ?_)|((with_reducible refine hq5 ?_);refine hq5a ?_ (fun _ hcw=>by have fq1:=q1 _ hcw;have fq2:=q2 _ hcw;have fq3:=q3 _ hcw;go_simp;(try go_bits);exact rfl))|((with_reducible refine hq1 ?_);refine hq1a ?_))
          clear q1 q2 q3;refine aU [2] rfl (by simp) ?_;refine dL C7.out.drew.h rfl rfl (by rw[hfl];exact hjn) (sizeOf23 _) (fun w3 k3 g3 s3=> ?_);refine az (hK' _ _ ?_);rw[HNX.out]at k3;have C8:=hid (C7.out.drew.puth g3 k3);have D8:=hid (D7.out.drew.trans (ae g3 (Nat.le_refl _) D7.out.size));clear hK' hCb hC0 k3 g3 s3 C7 D7;clear C K';go_wp2;exact⟨⟨j+1,by omega,by go_num,C8.out,D8.out⟩,by simp[intOf];omega⟩
         ·obtain rfl:j=8:=by omega
          obtain⟨H,hH⟩: ∃H,H=bfin h F 8:=⟨_,rfl⟩;rw[←hH]at C7 HE hfl;clear hH;have rr:=C7.out.h.row;have r2:=C7.out.r.row;have r3:=C7.out.r.whole;have DD:=hid (below_setRow D7.out (by omega) (A64 H):Below w.heap.size w (wr.setRow gr (A64 H)));go_wp2;refine aj (A64 H) rfl rfl rfl (isAgg190 _) (sizeOf190 _) (by rw[bS];exact hfl) (an _ r3) ⟨by rw[HE.out],DD.out⟩
open Go.ChangeShapes Go.WideShapes Go.ChangeAt Go.RowKit
theorem gMixes:prog.globalNamed "wringer/turn.mixes" =some 0:=by kernel_rfl
theorem gUnmixes:prog.globalNamed "wringer/turn.unmixes" =some 1:=by kernel_rfl
theorem tMixes:(prog.globals[0]?).map (·.type)=some 98:=by kernel_rfl
theorem tUnmixes:(prog.globals[1]?).map (·.type)=some 98:=by kernel_rfl
theorem ND {P:Program} {w:World} {n:String} {g:Nat} {cs:Array Value}(hg:P.globalNamed n=some g)(h:w.var? P n=some cs):aF w g=cs∧(cs.size=0∨g<w.heap.size):=by
 simp only[World.var?,hg,Option.bind_some]at h;unfold aF
 split at h
 ·rename_i cs' t f e;rw[e];exact⟨Option.some.inj h,.inr (Array.getElem?_eq_some_iff.1 e).1⟩
 ·cases h
section
variable {H:Type} {enc:TypeId×Value→H} {P:Program} {w:World} {base:Nat} {spare:Nat→Bool} {held:Bool}
theorem tb {t e:TypeId} {fuel:Nat} {cs:List Value} {a b c d:Int} {q:List MemPlace}(ht:P.underlying t=some (.array 4 e))(he:P.underlying e=some (.int .u8))(hc:P.cellsOf e=1)(hct:P.cellsOf t=4)
  (h:DataW.trod enc P w base spare held fuel t cs=some (.agg [.lit (.int .u8 a),.lit (.int .u8 b),.lit (.int .u8 c),.lit (.int .u8 d)],q)):cs=[.int .u8 a,.int .u8 b,.int .u8 c,.int .u8 d]:=by
 obtain⟨xs,m1,rfl,hx1,hlen,hn3,hel⟩:=DataW.trod_array ht h;rw[hc]at hel
 match xs,hn3 with
 | [x0,x1,x2,x3],_=>
  simp only[Prod.mk.injEq,DataW.agg.injEq,List.map_cons,List.map_nil,List.cons.injEq,and_true]at hx1;obtain⟨⟨e0,e1,e2,e3⟩,_⟩:=hx1;obtain⟨k0,c0,d0,_⟩:=DataW.trod_int he (show DataW.trod enc P w base spare held m1 e _=some x0 from hel 0 (by decide));obtain⟨k1,c1,d1,_⟩:=DataW.trod_int he (show DataW.trod enc P w base spare held m1 e _=some x1 from hel 1 (by decide));obtain⟨k2,c2,d2,_⟩:=DataW.trod_int he (show DataW.trod enc P w base spare held m1 e _=some x2 from hel 2 (by decide));obtain⟨k3,c3,d3,_⟩:=DataW.trod_int he (show DataW.trod enc P w base spare held m1 e _=some x3 from hel 3 (by decide));rw[hct]at hlen;rw[d0]at e0;rw[d1]at e1;rw[d2]at e2;rw[d3]at e3;cases e0;cases e1;cases e2;cases e3
  match cs,hlen with
  | [y0,y1,y2,y3],_=>
   simp only[Nat.zero_mul,Nat.one_mul,Nat.reduceMul,List.drop_zero,List.drop_succ_cons,List.take_succ_cons,List.take_zero,List.cons.injEq,and_true]at c0 c1 c2 c3;rw[c0,c1,c2,c3]
end
open Go.ChangeShapes Go.WideShapes Go.ChangeAt Go.RowKit
def oJ:List (String×DataW Unit):=[("wringer/blake.first",Rows.laid_wringer_blake_first),("wringer/blake.rows",Rows.laid_wringer_blake_rows),("wringer/turn.mixes",Rows.laid_wringer_turn_mixes),("wringer/turn.unmixes",Rows.laid_wringer_turn_unmixes)]
theorem DB(os:Os)(args:Array Value):laidMetH prog oJ ((World.doorLaid prog 400 os).forCall (fun _ _=>0) ⟨#[],args,[]⟩).memory:=
 laidMetH_of_parts3 (fuel:=8) (laidMet_of_run' 8 (by kernel_rfl) (by kernel_rfl)) (by kernel_rfl) (by kernel_rfl)
theorem oK {W:World}(h:laidMetH prog oJ W):Turning W:=by
 rw[MakeChecks.laidMetH_plain _ _ _ (by kernel_rfl)]at h;obtain⟨ps,⟨gA,tA,csA,fA,pA,qA,_,_,_,_,⟨gB,tB,csB,fB,pB,qB,_,_,_,_,⟨g0,t0,cs0,f0,p0,q0,hg0,ht0,hv0,hd0,⟨g1,t1,cs1,f1,p1,q1,hg1,ht1,hv1,hd1,_,_⟩,_⟩,_⟩,_⟩,_,_⟩:=h;obtain rfl:=Option.some.inj (gMixes.symm.trans hg0);obtain rfl:=Option.some.inj (gUnmixes.symm.trans hg1);obtain rfl:=Option.some.inj (tMixes.symm.trans ht0);obtain rfl:=Option.some.inj (tUnmixes.symm.trans ht1);have e0:=tb underlying98 underlying5 (by kernel_rfl) (by kernel_rfl) hd0;have e1:=tb underlying98 underlying5 (by kernel_rfl) (by kernel_rfl) hd1;obtain⟨r0,l0⟩:=ND hg0 hv0;obtain⟨r1,l1⟩:=ND hg1 hv1;have s0:cs0.size=4:=by rw[←Array.length_toList,e0];rfl
 have s1:cs1.size=4:=by rw[←Array.length_toList,e1];rfl
 refine⟨?_,?_,by omega,by omega⟩
 ·rw[r0];apply Array.ext';rw[e0,fy];rfl
 ·rw[r1];apply Array.ext';rw[e1,fy];rfl
open Go.ChangeShapes Go.WideShapes Go.ChangeAt Go.RowKit
section
variable {H:Type} {enc:TypeId×Value→H} {P:Program} {w:World} {base:Nat} {spare:Nat→Bool} {held:Bool}
theorem te {t e:TypeId} {fuel n:Nat} {k:IntKind} {cs:List Value} {is:List Int} {q:List MemPlace}(ht:P.underlying t=some (.array n e))(he:P.underlying e=some (.int k))(hc:P.cellsOf e=1)(hct:P.cellsOf t=n)(hn:is.length=n)
  (h:DataW.trod enc P w base spare held fuel t cs=some (.agg (is.map fun i=> .lit (.int k i)),q)):cs=is.map (Value.int k):=by
 obtain⟨xs,m1,rfl,hx1,hlen,hn3,hel⟩:=DataW.trod_array ht h;simp only[Prod.mk.injEq,DataW.agg.injEq]at hx1;obtain⟨hx,_⟩:=hx1;rw[hct]at hlen;rw[hc]at hel;apply List.ext_getElem?;intro i;by_cases hi:i<n
 ·have hxi:i<xs.length:=by omega
  have hii:i<is.length:=by omega
  have h1:=hel i hi;rw[Nat.mul_one,List.getElem?_eq_getElem hxi]at h1;obtain⟨v,c0,d0,_⟩:=DataW.trod_int he h1;have h2:(is.map fun i=>(DataW.lit (.int k i):DataW H))[i]? =(xs.map (·.1))[i]?:=by rw[hx]
  rw[List.getElem?_map,List.getElem?_map,List.getElem?_eq_getElem hxi,d0,List.getElem?_eq_getElem hii]at h2;simp only[Option.map_some,Option.some.injEq,DataW.lit.injEq,Lit.int.injEq,true_and]at h2;have c1:cs[i]? =some (.int k v):=by
   have:=congrArg (fun l:List Value=>l[0]?) c0;simpa[List.getElem?_take,List.getElem?_drop]using this
  rw[c1,List.getElem?_map,List.getElem?_eq_getElem hii,h2];rfl
 ·rw[List.getElem?_eq_none (by omega),List.getElem?_eq_none (by rw[List.length_map];omega)]
theorem uX(m:Nat)(f:Int→Value): ∀(rows:List (List Int)) (cs:List Value),cs.length=rows.length*m→(∀i r,rows[i]? =some r→(cs.drop (i*m)).take m=r.map f)→cs=rows.flatten.map f
 | [],cs,hl,_=>by
  rw[List.length_nil,Nat.zero_mul]at hl;rw[List.eq_nil_of_length_eq_zero hl];rfl
 |r::rows,cs,hl,h=>by
  have h0:=h 0 r rfl;rw[Nat.zero_mul,List.drop_zero]at h0;have ih:=uX m f rows (cs.drop m) (by rw[List.length_drop,hl,List.length_cons,Nat.add_mul];omega) (fun i r' hi=>by
   rw[List.drop_drop,show m+i*m=(i+1)*m by rw[Nat.add_mul,Nat.one_mul,Nat.add_comm]];exact h (i+1) r' (by simpa using hi))
  rw[List.flatten_cons,List.map_append,←ih,←h0,List.take_append_drop]
theorem AD {t e e1:TypeId} {fuel n m:Nat} {k:IntKind} {cs:List Value} {rows:List (List Int)} {q:List MemPlace}(ht:P.underlying t=some (.array n e))(he:P.underlying e=some (.array m e1))(he1:P.underlying e1=some (.int k))(hc1:P.cellsOf e1=1)(hc:P.cellsOf e=m)(hct:P.cellsOf t=n*m)(hn:rows.length=n)(hr: ∀r∈rows,r.length=m)
  (h:DataW.trod enc P w base spare held fuel t cs=some (.agg (rows.map fun r=> .agg (r.map fun i=> .lit (.int k i))),q)):cs=rows.flatten.map (Value.int k):=by
 obtain⟨xs,m1,rfl,hx1,hlen,hn3,hel⟩:=DataW.trod_array ht h;simp only[Prod.mk.injEq,DataW.agg.injEq]at hx1;obtain⟨hx,_⟩:=hx1;rw[hct]at hlen;rw[hc]at hel;refine uX m _ rows cs (by rw[hlen,hn]) (fun i r hi=> ?_);have hii:i<rows.length:=(List.getElem?_eq_some_iff.1 hi).1;have hxi:i<xs.length:=by omega
 have h1:=hel i (by omega);rw[List.getElem?_eq_getElem hxi]at h1;have h2:(rows.map fun r=>(DataW.agg (r.map fun i=> .lit (.int k i)):DataW H))[i]? =(xs.map (·.1))[i]?:=by rw[hx]
 rw[List.getElem?_map,List.getElem?_map,List.getElem?_eq_getElem hxi,hi]at h2;simp only[Option.map_some,Option.some.injEq]at h2;refine te (q:=(xs[i]).2) he he1 hc1 hc (hr r (List.mem_of_getElem? hi)) (h1.trans ?_);rw[h2]
end
def bfirstI:List Int:=[7640891576956012808,13503953896175478587,4354685564936845355,11912009170470909681,5840696475078001361,11170449401992604703,2270897969802886507,6620516959819538809]
def browsI:List (List Int):=[[0,1,2,3,4,5,6,7,8,9,10,11,12,13,14,15],[14,10,4,8,9,15,13,6,1,12,0,2,11,7,5,3],[11,8,12,0,5,2,15,13,10,14,3,6,7,1,9,4],[7,9,3,1,13,12,11,14,2,6,5,10,4,0,15,8],[9,0,5,7,2,4,10,15,14,1,11,12,6,8,3,13],[2,12,6,10,0,11,8,3,4,13,7,5,15,14,1,9],[12,5,1,15,14,13,4,10,0,7,6,3,9,2,8,11],[13,11,7,14,12,1,3,9,5,0,15,4,8,6,2,10],[6,15,14,9,11,3,0,8,12,2,13,7,1,4,10,5],[10,2,8,4,7,6,1,5,15,11,9,14,3,12,13,0]]
theorem gFirst:prog.globalNamed "wringer/blake.first" =some 2:=by kernel_rfl
theorem gRows:prog.globalNamed "wringer/blake.rows" =some 4:=by kernel_rfl
theorem tFirst:(prog.globals[2]?).map (·.type)=some 190:=by kernel_rfl
theorem tRows:(prog.globals[4]?).map (·.type)=some 285:=by kernel_rfl
theorem KC:prog.underlying 190=some (.array 8 23):=by kernel_rfl
theorem MS:prog.underlying 285=some (.array 10 42):=by kernel_rfl
theorem uRow:prog.underlying 42=some (.array 16 5):=by kernel_rfl
theorem AF:bfirstI.map (Value.int .u64)=bfirst.map v64:=by kernel_rfl
theorem DG:browsI.flatten.map (Value.int .u8)=brows.map v8:=by kernel_rfl
theorem oL {W:World}(h:laidMetH prog oJ W):Blaking W:=by
 rw[MakeChecks.laidMetH_plain _ _ _ (by kernel_rfl)]at h;obtain⟨ps,⟨g0,t0,cs0,f0,p0,q0,hg0,ht0,hv0,hd0,⟨g1,t1,cs1,f1,p1,q1,hg1,ht1,hv1,hd1,_⟩,_⟩,_,_⟩:=h;obtain rfl:=Option.some.inj (gFirst.symm.trans hg0);obtain rfl:=Option.some.inj (gRows.symm.trans hg1);obtain rfl:=Option.some.inj (tFirst.symm.trans ht0);obtain rfl:=Option.some.inj (tRows.symm.trans ht1);have e0:=te (is:=bfirstI) KC underlying23 (by kernel_rfl) (by kernel_rfl) rfl hd0;have e1:=AD (rows:=browsI) MS uRow underlying5 (by kernel_rfl) (by kernel_rfl) (by kernel_rfl) rfl (by decide) hd1;obtain⟨r0,l0⟩:=ND hg0 hv0;obtain⟨r1,l1⟩:=ND hg1 hv1;rw[AF]at e0;rw[DG]at e1;have s0:cs0.size=8:=by rw[←Array.length_toList,e0];rfl
 have s1:cs1.size=160:=by rw[←Array.length_toList,e1];rfl
 refine⟨?_,?_,by omega,by omega⟩
 ·rw[r0];apply Array.ext';rw[e0];rfl
 ·rw[r1];apply Array.ext';rw[e1];rfl
end Go.Proofs.YtddkbkbpogcffaaGreatDoor
