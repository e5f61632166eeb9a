/-aes:the round keys:what a schedule is;Expand:up to its loop-/
import Derived.Test.YtlpkfdkhlffmlaaGreatDoorMGf
import Derived.Test.YtlpkfdkhlffmlaaGreatDoorMGm
import Derived.Deep.CutBlock
import Derived.Test.YtlpkfdkhlffmlaaGreatDoorMGe
import Derived.Deep.CutRange
namespace Go.Proofs.YtlpkfdkhlffmlaaGreatDoor
open Go.Proofs.Tryz
open Lib (hid)
set_option linter.unusedSimpArgs false
set_option linter.unusedVariables false
set_option maxRecDepth 100000
set_option maxHeartbeats 1600000
open Go.RowKit
def rc:Nat→BitVec 8
 |0=>1#8
 |k+1=>dbl (rc k)
def eH(n i:Nat)(x:Y8):Y8:=
 if i %n=0 then [box (nth x 1)^^^rc (i/n-1),box (nth x 2),box (nth x 3),box (nth x 0)]else if n=8∧i %8=4 then box4 x else x
def jj(L:Y8)(i:Nat):Y8:=(L.drop (i*4)).take 4
def sch(n:Nat)(key:Y8):Nat→Y8
 |0=>key
 |k+1=>sch n key k++xor4 (jj (sch n key k) k) (eH n (n+k) (jj (sch n key k) (n+k-1)))
theorem eZ(n:Nat)(key:Y8)(h:key.length=4*n): ∀k,(sch n key k).length=4*(n+k)
 |0=>by rw[sch,h];rfl
 |k+1=>by rw[sch,List.length_append,eZ n key h k,fL];omega
theorem nC(n i:Nat)(x:Y8)(h:x.length=4):(eH n i x).length=4:=by
 unfold eH
 split
 ·rfl
 ·split
  ·rfl
  ·exact h
theorem gI(L:Y8)(i:Nat)(h:4*i+4≤L.length):(jj L i).length=4:=by
 rw[jj,List.length_take,List.length_drop];omega
theorem dI:(prog.info? 197).map (fun i=>(i.zero,i.size,i.bytes))=some (some (.agg (A8 (aa 8 4))),4,4):=by kernel_rfl
theorem jJ:(prog.info? 154).map (fun i=>(i.zero,i.size,i.bytes))=some (some (.agg (A8 (aa 8 16))),16,16):=by kernel_rfl
def vk:Value→Nat
 | .slice _ n _=>n
 |_=>0
def KeyAt(w:World)(k p m:Nat)(L:Y8):Prop:=
 TabAt w p∧ ∃g c,Blk w k 204 #[.pointer (some ⟨p,0,none⟩),.slice (some ⟨g,0,none⟩) m c]∧RdS w 16 (some ⟨g,0,none⟩) m c L
theorem KeyAt.below {w w':World} {k p m:Nat} {L:Y8}(h:KeyAt w k p m L)(hb:Below w.heap.size w w'):KeyAt w' k p m L:=by
 obtain⟨h0,g,c,h1,h2⟩:=h;exact⟨h0.below hb,g,c,h1.belowAll hb,h2.below hb⟩
theorem KeyAt.drew {w:World} {k p m:Nat} {L:Y8}(h:KeyAt w k p m L):KeyAt w.drew k p m L:=h
def iq(e:TypeId)(a b c d:Value):Sem Value:=Instr.build e #[(0,a),(1,b),(2,c),(3,d)]
@[go_sem ↓ high] theorem vl {P:Program} {ρ:Operand→Value} {w:World} {dst:Option Tmp} {ty:TypeId} {pos:String} {after:Array Edge} {guard:Option (Nat×Bool)}(e:TypeId)(a b c d:Operand):(execOp ρ ⟨dst,.build e #[(0,a),(1,b),(2,c),(3,d)],ty,pos,after,guard⟩).run P w=((iq e (ρ a) (ρ b) (ρ c) (ρ d)).run P w).andThen fun v w' => .ok (.value v) w':=by simp[execOp,iq]
@[go_sem high] theorem xg(a b c d:BitVec 8)(w:World):(iq 197 (v8 a) (v8 b) (v8 c) (v8 d)).run prog w= .ok (.agg (A8 [a,b,c,d])) w:=by kernel_rfl
theorem OwnS.keptG {w w':World} {B k g n c m:Nat} {e:TypeId} {s:Nat} {l:Y8}(h:OwnS w B e s (.slice (some ⟨g,0,none⟩) n c) m l)(hg:w.grownBy w' (some k))(hne:g≠k):OwnS w' B e s (.slice (some ⟨g,0,none⟩) n c) m l:=
 World.ownsRow.kept h hg (.inr (by simp[Value.ownBlock,hne]))
def ExpJ(w:World)(p:Nat)(key:Y8)(a:Option Addr)(m c n:Nat)(lg:Bool)(a':Act)(w':World):Prop:=
 ∃(i:Nat) (v:Value),(∃u:Nat→Value,a' ={tmps:=(fun u:Nat→Value=> #[.pointer (some ⟨p,0,none⟩),.slice a m c,u 2,u 3,.pointer none,.int .i64 0,.int .i64 (n:Int),.bool lg,u 8,v,u 10,v8 (rc ((i-1)/n)),u 12,u 13,u 14,u 15,u 16,u 17,u 18,u 19,u 20,u 21,u 22,u 23,u 24,u 25,u 26,u 27,u 28,u 29,u 30,u 31,u 32,u 33,u 34,u 35,u 36,u 37,u 38,u 39,u 40,u 41,u 42,u 43,u 44,u 45,u 46,u 47,u 48,u 49,u 50,u 51,u 52,u 53,u 54,u 55,u 56,u 57,u 58,u 59,u 60,u 61,u 62,u 63,u 64,u 65,u 66,u 67,u 68,u 69,u 70,u 71,u 72,u 73,u 74,u 75,u 76,u 77,u 78,u 79,u 80,u 81,u 82,u 83,u 84,u 85,u 86,u 87,u 88,u 89,u 90,u 91,u 92,u 93,u 94,u 95,u 96,u 97,u 98,u 99,u 100,u 101,u 102,u 103,u 104,u 105,u 106,u 107,u 108,u 109,u 110,u 111,u 112,u 113,u 114,u 115,u 116,u 117,u 118,u 119,u 120,u 121,u 122,u 123,u 124,u 125,u 126,u 127,u 128,u 129,u 130,u 131,u 132,u 133]) u,defers:=[]})∧
  n≤i∧i<4*(n+7)∧OwnS w' w.heap.size 197 4 v i (sch n key (i-n))∧Below w.heap.size w w'
theorem qu(p:Nat)(key:Y8)(a:Option Addr)(m c:Nat)(w:World)(hT:TabAt w p)(hr:Rd8 w a m c key)(hm:m=16∨m=24∨m=32):
  Calls prog 67 #[.pointer (some ⟨p,0,none⟩),.slice a m c] w fun e w' => ∃k,e= .returned (.tuple #[.pointer (some ⟨k,0,none⟩),.int .i64 0])∧KeyAt w' k p (m/4+7) (sch (m/4) key (3*(m/4)+28))∧w.heap.size≤k∧Below w.heap.size w w':=by
 have T0:=hid hT;have R0:=hid hr;have hml:=hr.1;obtain⟨n,hn⟩: ∃n,n=m/4:=⟨_,rfl⟩;have hn8:n=4∨n=6∨n=8:=by omega
 have hmn:m=4*n:=by omega
 have HMN:=hid hmn;rw[←hn];have HN:=hid hn;obtain⟨lg,hlg⟩: ∃b,b=decide (m=32):=⟨_,rfl⟩;have HLG:=hid hlg;clear hT hr hmn hn hlg;go_enter func67,ntmps67;go_wp2;refine aQ 0 (ExpJ w p key a m c n lg) (fun a' _=>100-vk (a'.tmps.getD 9 undef)) rfl (fun hrest=> ?_) ?_
 ·go_wp2_with fail;refine(tZ m w hm).mono ?_;rintro e w1 ⟨rfl,rfl⟩;rw[←HN.out,←HLG.out];obtain⟨N6,hN6⟩: ∃q,q=n+6:=⟨_,rfl⟩;obtain⟨N7,hN7⟩: ∃q,q=n+7:=⟨_,rfl⟩;obtain⟨C4,hC4⟩: ∃q,q=4*(n+7):=⟨_,rfl⟩;have f1:(n:Int)+6=(N6:Int):=by omega
  have f2:IntKind.i64.wrap (N6:Int)=(N6:Int):=by rw[IntKind.wrap_i64];omega
  have f3:(N6:Int)+1=(N7:Int):=by omega
  have f4:IntKind.i64.wrap (N7:Int)=(N7:Int):=by rw[IntKind.wrap_i64];omega
  have f5:(4:Int)*(N7:Int)=(C4:Int):=by omega
  have f6:IntKind.i64.wrap (C4:Int)=(C4:Int):=by rw[IntKind.wrap_i64];omega
  obtain⟨wm,hmk,om,bm⟩:=tY (P:=prog) w 196 197 4 (C4:Int) w.heap.size underlying196 dI (by omega) (by omega) (by omega) (Nat.le_refl _);have OM:=hid om;have BM:=hid bm;clear om bm hN6 hN7 hC4;go_wp2_with fail;clear hmk f1 f2 f3 f4 f5 f6;go_loopw [9,33] (fun v i wr=> ∃j:Nat,j≤n∧i= .int .i64 j∧OwnS wr w.heap.size 197 4 v j (key.take (4*j))∧Below w.heap.size w wr) (fun _ i _=>n-(intOf i).toNat)
  case atStart=>exact⟨0,by omega,rfl,OM.out,BM.out⟩
  case round=>
   obtain⟨j,hj,rfl,hO,hB⟩:=hrel;have O1:=hid hO;have B1:=hid hB;clear hO hB OM BM;by_cases hjn:j<n
   ·have j1:(j:Int)<n:=by omega
    have j0:(0:Int)≤(j:Int):=by omega
    obtain⟨E,hE⟩: ∃E,E=4*j:=⟨_,rfl⟩;have f1:(4:Int)*(j:Int)=(E:Int):=by omega
    have f2:IntKind.i64.wrap (E:Int)=(E:Int):=by rw[IntKind.wrap_i64];omega
    have HE:=hid hE;clear hE;go_upto_region 10 with fail;refine aq [0,0,0,0,2,2,2,2,0] rfl (fun ops' K2 hK2=> ?_)
    repeat (first|((with_reducible refine zq0 ?_);refine zq0a ?_)|((with_reducible refine zq1 ?_);refine zq1a ?_))
    (with_reducible refine aM rfl ?_)
    go_simp;refine ae ?_;refine(bW key a m c (E:Int) wr (R0.out.below B1.out) (by omega) (by have:=HE.out;omega)).mono ?_;rintro e w2 ⟨rfl,b2⟩;refine⟨_,rfl,?_⟩
    try simp only[Act.put,zz1,zz2,zz3]
    rw[Int.toNat_natCast]
    (with_reducible refine aM rfl ?_)
    go_simp;refine ae ?_;refine(ei (word key E) w2).mono ?_;rintro e w3 ⟨rfl,b3⟩;refine⟨_,rfl,?_⟩
    try simp only[Act.put,zz1,zz2,zz3]
    refine pd (eg _) (by omega) (by omega) rfl underlying196 dI (fun w4 g4 r4 b4=> ?_);simp only[Act.put,zz1,zz2,zz3];have b24:=(b2.trans (b3.mono b2.size)).trans (b4.mono (Nat.le_trans b2.size b3.size));refine js (O1.out.below b24) r4 rfl rfl (by omega) (by omega) underlying196 dI (by omega) (Nat.le_trans B1.out.size b24.size) (fun w5 v5 o5 g5 b5=> ?_);simp only[Act.put,zz1,zz2,zz3]
    repeat (first|((with_reducible refine zq0 ?_);refine zq0a ?_)|((with_reducible refine zq1 ?_);refine zq1a ?_))
    refine ak (hK2 _ _ ?_);have e5:key.take (4*j)++le32 (word key E)=key.take (4*(j+1)):=by
     have hE:=HE.out;have hmn:=HMN.out;rw[jq,hE,←Bi key (4*j) (by omega),show 4*(j+1)=4*j+4 by omega,List.take_add]
    rw[e5]at o5;have O5:=hid o5;have d5:=B1.out.trans (b24.mono B1.out.size);have B5:=hid (d5.trans b5);clear o5 g5 b5 r4 b24 b2 b3 b4 e5 d5 hK2;go_wp2;exact⟨⟨j+1,by omega,by go_num,O5.out,B5.out⟩,by simp[intOf];omega⟩
   ·obtain rfl:j=n:=by omega
    have hO:=O1.out;have hmn:=HMN.out;rw[List.take_of_length_le (by omega)]at hO;have O2:=hid hO;clear hO hmn O1;go_wp2;go_step3;refine ‹∀(a:Act) (w_1:World),Code.wp _ _ _ a w_1→_› _ _ (hrest _ _ ?_);refine⟨j,u9,aI _ ?_,Nat.le_refl _,by omega,?_,B1.out⟩
    ·rw[show(j-1)/j=0 from Nat.div_eq_of_lt (by omega)];rfl
    ·rw[Nat.sub_self];exact O2.out
 ·rintro a' w' ⟨i,v,⟨u,rfl⟩,hni,hi4,hO,hB⟩;obtain⟨g,cap,rfl,hg1,hg2,hg3,hg4⟩:=hO.form (by omega);obtain⟨L,hL⟩: ∃L,L=sch n key (i-n):=⟨_,rfl⟩;have hLl:L.length=4*i:=by rw[hL,eZ n key (by have:=HMN.out;omega)];omega
  rw[←hL]at hO;obtain⟨I1,hI1⟩: ∃q,q=i-1:=⟨_,rfl⟩;have f1:(i:Int)-1=(I1:Int):=by omega
  have f2:IntKind.i64.wrap (I1:Int)=(I1:Int):=by rw[IntKind.wrap_i64];omega
  have f3:(0:Int)≤(I1:Int):=by omega
  have f4:(I1:Int)<(i:Int):=by omega
  obtain⟨X,hX⟩: ∃X,X=jj L (i-1):=⟨_,rfl⟩;have hXl:X.length=4:=by rw[hX];exact gI L _ (by omega)
  have c1:=hO.rdAt.row (t:=197) (isAgg197 _) (sizeOf197 _) I1 (by omega);rw[show(L.drop (I1*4)).take 4=X by rw[hX,hI1];rfl,Nat.zero_add]at c1;obtain⟨R,hR⟩: ∃q,q=i %n:=⟨_,rfl⟩;have g1:(i:Int) %(n:Int)=(R:Int):=by rw[hR];omega
  have n0: ¬(n:Int)=0:=by omega
  have HL:=hid hL;have HLL:=hid hLl;have HX:=hid hX;have HR:=hid hR;have HI:=hid hI1;have OO:=hid hO;have BB:=hid hB;obtain⟨pw,hpw⟩: ∃q,q=rc ((i-1)/n):=⟨_,rfl⟩;rw[←hpw];have HP:=hid hpw;clear hL hLl hX hR hI1 hO hB hpw
  go_upto_block 2 with fail
  have O1:=hid (OO.out.alloc (.cells (A8 X) 197));have X1:=hid (Blk.new w' 197 (A8 X));have B1:=hid (BB.out.alloc BB.out.size (.cells (A8 X) 197));have hpx:w.heap.size≤w'.heap.size:=BB.out.size;have hgx:g<w'.heap.size:=hg2;clear OO BB c1;generalize w'.alloc (.cells (A8 X) 197)=W1 at*;generalize w'.heap.size=pX at*
  go_cut [11] from 51 to 86 (fun s11 wx=>s11=v8 (rc (i/n))∧Blk wx pX 197 (A8 (eH n i X))∧OwnS wx w.heap.size 197 4 (.slice (some ⟨g,0,none⟩) i cap) i L∧Below w.heap.size w wx)
  case first=>
   by_cases hR0:R=0
   ·have z1:(R:Int)=0:=by omega
    have x0:=X1.out.cell8 hXl 0 (by omega);have x1:=X1.out.cell8 hXl 1 (by omega);have x2:=X1.out.cell8 hXl 2 (by omega);have x3:=X1.out.cell8 hXl 3 (by omega);go_wp2_with fail;refine(mL p [nth X 1,nth X 2,nth X 3,nth X 0] W1 (T0.out.below B1.out) rfl).mono ?_;rintro e w2 ⟨rfl,hb2⟩;obtain⟨Y,hY⟩: ∃Y,Y=box4 [nth X 1,nth X 2,nth X 3,nth X 0]:=⟨_,rfl⟩;rw[←hY];have hYl:Y.length=4:=by rw[hY];rfl
    have X2:=hid ((X1.out.belowAll hb2).put (A8 Y));have O2:=hid ((O1.out.below hb2).keptG (aP w2 pX (A8 Y)) (by omega));have B2:=hid (below_setRow (B1.out.trans (hb2.mono B1.out.size)) hpx (A8 Y));have rr:=(X1.out.belowAll hb2).row;have rw2:=(X1.out.belowAll hb2).whole;have HY:=hid hY;clear x0 x1 x2 x3 hb2 hY O1 X1 B1;go_upto_region 16 with fail;clear rr rw2;generalize w2.setRow pX (A8 Y)=W3 at*;have y0:=X2.out.cell8 hYl 0 (by omega);have yf:=X2.out.frozen 0;have e1:i/n=(i-1)/n+1:=by
     have:=HR.out;rcases hn8 with rfl|rfl|rfl<;>omega
    have e2:Y.set 0 (nth Y 0^^^pw)=eH n i X:=by
     unfold eH;rw[if_pos (by rw[←HR.out];exact hR0),HY.out,e1,Nat.add_sub_cancel,←HP.out];rfl
    have kk:=X2.out.set_ 0 (v8 (nth Y 0^^^pw));rw[fd,e2]at kk;have X3:=hid kk;have O3:=hid (O2.out.keptG (aC W3 pX 0 (v8 (nth Y 0^^^pw))) (by omega));have B3:=hid (B2.out.setCell (p:=⟨pX,0,none⟩) (by simp;omega) (v8 (nth Y 0^^^pw)));clear kk X2 O2 B2;go_wp2_with fail;refine(gX pw _).mono ?_;rintro e w4 ⟨rfl,rfl⟩;go_wp2
    go_meet
    refine⟨?_,X3.out,O3.out,B3.out⟩;rw[e1,rc,←HP.out]
   ·have z1: ¬(R:Int)=0:=by omega
    have e1:i/n=(i-1)/n:=by
     have:=HR.out;rcases hn8 with rfl|rfl|rfl<;>omega
    cases lg with
    |true=>
     have hn':n=8:=by have:=HMN.out;have h:=of_decide_eq_true HLG.out.symm;omega
     by_cases hR4:R=4
     ·have z4:(R:Int)=4:=by omega
      have r1:=X1.out.row;have hs:box4 X=eH n i X:=by
       unfold eH;have:=HR.out;rw[if_neg (by omega),if_pos ⟨hn',by rw[←hR4,this,hn']⟩]
      clear hn';go_wp2_with fail;refine(mL p X W1 (T0.out.below B1.out) hXl).mono ?_;rintro e w2 ⟨rfl,hb2⟩;obtain⟨Y,hY⟩: ∃Y,Y=box4 X:=⟨_,rfl⟩;have hYl:Y.length=4:=by rw[hY];rfl
      rw[←hY]at hs⊢;have X2:=hid ((X1.out.belowAll hb2).put (A8 Y));have O2:=hid ((O1.out.below hb2).keptG (aP w2 pX (A8 Y)) (by omega));have B2:=hid (below_setRow (B1.out.trans (hb2.mono B1.out.size)) hpx (A8 Y));have rr:=(X1.out.belowAll hb2).row;have rw2:=(X1.out.belowAll hb2).whole;have HS:=hid hs;clear r1 hb2 hY O1 X1 B1 hs;go_wp2
      go_meet
      exact⟨by rw[e1,←HP.out],by rw[←HS.out];exact X2.out,O2.out,B2.out⟩
     ·have z4: ¬(R:Int)=4:=by omega
      have hs:X=eH n i X:=by
       unfold eH;have:=HR.out;rw[if_neg (by omega),if_neg (fun h=>hR4 (by rw[this,hn',h.2]))]
      have HS:=hid hs;clear hs hn';go_wp2
      go_meet
      exact⟨by rw[e1,←HP.out],by rw[←HS.out];exact X1.out,O1.out,B1.out⟩
    |false=>
     have hn': ¬n=8:=by have:=HMN.out;have h:=of_decide_eq_false HLG.out.symm;omega
     have hs:X=eH n i X:=by
      unfold eH;have:=HR.out;rw[if_neg (by omega),if_neg (fun h=>hn' h.1)]
     have HS:=hid hs;clear hs;go_wp2
     go_meet
     exact⟨by rw[e1,←HP.out],by rw[←HS.out];exact X1.out,O1.out,B1.out⟩
  case rest=>
   obtain⟨rfl,hX2,hO2,hB2⟩:=hcut;have X2:=hid hX2;have O2:=hid hO2;have B2:=hid hB2;clear hX2 hO2 hB2 O1 X1 B1;have hsl:=nC n i X hXl;obtain⟨Y,hY⟩: ∃Y,Y=eH n i X:=⟨_,rfl⟩;rw[←hY]at X2 hsl;have r1:=X2.out.drew.row;obtain⟨D,hD⟩: ∃q,q=i-n:=⟨_,rfl⟩;have d1:(i:Int)-(n:Int)=(D:Int):=by omega
   have d2:IntKind.i64.wrap (D:Int)=(D:Int):=by rw[IntKind.wrap_i64];omega
   have d3:(0:Int)≤(D:Int):=by omega
   have d4:(D:Int)<(i:Int):=by omega
   obtain⟨V,hV⟩: ∃V,V=jj L D:=⟨_,rfl⟩;have hVl:V.length=4:=by rw[hV];exact gI L _ (by have:=HLL.out;omega)
   have c1:=O2.out.drew.rdAt.row (t:=197) (isAgg197 _) (sizeOf197 _) D (by omega);rw[show(L.drop (D*4)).take 4=V by rw[hV];rfl,Nat.zero_add]at c1;have HY:=hid hY;have HV:=hid hV;have HD:=hid hD;clear hY hV hD;go_upto_region 20 with fail;refine ao [0,0,0,0,0,0,0,1,1,2,2,2,0] (by kernel_rfl) (by kernel_rfl) (fun ops' K2 hK2=> ?_)
   repeat (first|((with_reducible refine zq0 ?_);refine zq0a ?_)|((with_reducible refine zq1 ?_);refine zq1a ?_))
   (with_reducible refine aM rfl ?_)
   go_simp;refine ae ?_;refine(ua V Y wc.drew hVl hsl).mono ?_;rintro e w3 ⟨rfl,b3⟩;refine⟨_,rfl,?_⟩
   try simp only[Act.put,zz1,zz2,zz3]
   refine pd (fL V Y) (by omega) (by omega) rfl underlying196 dI (fun w4 g4 r4 b4=> ?_);simp only[Act.put,zz1,zz2,zz3];have b34:=b3.trans (b4.mono b3.size);refine js (O2.out.drew.below b34) r4 rfl rfl (by omega) (by omega) underlying196 dI (by omega) (by have:=b34.size;have:=B2.out.size;simp at*;omega) (fun w5 v5 o5 g5 b5=> ?_);simp only[Act.put,zz1,zz2,zz3]
   repeat (first|((with_reducible refine zq0 ?_);refine zq0a ?_)|((with_reducible refine zq1 ?_);refine zq1a ?_))
   refine ak (hK2 _ _ ?_);have e5:L++xor4 V Y=sch n key (D+1):=by
    have h1:n+D=i:=by have:=HD.out;omega
    rw[sch,HV.out,HY.out,HX.out,h1,HL.out,←HD.out]
   rw[e5]at o5;have d5:=B2.out.drew.trans (b34.mono B2.out.size);have B5:=hid (d5.trans b5);obtain⟨g6,cap6,rfl,hg61,hg62,hg63,hg64⟩:=o5.form (by omega);have O5:=hid o5;clear o5 g5 b5 r4 b34 b3 b4 e5 d5 hK2 c1 r1 d1 d2 d3 d4 f1 f2 f3 f4 g1 X2 O2 B2;obtain⟨N6,hN6⟩: ∃q,q=n+6:=⟨_,rfl⟩;obtain⟨N7,hN7⟩: ∃q,q=n+7:=⟨_,rfl⟩;obtain⟨C4,hC4⟩: ∃q,q=4*(n+7):=⟨_,rfl⟩;have f1:(n:Int)+6=(N6:Int):=by omega
   have f2:IntKind.i64.wrap (N6:Int)=(N6:Int):=by rw[IntKind.wrap_i64];omega
   have f3:(N6:Int)+1=(N7:Int):=by omega
   have f4:IntKind.i64.wrap (N7:Int)=(N7:Int):=by rw[IntKind.wrap_i64];omega
   have f5:(4:Int)*(N7:Int)=(C4:Int):=by omega
   have f6:IntKind.i64.wrap (C4:Int)=(C4:Int):=by rw[IntKind.wrap_i64];omega
   obtain⟨I2,hI2⟩: ∃q,q=i+1:=⟨_,rfl⟩;rw[←hI2]at O5 hg63⊢;have HI2:=hid hI2;by_cases hend:I2<C4
   ·have z1:(I2:Int)<(C4:Int):=by omega
    have HE:=hid hC4;clear hC4 hN6 hN7 hI2;go_wp2;go_step3;refine⟨rfl,⟨I2,.slice (some ⟨g6,0,none⟩) I2 cap6,aI _ ?_,by have:=HI2.out;omega,by have:=HE.out;omega,?_,B5.out⟩,?_⟩
    ·rw[show(I2-1)/n=i/n by rw[HI2.out,Nat.add_sub_cancel]];rfl
    ·rw[show I2-n=D+1 by have:=HI2.out;have:=HD.out;omega];exact O5.out
    ·have:=HI2.out;simp[vk];omega
   ·have z1: ¬(I2:Int)<(C4:Int):=by omega
    have hI3:I2=4*N7:=by omega
    rw[show D+1=3*n+28 by have:=HD.out;omega]at O5;have HC:=hid hC4;have HN7:=hid hN7;have HI3:=hid hI3;clear hC4 hN6 hN7 hI2 hI3;obtain⟨Lf,hLf⟩: ∃Lf,Lf=sch n key (3*n+28):=⟨_,rfl⟩;rw[←hLf]at O5;have hLfl:Lf.length=16*N7:=by
     have h1:=HN7.out;have h2:=HMN.out;rw[hLf,eZ n key (by omega)];omega
    have HLF:=hid hLfl;have HLS:=hid hLf;have RW:=hid O5.out.rdAt;have hc6:I2≤cap6:=hg63;have hn15:N7≤15:=by have:=HN7.out;omega
    clear hLf hLfl O5;go_upto_region 25 with fail;clear f1 f2 f3 f4 f5 f6 z1;go_loopw [112] (fun i wr=> ∃(j:Nat) (v:Value),j≤N7∧i= .int .i64 j∧Blk wr w5.heap.size 204 #[.pointer (some ⟨p,0,none⟩),v]∧OwnS wr (w5.heap.size+1) 154 16 v j (Lf.take (16*j))∧Below w5.heap.size w5 wr) (fun i _=>N7-(intOf i).toNat)
    case atStart=>exact⟨0,.slice none 0 0,by omega,rfl,Blk.new _ _ _,OwnS.nil_ _ _ _ _,(Below.refl _ _).alloc (Nat.le_refl _) _⟩
    case round=>
     obtain⟨j,v,hj,rfl,hK,hO,hB⟩:=hrel;have K1:=hid hK;have O1:=hid hO;have B1:=hid hB;clear hK hO hB;by_cases hjn:j<N7
     ·have j1:(j:Int)<(N7:Int):=by omega
      have j0:(0:Int)≤(j:Int):=by omega
      obtain⟨E,hE⟩: ∃E,E=4*j:=⟨_,rfl⟩;have f1:(4:Int)*(j:Int)=(E:Int):=by omega
      have f2:IntKind.i64.wrap (E:Int)=(E:Int):=by rw[IntKind.wrap_i64];omega
      obtain⟨F,hF⟩: ∃F,F=E+4:=⟨_,rfl⟩;have f3:(E:Int)+4=(F:Int):=by omega
      have f4:IntKind.i64.wrap (F:Int)=(F:Int):=by rw[IntKind.wrap_i64];omega
      have hI3:=HI3.out;have f5:(F:Int)≤(cap6:Int):=by omega
      have f6:(E:Int)≤(F:Int):=by omega
      have f7:(0:Int)≤(E:Int):=by omega
      have f8: ¬cap6=E:=by omega
      have hEF:F-E=4:=by omega
      have hFI:F≤I2:=by omega
      have HE:=hid hE;have HF:=hid hF;clear hE hF hI3;go_upto_region 26 with fail;refine an [0,0,0,0,5,0,0,0,0,0,0,0,2,2,3,0,0,3] (by kernel_rfl) (by kernel_rfl) (fun C hC0 hCb K' hK' => ?_);have R1: ∀w1,C w1→w1.cell? ⟨w5.heap.size,1,none⟩=some v:=fun w1 h=>(K1.out.drew.belowAll (hCb w1 h)).cell 1
      repeat (first|((with_reducible refine hq0 ?_);refine hq0a ?_)|((with_reducible refine hq5 ?_);refine hq5a ?_ (fun _ hcw=>by have f:=R1 _ hcw;go_simp;(try go_bits);exact rfl))|((with_reducible refine hq1 ?_);refine hq1a ?_))
      have bw:Below w5.heap.size w5 wr.drew:=B1.out.drew;have rm:=(RW.out.below bw).mid (j:=E) (k:=F) (c':=cap6-E) (by omega) hFI (by omega) (by omega);rw[hEF,Nat.zero_add]at rm;obtain⟨X',hX'⟩: ∃X',X' =(Lf.take (F*4)).drop (E*4):=⟨_,rfl⟩;rw[←hX']at rm;have hXl':X'.length=16:=rm.1;refine hqc ?_;go_simp;refine ae ?_;refine(qT X' g6 (E*4) (cap6-E) wr.drew rm).mono ?_;rintro e w7 ⟨rfl,b7⟩;refine⟨_,rfl,b7,?_⟩
      try simp only[Act.put,zz1,zz2,zz3]
      refine vQ hXl' (by omega) (by omega) rfl underlying202 jJ (fun w8 g8 r8 b8=> ?_);simp only[Act.put,zz1,zz2,zz3];refine bJ [2,0,0,2] rfl (by simp) ?_;have b78:=b7.trans (b8.mono b7.size);have hlw:=K1.out.lt;refine js (O1.out.drew.below b78) r8 rfl rfl (by omega) (by omega) underlying202 jJ (by omega) (by have:=b78.size;simp at this;omega) (fun w9 v9 o9 g9 b9=> ?_);simp only[Act.put,zz1,zz2,zz3];have hle:Lf.take (16*j)++X' =Lf.take (16*(j+1)):=by
       have h1:=HE.out;have h2:=HF.out;rw[hX',show F*4=16*(j+1) by omega,show E*4=16*j by omega,show 16*(j+1)=16*j+16 by omega,List.take_add,List.drop_left' (by rw[List.length_take,HLF.out];omega)]
      rw[hle]at o9;obtain⟨g10,c10,rfl,hg10,_,_,_⟩:=o9.form (by omega);have K9:=(K1.out.drew.belowAll b78).grown g9 ((O1.out.drew.below b78).apart (by omega))
      repeat (first|((with_reducible refine zq0 ?_);refine zq0a ?_)|((with_reducible refine zq1 ?_);refine zq1a ?_))
      refine iG K9 rfl rfl (show _=some v from rfl) (sizeOf202 _) (fun w11 k11 g11 s11=> ?_);refine ak (hK' _ _ ?_);have K11:=hid k11;have O11:=hid (o9.keptG g11 (by omega));have d9:=bw.trans (b78.mono bw.size);have e9:=d9.trans (b9.mono (by omega));have B11:=hid (e9.trans (ac g11 (Nat.le_refl _) e9.size));clear k11 g11 s11 o9 g9 b9 K9 d9 e9 b78 b7 b8 r8 rm bw hK' R1 hC0 hCb;go_wp2;exact⟨⟨j+1,_,by omega,by go_num,K11.out,O11.out,B11.out⟩,by simp[intOf];omega⟩
     ·obtain rfl:j=N7:=by omega
      have hO:=O1.out;rw[List.take_of_length_le (by rw[HLF.out];omega)]at hO;obtain⟨g10,c10,rfl,hg10,_,_,_⟩:=hO.form (by have:=HN7.out;omega);have RF:=hid hO.rdAt;have hK:=K1.out;have hb5:=B5.out.size;have hBB:=B5.out.trans (B1.out.mono hb5);have FIN:KeyAt wr w5.heap.size p (n+7) Lf:=by
       rw[←HN7.out];exact⟨T0.out.below hBB,g10,c10,hK,RF.out⟩
      have HF:=hid FIN;have HBB:=hid hBB;clear hO hK FIN hBB;go_wp2;simp only[Exit.jump];go_ret2;refine⟨w5.heap.size,rfl,?_,hb5,HBB.out⟩;rw[←HLS.out];exact HF.out
end Go.Proofs.YtlpkfdkhlffmlaaGreatDoor
