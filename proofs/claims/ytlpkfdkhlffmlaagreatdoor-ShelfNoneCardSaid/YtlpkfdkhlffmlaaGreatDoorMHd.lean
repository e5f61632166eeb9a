/-adhash:Keys,New-/
import Derived.Test.YtlpkfdkhlffmlaaGreatDoorMHn
import Derived.Test.YtlpkfdkhlffmlaaGreatDoorMHs
import Derived.Test.YtlpkfdkhlffmlaaGreatDoorMGb
import Derived.Test.YtlpkfdkhlffmlaaGreatDoorMGw
import Derived.Laws.Externs
import Derived.Test.YtlpkfdkhlffmlaaGreatDoorMWd3
import Derived.Test.YtlpkfdkhlffmlaaGreatDoorMGm
namespace Go.Proofs.YtlpkfdkhlffmlaaGreatDoor
open Go.Proofs.Tryz
open Lib (hid)
set_option linter.unusedSimpArgs false
set_option linter.unusedVariables false
set_option maxRecDepth 100000
set_option maxHeartbeats 1600000
open Go.RowKit
def AKc(l m:Y8)(s:Value):Array Value:=(l.map v8++m.map v8++ [s]).toArray
def iP(e:TypeId)(a b c:Value):Sem Value:=Instr.build e #[(0,a),(1,b),(2,c)]
@[go_sem ↓ high] theorem wo {P:Program} {ρ:Operand→Value} {w:World} {dst:Option Tmp} {ty:TypeId} {pos:String} {after:Array Edge} {guard:Option (Nat×Bool)}(e:TypeId)(a b c:Operand):(execOp ρ ⟨dst,.build e #[(0,a),(1,b),(2,c)],ty,pos,after,guard⟩).run P w=((iP e (ρ a) (ρ b) (ρ c)).run P w).andThen fun v w' => .ok (.value v) w':=by
 simp[execOp,iP]
theorem ot(a0 a1 a2 a3 a4 a5 a6 a7 a8 a9 a10 a11 a12 a13 a14 a15 b0 b1 b2 b3 b4 b5 b6 b7 b8 b9 b10 b11 b12 b13 b14 b15:BitVec 8)(a:Option Addr)(n c:Nat)(w:World):(iP 210 (.agg (A8 [a0,a1,a2,a3,a4,a5,a6,a7,a8,a9,a10,a11,a12,a13,a14,a15])) (.agg (A8 [b0,b1,b2,b3,b4,b5,b6,b7,b8,b9,b10,b11,b12,b13,b14,b15])) (.slice a n c)).run prog w= .ok (.agg (AKc [a0,a1,a2,a3,a4,a5,a6,a7,a8,a9,a10,a11,a12,a13,a14,a15] [b0,b1,b2,b3,b4,b5,b6,b7,b8,b9,b10,b11,b12,b13,b14,b15] (.slice a n c))) w:=by kernel_rfl
theorem rF(l m:Y8)(hl:l.length=16)(hm:m.length=16)(a:Option Addr)(n c:Nat)(w:World):(iP 210 (.agg (A8 l)) (.agg (A8 m)) (.slice a n c)).run prog w= .ok (.agg (AKc l m (.slice a n c))) w:=by
 match l,hl,m,hm with
 | [a0,a1,a2,a3,a4,a5,a6,a7,a8,a9,a10,a11,a12,a13,a14,a15],_,[b0,b1,b2,b3,b4,b5,b6,b7,b8,b9,b10,b11,b12,b13,b14,b15],_=>exact ot a0 a1 a2 a3 a4 a5 a6 a7 a8 a9 a10 a11 a12 a13 a14 a15 b0 b1 b2 b3 b4 b5 b6 b7 b8 b9 b10 b11 b12 b13 b14 b15 a n c w
theorem pE {l m:Y8}(hl:l.length=16)(hm:m.length=16)(s:Value):(AKc l m s).size=33:=by
 unfold AKc;simp[hl,hm]
def AdK(w:World)(g:Nat)(key:Y8):Prop:=
 ∃h,Blk w g 210 (AKc (blk key) (blk (key.drop 16)) (.slice (some ⟨h,0,none⟩) 268 268))∧Blk w h 69 (A32 (dA (key.drop 32) 268))
theorem AdK.below {w w':World} {g:Nat} {key:Y8}(h:AdK w g key)(hb:Below w.heap.size w w'):AdK w' g key:=by
 obtain⟨k,h1,h2⟩:=h;exact⟨k,h1.belowAll hb,h2.belowAll hb⟩
theorem uk(key:Y8)(a:Option Addr)(c:Nat)(w:World)(hr:Rd8 w a 1104 c key):
  Calls prog 68 #[.slice a 1104 c] w fun e w' => ∃g,e= .returned (.tuple #[.pointer (some ⟨g,0,none⟩),.int .i64 0])∧AdK w' g key∧w.heap.size≤g∧Below w.heap.size w w':=by
 obtain⟨b,o,rfl,_,_⟩:=hr.2.2.2 (by omega);have hcp:=hr.2.1;have r32:=hr.cut (j:=32) (k:=1104) (by omega) (Nat.le_refl _);rw[List.take_of_length_le (by rw[hr.1];omega),if_neg (by omega)]at r32;have r16:=hr.cut (j:=16) (k:=1104) (by omega) (Nat.le_refl _);rw[List.take_of_length_le (by rw[hr.1];omega),if_neg (by omega)]at r16;simp only[Option.map_some,Addr.add_lit]at r32 r16;obtain⟨L,hL⟩: ∃L,L=blk key:=⟨_,rfl⟩;obtain⟨M,hM⟩: ∃M,M=blk (key.drop 16):=⟨_,rfl⟩;have hLl:L.length=16:=by rw[hL];exact cW _
 have hMl:M.length=16:=by rw[hM];exact cW _
 have HL:=hid hL;have HM:=hid hM;have HR:=hid hr;have R32:=hid r32;have R16:=hid r16;have c1:(1104:Int)≤(c:Int):=by omega
 have n1: ¬c=32:=by omega
 have n2: ¬c=16:=by omega
 clear hL hM hr r32 r16;go_enter func68,ntmps68;go_wp2_with fail;refine(uu (key.drop 32) (some ⟨b,o+32,none⟩) (c-32) w R32.out).mono ?_;rintro e w1 ⟨rfl,k1,d1⟩;have bk:=rF L M hLl hMl (some ⟨w.heap.size,0,none⟩) 268 268;have K1:=hid k1;have D1:=hid d1;clear k1 d1;go_upto_region 6 with fail;refine an [0,2,0,0,2,0,0,3,0,0] (by kernel_rfl) (by kernel_rfl) (fun C0 hC0 hCb K' hK' => ?_)
 repeat (first|((with_reducible refine hq0 ?_);refine hq0a ?_)|((with_reducible refine hq5 ?_);refine hq5a ?_)|((with_reducible refine hq1 ?_);refine hq1a ?_))
 refine hqc ?_;go_simp;refine ae ?_;refine(jo key (some ⟨b,o,none⟩) 1104 c w1.drew (HR.out.below D1.out).drew).mono ?_;rintro e w3 ⟨rfl,d3⟩;refine⟨_,rfl,d3,?_⟩
 try simp only[Act.put,zz1,zz2,zz3]
 rw[show blk key=L from HL.out.symm]
 repeat (first|((with_reducible refine hq0 ?_);refine hq0a ?_)|((with_reducible refine hq5 ?_);refine hq5a ?_)|((with_reducible refine hq1 ?_);refine hq1a ?_))
 refine hqc ?_;go_simp;refine ae ?_;refine(jo (key.drop 16) (some ⟨b,o+16,none⟩) 1088 (c-16) w3 ((R16.out.below D1.out).drew.below d3)).mono ?_;rintro e w4 ⟨rfl,d4⟩;refine⟨_,rfl,d4,?_⟩
 try simp only[Act.put,zz1,zz2,zz3]
 rw[show blk (key.drop 16)=M from HM.out.symm]
 repeat (first|((with_reducible refine hq0 ?_);refine hq0a ?_)|((with_reducible refine hq5 ?_);refine hq5a ?_)|((with_reducible refine hq1 ?_);refine hq1a ?_))
 refine bJ [2,0,0] rfl (by simp) ?_;refine kR (w1:=w4.alloc (.cells (AKc L M (.slice (some ⟨w.heap.size,0,none⟩) 268 268)) 210)) rfl (by go_simp;exact rfl) ?_;have d34:=d3.trans (d4.mono d3.size);have N5:=Blk.new w4 210 (AKc L M (.slice (some ⟨w.heap.size,0,none⟩) 268 268));have K5:=(K1.out.drew.belowAll d34).alloc (.cells (AKc L M (.slice (some ⟨w.heap.size,0,none⟩) 268 268)) 210);have D4:=D1.out.drew.trans (d34.mono D1.out.drew.size);have D5:=hid (D4.alloc D4.size (.cells (AKc L M (.slice (some ⟨w.heap.size,0,none⟩) 268 268)) 210));have hsz:=D4.size;rw[HL.out,HM.out]at N5;have FIN:=hid (show AdK _ w4.heap.size key from⟨w.heap.size,N5,by rw[←HL.out,←HM.out];exact K5⟩);clear N5 K5 D4 d34 d3 d4;simp only[Act.put,zz1,zz2,zz3]
 repeat (first|((with_reducible refine zq0 ?_);refine zq0a ?_)|((with_reducible refine zq1 ?_);refine zq1a ?_))
 refine ak (hK' _ _ ?_);rw[←HL.out,←HM.out]at FIN;clear hK' hCb hC0 bk;go_wp2;go_ret2;exact⟨_,rfl,FIN.out,hsz,D5.out⟩
open Go.RowKit
def carU(x y:BitVec 64):BitVec 64:=BitVec.ofNat 64 ((x.toNat+y.toNat)/18446744073709551616)
def borU(x y:BitVec 64):BitVec 64:=BitVec.ofNat 64 (if x.toNat<y.toNat then 1 else 0)
def ev(x y:W2):W2:=(x.1+y.1,x.2+y.2+carU x.1 y.1)
def fU(x y:W2):W2:=(x.1-y.1,x.2-y.2-borU x.1 y.1)
theorem xH(x y:BitVec 64):(carU x y).toNat≤1:=by
 unfold carU;have h1:=x.isLt;have h2:=y.isLt;rw[BitVec.toNat_ofNat];omega
theorem xI(x y:BitVec 64):(borU x y).toNat≤1:=by
 unfold borU
 split<;>decide
def lH(x y c:Nat):Nat:=(x+y+c) %18446744073709551616
def ig(x y c:Nat):Nat:=(x+y+c)/18446744073709551616
def lI(x y c:Nat):Nat:=(x+18446744073709551616-y-c) %18446744073709551616
def ii(x y c:Nat):Nat:=if x<y+c then 1 else 0
theorem fV(x:BitVec 64):v64 x= .int .u64 (x.toNat:Int):=rfl
theorem rG(x y:Nat)(w:World):(callFunc 162 #[.int .u64 (x:Int),.int .u64 (y:Int),.int .u64 ((0:Nat):Int)]).run prog w= .ok (.value (.tuple #[.int .u64 ((lH x y 0:Nat):Int),.int .u64 ((ig x y 0:Nat):Int)])) w:=by kernel_rfl
theorem ul(x y:Nat)(w:World):(callFunc 162 #[.int .u64 (x:Int),.int .u64 (y:Int),.int .u64 ((1:Nat):Int)]).run prog w= .ok (.value (.tuple #[.int .u64 ((lH x y 1:Nat):Int),.int .u64 ((ig x y 1:Nat):Int)])) w:=by kernel_rfl
theorem um(x y c:Nat)(hc:c≤1)(w:World):(callFunc 162 #[.int .u64 (x:Int),.int .u64 (y:Int),.int .u64 (c:Int)]).run prog w= .ok (.value (.tuple #[.int .u64 ((lH x y c:Nat):Int),.int .u64 ((ig x y c:Nat):Int)])) w:=by
 have:c=0∨c=1:=by omega
 rcases this with rfl|rfl
 ·exact rG x y w
 ·exact ul x y w
theorem rH(x y:Nat)(w:World):(callFunc 236 #[.int .u64 (x:Int),.int .u64 (y:Int),.int .u64 ((0:Nat):Int)]).run prog w= .ok (.value (.tuple #[.int .u64 ((lI x y 0:Nat):Int),.int .u64 ((ii x y 0:Nat):Int)])) w:=by kernel_rfl
theorem un(x y:Nat)(w:World):(callFunc 236 #[.int .u64 (x:Int),.int .u64 (y:Int),.int .u64 ((1:Nat):Int)]).run prog w= .ok (.value (.tuple #[.int .u64 ((lI x y 1:Nat):Int),.int .u64 ((ii x y 1:Nat):Int)])) w:=by kernel_rfl
theorem uo(x y c:Nat)(hc:c≤1)(w:World):(callFunc 236 #[.int .u64 (x:Int),.int .u64 (y:Int),.int .u64 (c:Int)]).run prog w= .ok (.value (.tuple #[.int .u64 ((lI x y c:Nat):Int),.int .u64 ((ii x y c:Nat):Int)])) w:=by
 have:c=0∨c=1:=by omega
 rcases this with rfl|rfl
 ·exact rH x y w
 ·exact un x y w
theorem lJ(x y c:BitVec 64)(hc:c.toNat≤1)(w:World):(callFunc 162 #[v64 x,v64 y,v64 c]).run prog w= .ok (.value (.tuple #[v64 (x+y+c),.int .u64 ((ig x.toNat y.toNat c.toNat:Nat):Int)])) w:=by
 have e:lH x.toNat y.toNat c.toNat=(x+y+c).toNat:=by
  rw[lH,BitVec.toNat_add,BitVec.toNat_add,Nat.mod_add_mod]
 rw[fV,fV,fV,um _ _ _ hc,e];rfl
theorem lK(x y c:BitVec 64)(hc:c.toNat≤1)(w:World):(callFunc 236 #[v64 x,v64 y,v64 c]).run prog w= .ok (.value (.tuple #[v64 (x-y-c),.int .u64 ((ii x.toNat y.toNat c.toNat:Nat):Int)])) w:=by
 have h1:=x.isLt;have h2:=y.isLt;have e:lI x.toNat y.toNat c.toNat=(x-y-c).toNat:=by
  rw[lI,BitVec.toNat_sub,BitVec.toNat_sub];omega
 rw[fV,fV,fV,uo _ _ _ hc,e];rfl
theorem pF(x y:BitVec 64):((ig x.toNat y.toNat (0#64).toNat:Nat):Int)=((carU x y).toNat:Int):=by
 have h1:=x.isLt;have h2:=y.isLt;have e:ig x.toNat y.toNat (0#64).toNat=(carU x y).toNat:=by
  rw[carU,BitVec.toNat_ofNat,BitVec.toNat_ofNat,ig,Nat.zero_mod,Nat.add_zero];omega
 rw[e]
theorem pG(x y:BitVec 64):((ii x.toNat y.toNat (0#64).toNat:Nat):Int)=((borU x y).toNat:Int):=by
 have e:ii x.toNat y.toNat (0#64).toNat=(borU x y).toNat:=by
  rw[borU,BitVec.toNat_ofNat,BitVec.toNat_ofNat,ii,Nat.zero_mod,Nat.add_zero]
  split<;>rfl
 rw[e]
theorem ij(x y:W2)(w:World):Calls prog 153 #[.agg (A64 (wl x)),.agg (A64 (wl y))] w fun e w' =>e= .returned (.agg (A64 (wl (ev x y))))∧Below w.heap.size w w':=by
 obtain⟨W,hW⟩: ∃W,((w.alloc (.cells (A64 (wl x)) 242)).alloc (.cells (A64 (wl y)) 242)).alloc (.cells (A64 (aa 64 2)) 242)=W:=⟨_,rfl⟩;obtain⟨b0,b1,b2,hb,hz⟩:=new3 _ _ _ _ _ _ _ _ hW;have X0:W.cell? ⟨w.heap.size,0,none⟩=some (v64 x.1):=by rw[b0.cell];rfl
 have X1:W.cell? ⟨w.heap.size,1,none⟩=some (v64 x.2):=by rw[b0.cell];rfl
 have Y0:W.cell? ⟨w.heap.size+1,0,none⟩=some (v64 y.1):=by rw[b1.cell];rfl
 have Y1:W.cell? ⟨w.heap.size+1,1,none⟩=some (v64 y.2):=by rw[b1.cell];rfl
 have rz:=b2.row;have wz:=b2.whole;have a1:=fun w=>lJ x.1 y.1 0#64 (by decide) w;simp only[pF,BitVec.add_zero]at a1;have a2:=fun w=>lJ x.2 y.2 (carU x.1 y.1) (xH _ _) w;obtain⟨k,hk⟩: ∃k,k=carU x.1 y.1:=⟨_,rfl⟩;rw[←fV,←hk]at a1;rw[←hk]at a2;simp only[show v64 0#64=Value.int .u64 0 from rfl]at a1;have HK:=hid hk;have HB:=hid hb;clear hk hb;go_enter func153,ntmps153;go_wp2;refine ag (A64 (wl (ev x y))) rfl rfl rfl (isAgg242 _) (sizeOf242 _) rfl (by rw[ah _ wz,ev,←HK.out];rfl) ⟨rfl,below_setRow HB.out (by omega) _⟩
theorem lL(x y:W2)(w:World):Calls prog 229 #[.agg (A64 (wl x)),.agg (A64 (wl y))] w fun e w' =>e= .returned (.agg (A64 (wl (fU x y))))∧Below w.heap.size w w':=by
 obtain⟨W,hW⟩: ∃W,((w.alloc (.cells (A64 (wl x)) 242)).alloc (.cells (A64 (wl y)) 242)).alloc (.cells (A64 (aa 64 2)) 242)=W:=⟨_,rfl⟩;obtain⟨b0,b1,b2,hb,hz⟩:=new3 _ _ _ _ _ _ _ _ hW;have X0:W.cell? ⟨w.heap.size,0,none⟩=some (v64 x.1):=by rw[b0.cell];rfl
 have X1:W.cell? ⟨w.heap.size,1,none⟩=some (v64 x.2):=by rw[b0.cell];rfl
 have Y0:W.cell? ⟨w.heap.size+1,0,none⟩=some (v64 y.1):=by rw[b1.cell];rfl
 have Y1:W.cell? ⟨w.heap.size+1,1,none⟩=some (v64 y.2):=by rw[b1.cell];rfl
 have rz:=b2.row;have wz:=b2.whole;have a1:=fun w=>lK x.1 y.1 0#64 (by decide) w;simp only[pG,BitVec.sub_zero]at a1;have a2:=fun w=>lK x.2 y.2 (borU x.1 y.1) (xI _ _) w;obtain⟨k,hk⟩: ∃k,k=borU x.1 y.1:=⟨_,rfl⟩;rw[←fV,←hk]at a1;rw[←hk]at a2;simp only[show v64 0#64=Value.int .u64 0 from rfl]at a1;have HK:=hid hk;have HB:=hid hb;clear hk hb;go_enter func229,ntmps229;go_wp2;refine ag (A64 (wl (fU x y))) rfl rfl rfl (isAgg242 _) (sizeOf242 _) rfl (by rw[ah _ wz,fU,←HK.out];rfl) ⟨rfl,below_setRow HB.out (by omega) _⟩
open Go.RowKit
def bS(l:Y8):W2:=(long l 0,long l 8)
theorem xJ {l m:Y8}(hl:l.length=16)(s:Value):(AKc l m s).extract 0 16=A8 l:=by
 apply Array.ext';simp[AKc,A8,List.extract_eq_take_drop,hl]
theorem xK {l m:Y8}(hl:l.length=16)(hm:m.length=16)(s:Value):(AKc l m s).extract 16 32=A8 m:=by
 apply Array.ext';simp[AKc,A8,List.extract_eq_take_drop,hl,hm]
theorem uq {l m:Y8}(hl:l.length=16)(hm:m.length=16)(s:Value):(AKc l m s)[32]? =some s:=by
 simp[AKc,hl,hm]
theorem jY(g:Nat)(ky:List (BitVec 32))(D:Y8)(w:World)(hP:PolAt w g ky D):
  Calls prog 239 #[.pointer (some ⟨g,0,none⟩)] w fun e w' =>e= .returned (.agg (A64 (wl (bS (gT ky D)))))∧Below w.heap.size w w':=by
 obtain⟨W,hW⟩: ∃W,(w.alloc (.cells (A64 (aa 64 2)) 242))=W:=⟨_,rfl⟩;obtain⟨b0,hb,hz⟩:=new1 _ _ _ _ hW;have HP:=hid (hP.below hb);have Z0:=hid b0;have B0:=hid hb;have hl0:=b0.lt;have hx2:=jc ky D;obtain⟨t,ht⟩: ∃t,t=gT ky D:=⟨_,rfl⟩;rw[←ht]at hx2⊢;have HT:=hid ht;clear b0 hb hP ht;go_enter func239,ntmps239;go_wp2_with fail;refine(wL g ky D W HP.out).mono ?_;rintro e w1 ⟨rfl,d1⟩;rw[show gT ky D=t from HT.out.symm];have N1:=hid (Blk.new w1 154 (A8 t));have Z1:=hid ((Z0.out.belowAll d1).alloc (.cells (A8 t) 154));have B1:=B0.out.trans (d1.mono B0.out.size);have B2:=hid (B1.alloc B1.size (.cells (A8 t) 154));clear d1 B1 hW;go_wp2_with fail;generalize w1.alloc (.cells (A8 t) 154)=V at*;generalize w1.heap.size=q at*;have R1:=N1.out.rd8 16 (by omega) (by simp[hx2,maxLen]);rw[List.take_of_length_le (by omega),hx2]at R1;refine(fS t (some ⟨q,0,none⟩) 16 16 V R1).mono ?_;rintro e w2 ⟨rfl,d2⟩;have z2:=Z1.out.belowAll d2;have wz:=z2.whole;have rz:=z2.row;have b2:=B2.out.trans (d2.mono B2.out.size);have hx:(long t 0,long t 8)=bS t:=rfl;rw[hx];obtain⟨r,hr⟩: ∃r,r=bS t:=⟨_,rfl⟩;rw[←hr];have HR:=hid hr;clear hx hr d2 z2 R1;go_wp2;refine ag (A64 (wl r)) rfl rfl rfl (isAgg242 _) (sizeOf242 _) rfl (ah _ wz) ⟨by rw[HR.out],below_setRow b2 (by omega) _⟩
def na(n:Nat):W2:=((BitVec.ofNat 64 n)<<<3,(BitVec.ofNat 64 n)>>>61)
def wt(n:Nat):Y8:=le64 (na n).1++le64 (na n).2
@[simp] theorem xL(n:Nat):(wt n).length=16:=rfl
def nb(key tw:Y8)(n:Nat):W2:=bS (gT (keyP (blk key)) (wt n++tw))
theorem pH(k:Nat)(key tw:Y8)(a:Option Addr)(m c n:Nat)(w:World)(hK:AdK w k key)(hr:Rd8 w a m c tw):
  Calls prog 231 #[.pointer (some ⟨k,0,none⟩),.slice a m c,.int .i64 n] w fun e w' =>e= .returned (.agg (A64 (wl (nb key tw n))))∧Below w.heap.size w w':=by
 obtain⟨W,hW⟩: ∃W,(w.alloc (.cells (A64 (aa 64 2)) 242))=W:=⟨_,rfl⟩;obtain⟨b0,hb,hz⟩:=new1 _ _ _ _ hW;obtain⟨h,hk1,hk2⟩:=hK.below hb;obtain⟨L,hL⟩: ∃L,L=blk key:=⟨_,rfl⟩;obtain⟨M,hM⟩: ∃M,M=blk (key.drop 16):=⟨_,rfl⟩;have hLl:L.length=16:=by rw[hL];exact cW _
 have hMl:M.length=16:=by rw[hM];exact cW _
 rw[←hL,←hM]at hk1;have e1:=xJ (m:=M) hLl (.slice (some ⟨h,0,none⟩) 268 268);have esz:=pE hLl hMl (.slice (some ⟨h,0,none⟩) 268 268);obtain⟨N,hN⟩: ∃N,N=na n:=⟨_,rfl⟩;obtain⟨R,hR⟩: ∃R,R=nb key tw n:=⟨_,rfl⟩;rw[←hR];have x0:(0:Int)≤(n:Int):=by omega
 have x1:max (n:Int) 0=(n:Int):=by omega
 have x2: ¬(n:Int)<0:=by omega
 have HL:=hid hL;have HM:=hid hM;have HN:=hid hN;have HR:=hid hR;have K0:=hid hk1;have Z0:=hid b0;have B0:=hid hb;have T0:=hid hr;have hl0:=b0.lt;clear hL hM hN hR hk1 hk2 b0 hb hr hK;go_enter func231,ntmps231;go_wp2_with fail;refine(df (na n) W).mono ?_;rintro e w1 ⟨rfl,d1⟩;obtain⟨hb16,hhb⟩: ∃x,x=wt n:=⟨_,rfl⟩;have hbl:hb16.length=16:=by rw[hhb];rfl
 rw[show le64 (na n).1++le64 (na n).2=hb16 from hhb.symm];have HHB:=hid hhb;have N1:=hid (Blk.new w1 154 (A8 hb16));have K1:=hid ((K0.out.belowAll d1).alloc (.cells (A8 hb16) 154));have Z1:=hid ((Z0.out.belowAll d1).alloc (.cells (A8 hb16) 154));have B1':=B0.out.trans (d1.mono B0.out.size);have B1:=hid (B1'.alloc B1'.size (.cells (A8 hb16) 154));have q0:w.heap.size<w1.heap.size:=Nat.lt_of_lt_of_le hl0 d1.size;clear d1 hhb B1' hW x0 x1 x2;go_upto_region 5 with fail;generalize w1.alloc (.cells (A8 hb16) 154)=V at*;generalize w1.heap.size=q at*;have rk:=K1.out.row;go_wp2_with fail;refine(kh L V hLl).mono ?_;rintro e w2 ⟨g,rfl,P2,hg,d2⟩;have PP2:=hid P2;have N2:=hid (N1.out.belowAll d2);have Z2:=hid (Z1.out.belowAll d2);have B2:=hid (B1.out.trans (d2.mono B1.out.size));have hqV:q<V.heap.size:=N1.out.lt;clear P2 d2 rk e1;go_wp2_with fail;have R2:=N2.out.rd8 16 (by omega) (by simp[hbl,maxLen]);rw[List.take_of_length_le (by omega),hbl]at R2;refine(ik g (keyP L) [] hb16 (some ⟨q,0,none⟩) 16 16 w2 PP2.out R2 (fun _ ad h=>by cases h;show q≠g;omega)).mono ?_;rintro e w3 ⟨rfl,P3,g3⟩;have PP3:=hid P3;have hgw:w.heap.size≤g:=by omega
 have Z3:=hid (Z2.out.grown g3 (by simp;omega));have B3:=hid (B2.out.grown g3 B2.out.size (fun k hk=>by cases hk;exact hgw));clear P3 g3 R2;go_wp2_with fail;have R3:=T0.out.below B3.out;refine(ik g (keyP L) _ tw a m c w3 PP3.out R3 (fun h0 ad h=>by
  obtain⟨b,o,e,hlt,_⟩:=T0.out.2.2.2 h0;rw[e]at h;cases h;show b≠g;omega)).mono ?_
 rintro e w4 ⟨rfl,P4,g4⟩;have PP4:=hid P4;have Z4:=hid (Z3.out.grown g4 (by simp;omega));have B4:=hid (B3.out.grown g4 B3.out.size (fun k hk=>by cases hk;exact hgw));clear P4 g4 R3;go_wp2_with fail;refine(jY g (keyP L) _ w4 PP4.out).mono ?_;rintro e w5 ⟨rfl,d5⟩;rw[show bS (gT (keyP L) ([]++hb16++tw))=R by rw[HR.out,nb,←HL.out,←HHB.out];rfl];have Z5:=Z4.out.belowAll d5;have wz:=Z5.whole;have rz:=Z5.row;have B5:=B4.out.trans (d5.mono B4.out.size);clear d5 Z5;go_wp2;refine ag (A64 (wl R)) rfl rfl rfl (isAgg242 _) (sizeOf242 _) rfl (ah _ wz) ⟨rfl,below_setRow B5 (by omega) _⟩
open Go.RowKit
theorem rI(k h g p q:Nat)(tp tq th:TypeId)(L M:Y8)(ws ky:List (BitVec 32))(D b:Y8)(a:Option Addr)(n c:Nat)(w:World)(hLl:L.length=16)(hMl:M.length=16)
  (hk:Blk w k 210 (AKc L M (.slice (some ⟨h,0,none⟩) 268 268))) (hh:Blk w h th (A32 ws)) (hwl:ws.length=268) (hp:Blk w p tp #[.pointer (some ⟨k,0,none⟩)]) (hq:Blk w q tq #[.pointer (some ⟨g,0,none⟩)])
  (hP:PolAt w g ky D) (hr:Rd8 w a n c b) (h16:n %16=0) (hmax:n≤1024):
  Calls prog 241 #[.slice a n c,.pointer (some ⟨p,0,none⟩),.pointer (some ⟨q,0,none⟩)] w fun e w' =>e= .returned (.tuple #[])∧PolAt w' g ky (D++iV ws b)∧w.grownBy w' (some g):=by
 have x1:w.cell? ⟨p,0,none⟩=some (.pointer (some ⟨k,0,none⟩)):=hp.cell 0;have x3:w.cell? ⟨k,32,none⟩=some (.slice (some ⟨h,0,none⟩) 268 268):=by rw[hk.cell];exact uq hLl hMl _
 obtain⟨H,hH⟩: ∃H,H=iV ws b:=⟨_,rfl⟩;have hHl:H.length=32:=by rw[hH];exact oy _ _
 rw[←hH];have HH:=hid hH;have HHH:=hid hh;have HR:=hid hr;have HP:=hid hP;have HQ:=hid hq;have hgl:=hP.lt;clear hH hh hr hP hk hp hq;go_enter func241,ntmps241;go_wp2_with fail;refine(wC ws b h th a n c w HHH.out hwl HR.out h16 hmax).mono ?_;rintro e w1 ⟨rfl,d1⟩;rw[show iV ws b=H from HH.out.symm];have N1:=hid (Blk.new w1 143 (A8 H));have Q1:=hid ((HQ.out.belowAll d1).alloc (.cells (A8 H) 143));have P1:=hid ((HP.out.below d1).below ((Below.refl w1.heap.size w1).alloc (Nat.le_refl _) (.cells (A8 H) 143)));have B1:=hid ((d1.alloc d1.size (.cells (A8 H) 143)));have hq1:g<w1.heap.size:=Nat.lt_of_lt_of_le hgl d1.size;clear d1 x1 x3;go_upto_region 1 with fail;generalize w1.alloc (.cells (A8 H) 143)=V at*;generalize w1.heap.size=s at*;refine az [1,0,2] (by kernel_rfl) (by kernel_rfl) (fun ops' K' hK' => ?_);have c1:V.drew.cell? ⟨q,0,none⟩=some (.pointer (some ⟨g,0,none⟩)):=Q1.out.drew.cell 0
 repeat (first|((with_reducible refine zq0 ?_);refine zq0a ?_)|((with_reducible refine zq1 ?_);refine zq1a ?_))
 have R1:=N1.out.rd8 32 (by omega) (by simp[hHl,maxLen]);rw[List.take_of_length_le (by omega),hHl]at R1
 (with_reducible refine aM rfl ?_)
 go_simp;refine ae ?_;refine(ik g ky D H (some ⟨s,0,none⟩) 32 32 V.drew (show PolAt V.drew g ky D from P1.out) R1.drew (fun _ ad h=>by cases h;show s≠g;omega)).mono ?_;rintro e w2 ⟨rfl,P2,g2⟩;refine⟨_,rfl,?_⟩
 try simp only[Act.put,zz1,zz2,zz3]
 refine ak (hK' _ _ ?_);have G2:=av (aW (B1.out.mono (Nat.le_refl _)) (some g)) (av (aW ((Below.refl V.heap.size V).drew) (some g)) g2);refine bodyPost_end (results_none rfl _ _ _) rfl ?_;exact⟨rfl,P2,G2⟩
def hpTo(ws:List (BitVec 32))(B:Y8):Nat→Y8
 |0=>[]
 |j+1=>hpTo ws B j++iV ws ((B.drop (1024*j)).take 1024)
def hpN(ws:List (BitVec 32))(B:Y8):Y8:=hpTo ws B ((B.length+1023)/1024)
def PcJ(w:World)(g p q:Nat)(ky ws:List (BitVec 32))(D B:Y8)(a':Act)(w':World):Prop:=
 ∃(j n:Nat) (a:Option Addr) (c:Nat),(∃u:Nat→Value,a' ={tmps:=(fun u:Nat→Value=> #[Value.slice a n c,Value.func (Fn.func 241) #[] #[.pointer (some ⟨p,0,none⟩),.pointer (some ⟨q,0,none⟩)],u 2,u 3,u 4,u 5,u 6,u 7,u 8,u 9,u 10,u 11,u 12,u 13,u 14,u 15,u 16,u 17,u 18]) u,defers:=[]})∧
  n=B.length-1024*j∧1024*j<B.length+1024∧Rd8 w' a n c (B.drop (1024*j))∧(0<n→ ∀ad,a=some ad→ad.block≠g)∧PolAt w' g ky (D++hpTo ws B j)∧w.grownBy w' (some g)
theorem rJ(k h g p q:Nat)(tp tq th:TypeId)(L M:Y8)(ws ky:List (BitVec 32))(D B:Y8)(a:Option Addr)(n c:Nat)(w:World)(hLl:L.length=16)(hMl:M.length=16)
  (hk:Blk w k 210 (AKc L M (.slice (some ⟨h,0,none⟩) 268 268))) (hh:Blk w h th (A32 ws)) (hwl:ws.length=268) (hp:Blk w p tp #[.pointer (some ⟨k,0,none⟩)]) (hq:Blk w q tq #[.pointer (some ⟨g,0,none⟩)])
  (nk:k≠g) (nh:h≠g) (np:p≠g) (nq:q≠g) (hP:PolAt w g ky D) (hr:Rd8 w a n c B) (ha:0<n→ ∀ad,a=some ad→ad.block≠g) (h16:n %16=0):
  Calls prog 240 #[.slice a n c,.func (.func 241) #[] #[.pointer (some ⟨p,0,none⟩),.pointer (some ⟨q,0,none⟩)]] w fun e w' =>e= .returned (.tuple #[])∧PolAt w' g ky (D++hpN ws B)∧w.grownBy w' (some g):=by
 have hB:=hr.1;have HK:=hid hk;have HH:=hid hh;have HP:=hid hp;have HQ:=hid hq;have H16:=hid h16;have HBL:=hid hB;clear hk hh hp hq h16 hB;go_enter func240,ntmps240;go_wp2_with fail;refine aQ 0 (PcJ w g p q ky ws D B) (fun a' _=>gC (a'.tmps.getD 0 undef)) rfl (fun hrest=> ?_) ?_
 ·go_wp2_with fail;go_step3;refine ‹∀(a:Act) (w_1:World),Code.wp _ _ _ a w_1→_› _ _ (hrest _ _ ?_);exact⟨0,n,a,c,aI _ rfl,by rw[HBL.out];rfl,by omega,hr,ha,by rw[hpTo,List.append_nil];exact hP,dK _ _⟩
 ·rintro a' w' ⟨j,m,A,C,⟨u,rfl⟩,hm,hj,hr',hA,hP',hg⟩;clear hP hr ha;have HM:=hid hm;have HA:=hid hA;have R:=hid hr';have PP:=hid hP';have G:=hid hg;clear hm hA hr' hP' hg;by_cases hm0:m=0
  ·have hfin:hpN ws B=hpTo ws B j:=by
    have:=HM.out;rw[hpN,show(B.length+1023)/1024=j by omega]
   have e0:(m:Int)=0:=by omega
   subst hm0;have F:=hid PP.out;rw[←hfin]at F;clear PP hfin e0;go_wp2
   (try simp only[Exit.jump])
   (try simp only[Exit.inBlock,Exit.then])
   refine bodyPost_ret (results_none rfl _ _ _) rfl ?_;exact⟨rfl,F.out,G.out⟩
  ·obtain⟨N,hN⟩: ∃N,N=min m 1024:=⟨_,rfl⟩;have hml:0<m:=by omega
   have e1: ¬(m:Int)=0:=by omega
   have e2:min (m:Int) 1024=(N:Int):=by omega
   have e3:(N:Int)≤(m:Int):=by omega
   have e4:(0:Int)≤(N:Int):=by omega
   have hmC:=R.out.2.1;have e5:(m:Int)≤(C:Int):=by omega
   have e6:(N:Int)≤(C:Int):=by omega
   have hNm:N≤m:=by omega
   have hN16:N %16=0:=by have:=HM.out;have:=H16.out;have:=HBL.out;omega
   have hN1024:N≤1024:=by omega
   have hdl:=R.out.1;have hpre:((B.drop (1024*j)).take N)=((B.drop (1024*j)).take 1024):=by
    by_cases h:m≤1024
    ·rw[List.take_of_length_le (by omega),List.take_of_length_le (by omega)]
    ·rw[show N=1024 by omega]
   have hdr:B.drop (1024*j+N)=B.drop (1024*(j+1)):=by
    have:=HM.out;by_cases h:m≤1024
    ·rw[List.drop_eq_nil_of_le (by omega),List.drop_eq_nil_of_le (by omega)]
    ·rw[show 1024*j+N=1024*(j+1) by omega]
   have HPRE:=hid hpre;have HDR:=hid hdr;have HN:=hid hN;have r1:=R.out.pre (j:=N) hNm;have R1:=hid r1;clear hpre hdr hN r1;go_wp2_with fail;refine(rI k h g p q tp tq th L M ws ky _ _ A N C w' hLl hMl (HK.out.grown G.out (by simpa using nk)) (HH.out.grown G.out (by simpa using nh)) hwl (HP.out.grown G.out (by simpa using np)) (HQ.out.grown G.out (by simpa using nq)) PP.out R1.out hN16 hN1024).mono ?_;rintro e w2 ⟨rfl,P2,g2⟩;have r2:Rd8 w2 A m C (B.drop (1024*j)):=R.out.away0 g2 HA.out;have r2c:=r2.cut (j:=N) (k:=m) hNm (Nat.le_refl _);rw[List.take_of_length_le (by omega),List.drop_drop,HDR.out]at r2c;rw[List.append_assoc,HPRE.out]at P2;have P3:=hid (show PolAt w2 g ky (D++hpTo ws B (j+1)) from P2);have G3:=hid (av G.out g2);have R3:=hid r2c;have hA2:0<m-N→ ∀ad,(if C=N then A else A.map (·.add N))=some ad→ad.block≠g:=by
    intro _ ad h
    split at h
    ·exact HA.out hml ad h
    ·cases A with
     |none=>cases h
     |some x=>
      have e:(x.add N).block=x.block:=by unfold Addr.add;first|rfl|(split<;>rfl)
      cases h;show(x.add N).block≠g;rw[e];exact HA.out hml x rfl
   have HA2:=hid hA2;clear P2 g2 r2 r2c hA2;go_wp2_with fail
   all_goals
    go_step3;have rc:=R3.out;have ab:=HA2.out
    first
     |(rw[if_neg (by assumption)]at rc ab)
     |(rw[if_pos (by omega)]at rc ab;rw[show C-N=0 by omega]at rc)
    refine⟨rfl,⟨j+1,m-N,_,_,aI _ rfl,?_,?_,rc,ab,P3.out,G3.out⟩,?_⟩
    ·have:=HM.out;have:=HN.out;omega
    ·have:=HM.out;omega
    ·simp[gC];have:=HN.out;omega
open Go.RowKit
def padN(b:Y8):Y8:=b++aa 8 (jR b.length 16)
def nd(key b:Y8):W2:=bS (gT (keyP (blk (key.drop 16))) (hpN (dA (key.drop 32) 268) (padN b)))
theorem pI(b:Y8):(padN b).length %16=0:=by
 rw[padN,List.length_append,af,jR];omega
theorem ur(k:Nat)(key b:Y8)(a:Option Addr)(n c:Nat)(w:World)(hK:AdK w k key)(hr:Rd8 w a n c b)(hsz:n≤70368744177664):
  Calls prog 232 #[.pointer (some ⟨k,0,none⟩),.slice a n c] w fun e w' =>e= .returned (.agg (A64 (wl (nd key b))))∧Below w.heap.size w w':=by
 obtain⟨W,hW⟩: ∃W,(w.alloc (.cells #[.pointer (some ⟨k,0,none⟩)] 145)).alloc (.cells (A64 (aa 64 2)) 242)=W:=⟨_,rfl⟩;obtain⟨b0,b1,hb,hz⟩:=new2 _ _ _ _ _ _ hW;obtain⟨h,hk1,hk2⟩:=hK.below hb;have hwl:=fZ (key.drop 32) 268;obtain⟨L,hL⟩: ∃L,L=blk key:=⟨_,rfl⟩;obtain⟨M,hM⟩: ∃M,M=blk (key.drop 16):=⟨_,rfl⟩;obtain⟨ws,hws⟩: ∃z,z=dA (key.drop 32) 268:=⟨_,rfl⟩;have hLl:L.length=16:=by rw[hL];exact cW _
 have hMl:M.length=16:=by rw[hM];exact cW _
 rw[←hL,←hM]at hk1;rw[←hws]at hk2 hwl;have e1:=xK hLl hMl (.slice (some ⟨h,0,none⟩) 268 268);have esz:=pE hLl hMl (.slice (some ⟨h,0,none⟩) 268 268);obtain⟨R,hR⟩: ∃R,R=nd key b:=⟨_,rfl⟩;rw[←hR];have rk:=hk1.row;have rp:=b0.cell 0;have HL:=hid hL;have HM:=hid hM;have HWS:=hid hws;have HR:=hid hR;have K0:=hid hk1;have W0:=hid hk2;have P0:=hid b0;have Z0:=hid b1;have B0:=hid hb;have T0:=hid hr;have hl0:=b1.lt;clear hL hM hws hR hk1 hk2 b0 b1 hb hr hK;go_enter func232,ntmps232;go_wp2_with fail;refine(kh M W hMl).mono ?_;rintro e w1 ⟨g,rfl,p1,hg,d1⟩;have X:=fun(o:Obj)=>(Below.refl w1.heap.size w1).alloc (Nat.le_refl _) o;obtain⟨V,hV⟩: ∃V,V=w1.alloc (.cells #[.pointer (some ⟨g,0,none⟩)] 336):=⟨_,rfl⟩;have xV:Below w1.heap.size w1 V:=by rw[hV];exact X _
 have Q1:Blk V w1.heap.size 336 #[.pointer (some ⟨g,0,none⟩)]:=by rw[hV];exact Blk.new _ _ _
 have dV:Below W.heap.size W V:=d1.trans (xV.mono d1.size);have Q1:=hid Q1;have PP1:=hid (p1.below xV);have K1:=hid (K0.out.belowAll dV);have W1:=hid (W0.out.belowAll dV);have P1:=hid (P0.out.belowAll dV);have Z1:=hid (Z0.out.belowAll dV);have B1:=hid (B0.out.trans (dV.mono B0.out.size));have T1:=hid (T0.out.below (B0.out.trans (dV.mono B0.out.size)));have hgq:g<w1.heap.size:=p1.lt;have nkg:k≠g:=by have:=K0.out.lt;omega
 have nhg:h≠g:=by have:=W0.out.lt;omega
 have npg:w.heap.size≠g:=by omega
 have nzg:w.heap.size+1≠g:=by omega
 have hgw:w.heap.size≤g:=by omega
 have HV:=hid hV;clear p1 d1 X xV dV rk rp e1 hV hW;go_wp2_with fail;rw[←HV.out];clear HV;generalize w1.heap.size=q at*;have nqg:q≠g:=by omega
 refine(qU b a n c 16 V T1.out (by omega) (by omega) hsz).mono ?_;rintro e w2 ⟨v,rfl,o2,d2⟩;obtain⟨a2,c2,rfl,r2,hb2⟩:=o2.rd;have hnb:b.length=n:=T0.out.1;obtain⟨PB,hPB⟩: ∃PB,PB=b++aa 8 (jR n 16):=⟨_,rfl⟩;rw[←hPB]at r2⊢;have hpad:PB=padN b:=by rw[hPB,padN,hnb]
 have hp16:PB.length %16=0:=by rw[hpad];exact pI b
 obtain⟨pl,hpl⟩: ∃pl,pl=PB.length:=⟨_,rfl⟩;rw[←hpl]at r2 hp16⊢;have HPAD:=hid hpad;have R2:=hid r2;have PP2:=hid (PP1.out.below d2);have K2:=hid (K1.out.belowAll d2);have W2:=hid (W1.out.belowAll d2);have P2:=hid (P1.out.belowAll d2);have Q2:=hid (Q1.out.belowAll d2);have Z2:=hid (Z1.out.belowAll d2);have B2:=hid (B1.out.trans (d2.mono B1.out.size));have hgV:g<V.heap.size:=PP1.out.lt;have hA:0<pl→ ∀ad,a2=some ad→ad.block≠g:=fun _ ad h=>by have:=hb2 ad h;omega
 have HA:=hid hA;clear o2 r2 hb2 d2 hPB hpad hpl hA;go_wp2_with fail;refine(rJ k h g w.heap.size q _ _ _ L M ws (keyP M) [] PB a2 pl c2 w2 hLl hMl K2.out W2.out hwl P2.out Q2.out nkg nhg npg nqg PP2.out R2.out HA.out hp16).mono ?_;rintro e w3 ⟨rfl,p3,g3⟩;have c3:=(Q2.out.grown g3 (by simpa using nqg)).cell 0;have PP3:=hid p3;have Z3:=hid (Z2.out.grown g3 (by simpa using nzg));have B3:=hid (B2.out.grown g3 B2.out.size (fun k hk=>by cases hk;exact hgw));clear p3 g3;go_wp2_with fail;refine(jY g (keyP M) _ w3 PP3.out).mono ?_;rintro e w4 ⟨rfl,d4⟩;rw[show bS (gT (keyP M) ([]++hpN ws PB))=R by rw[HR.out,nd,←HM.out,←HWS.out,←HPAD.out];rfl];have Z4:=Z3.out.belowAll d4;have wz:=Z4.whole;have rz:=Z4.row;have B4:=B3.out.trans (d4.mono B3.out.size);clear d4 Z4 c3;go_wp2;refine ag (A64 (wl R)) rfl rfl rfl (isAgg242 _) (sizeOf242 _) rfl (ah _ wz) ⟨rfl,below_setRow B4 (by omega) _⟩
def sumN(key tw b:Y8):W2:=ev (nb key tw b.length) (nd key b)
theorem iQ(k:Nat)(key tw b:Y8)(a1:Option Addr)(n1 c1:Nat)(a:Option Addr)(n c:Nat)(w:World)(hK:AdK w k key)(ht:Rd8 w a1 n1 c1 tw)(hr:Rd8 w a n c b)(hsz:n≤70368744177664):
  Calls prog 224 #[.pointer (some ⟨k,0,none⟩),.slice a1 n1 c1,.slice a n c] w fun e w' =>e= .returned (.agg (A64 (wl (sumN key tw b))))∧Below w.heap.size w w':=by
 obtain⟨W,hW⟩: ∃W,(w.alloc (.cells (A64 (aa 64 2)) 242))=W:=⟨_,rfl⟩;obtain⟨b0,hb,hz⟩:=new1 _ _ _ _ hW;obtain⟨R,hR⟩: ∃R,R=sumN key tw b:=⟨_,rfl⟩;rw[←hR];have hnb:b.length=n:=hr.1;have HR:=hid hR;have K0:=hid (hK.below hb);have T0:=hid (ht.below hb);have R0:=hid (hr.below hb);have Z0:=hid b0;have B0:=hid hb;have hl0:=b0.lt;clear hR b0 hb hr ht hK;go_enter func224,ntmps224;go_wp2_with fail;refine(pH k key tw a1 n1 c1 n W K0.out T0.out).mono ?_;rintro e w1 ⟨rfl,d1⟩;have D1:=hid d1;clear d1;go_wp2_with fail;refine(ur k key b a n c w1 (K0.out.below D1.out) (R0.out.below D1.out) hsz).mono ?_;rintro e w2 ⟨rfl,d2⟩;have D2:=hid (D1.out.trans (d2.mono D1.out.size));clear d2 D1;go_wp2_with fail;refine(ij (nb key tw n) (nd key b) w2).mono ?_;rintro e w3 ⟨rfl,d3⟩;have D3:=D2.out.trans (d3.mono D2.out.size);rw[show ev (nb key tw n) (nd key b)=R by rw[HR.out,sumN,hnb]];have Z3:=Z0.out.belowAll D3;have wz:=Z3.whole;have rz:=Z3.row;have B3:=B0.out.trans (D3.mono B0.out.size);clear d3 D3 Z3;go_wp2;refine ag (A64 (wl R)) rfl rfl rfl (isAgg242 _) (sizeOf242 _) rfl (ah _ wz) ⟨rfl,below_setRow B3 (by omega) _⟩
end Go.Proofs.YtlpkfdkhlffmlaaGreatDoor
