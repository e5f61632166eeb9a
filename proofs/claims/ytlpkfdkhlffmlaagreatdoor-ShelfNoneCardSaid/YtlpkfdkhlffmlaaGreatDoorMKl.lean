/-blake:RotateLeft64 (to the right),half,stir-/
import Derived.Test.YtlpkfdkhlffmlaaGreatDoorMGw
import Derived.Test.YtlpkfdkhlffmlaaGreatDoorMGe
import Derived.Test.YtlpkfdkhlffmlaaGreatDoorMGb
import Derived.Test.YtlpkfdkhlffmlaaGreatDoorMGc
import Derived.Deep.CutBlock
import Derived.Deep.CutRange
import Derived.Test.YtlpkfdkhlffmlaaGreatDoorMGs
import Derived.Test.YtlpkfdkhlffmlaaGreatDoorRows
import Derived.ProofKit
import Derived.LaidMore
import Derived.OpenShut
import Derived.Stop.Joined
namespace Go.Proofs.YtlpkfdkhlffmlaaGreatDoor
open Go.Proofs.Tryz
set_option linter.unusedSimpArgs false
set_option linter.unusedVariables false
set_option maxRecDepth 100000
set_option maxHeartbeats 1600000
open Go.RowKit
open Go.RowKit
def oD:List (BitVec 64):=[0x6a09e667f3bcc908#64,0xbb67ae8584caa73b#64,0x3c6ef372fe94f82b#64,0xa54ff53a5f1d36f1#64,0x510e527fade682d1#64,0x9b05688c2b3e6c1f#64,0x1f83d9abfb41bd6b#64,0x5be0cd19137e2179#64]
def brows:Y8:=[0#8,1#8,2#8,3#8,4#8,5#8,6#8,7#8,8#8,9#8,10#8,11#8,12#8,13#8,14#8,15#8,
 14#8,10#8,4#8,8#8,9#8,15#8,13#8,6#8,1#8,12#8,0#8,2#8,11#8,7#8,5#8,3#8,
 11#8,8#8,12#8,0#8,5#8,2#8,15#8,13#8,10#8,14#8,3#8,6#8,7#8,1#8,9#8,4#8,
 7#8,9#8,3#8,1#8,13#8,12#8,11#8,14#8,2#8,6#8,5#8,10#8,4#8,0#8,15#8,8#8,
 9#8,0#8,5#8,7#8,2#8,4#8,10#8,15#8,14#8,1#8,11#8,12#8,6#8,8#8,3#8,13#8,
 2#8,12#8,6#8,10#8,0#8,11#8,8#8,3#8,4#8,13#8,7#8,5#8,15#8,14#8,1#8,9#8,
 12#8,5#8,1#8,15#8,14#8,13#8,4#8,10#8,0#8,7#8,6#8,3#8,9#8,2#8,8#8,11#8,
 13#8,11#8,7#8,14#8,12#8,1#8,3#8,9#8,5#8,0#8,15#8,4#8,8#8,6#8,2#8,10#8,
 6#8,15#8,14#8,9#8,11#8,3#8,0#8,8#8,12#8,2#8,13#8,7#8,1#8,4#8,10#8,5#8,
 10#8,2#8,8#8,4#8,7#8,6#8,1#8,5#8,15#8,11#8,9#8,14#8,3#8,12#8,13#8,0#8]
theorem uD:brows.length=160:=rfl
def Blaking(w:World):Prop:=ar w 2=A64 oD∧ar w 3=A8 brows∧2<w.heap.size∧3<w.heap.size
theorem Blaking.below {w w':World}(h:Blaking w)(hb:Below w.heap.size w w'):Blaking w':=
 ⟨(jN hb h.2.2.1).trans h.1,(jN hb h.2.2.2).trans h.2.1,Nat.lt_of_lt_of_le h.2.2.1 hb.size,Nat.lt_of_lt_of_le h.2.2.2 hb.size⟩
theorem Blaking.drew {w:World}(h:Blaking w):Blaking w.drew:=h
theorem Blaking.first {w:World}(h:Blaking w)(i:Nat)(hi:i<8):w.cell? ⟨2,i,none⟩=some (v64 (nth oD i)):=by
 rw[aO,h.1,iC oD i (by simpa[oD]using hi)]
theorem Blaking.rows {w:World}(h:Blaking w):RdS w 16 (some ⟨3,0,none⟩) 10 10 brows:=
 ⟨rfl,Nat.le_refl _,by unfold maxLen;omega,fun _=>⟨_,0,rfl,h.2.2.2,fun i hi=>by rw[aO,h.2.1,Nat.zero_add,jm brows i (by rw[uD];omega)]⟩⟩
theorem Blaking.from_ {w w':World} {B:Nat}(h:Blaking w)(hb:Below B w w')(h0:2<B)(h1:3<B):Blaking w':=by
 refine⟨?_,?_,Nat.lt_of_lt_of_le h.2.2.1 hb.size,Nat.lt_of_lt_of_le h.2.2.2 hb.size⟩
 ·unfold ar;rw[hb.block _ h0];exact h.1
 ·unfold ar;rw[hb.block _ h1];exact h.2.1
def bm(blk:Y8):Nat→List (BitVec 64)
 |0=>aa 64 16
 |j+1=>(bm blk j).set j (long blk (8*j))
structure CpS(w:World)(gh gb gc gr gm gv:Nat)(h:List (BitVec 64))(blk:Y8)(x:W2)(m v:List (BitVec 64)):Prop where
 o:gh<gb∧gb<gc∧gc<gr∧gr<gm∧gm<gv
 h:Blk w gh 240 (A64 h)
 b:Blk w gb 257 (A8 blk)
 c:Blk w gc 242 (A64 (wl x))
 r:Blk w gr 240 (A64 (aa 64 8))
 m:Blk w gm 270 (A64 m)
 v:Blk w gv 270 (A64 v)
section
variable {w w':World} {gh gb gc gr gm gv:Nat} {h h':List (BitVec 64)} {blk:Y8} {x:W2} {m v m' v':List (BitVec 64)}
theorem CpS.below(H:CpS w gh gb gc gr gm gv h blk x m v)(hb:Below w.heap.size w w'):CpS w' gh gb gc gr gm gv h blk x m v:=
 ⟨H.o,H.h.belowAll hb,H.b.belowAll hb,H.c.belowAll hb,H.r.belowAll hb,H.m.belowAll hb,H.v.belowAll hb⟩
theorem CpS.drew(H:CpS w gh gb gc gr gm gv h blk x m v):CpS w.drew gh gb gc gr gm gv h blk x m v:=⟨H.o,H.h.drew,H.b.drew,H.c.drew,H.r.drew,H.m.drew,H.v.drew⟩
end
open Go.ChangeShapes Go.WideShapes Go.ChangeAt Go.RowKit
theorem gMixes:prog.globalNamed "wringer/turn.mixes" =some 0:=by kernel_rfl
theorem gUnmixes:prog.globalNamed "wringer/turn.unmixes" =some 1:=by kernel_rfl
theorem tMixes:(prog.globals[0]?).map (·.type)=some 75:=by kernel_rfl
theorem tUnmixes:(prog.globals[1]?).map (·.type)=some 75:=by kernel_rfl
theorem tg {P:Program} {w:World} {n:String} {g:Nat} {cs:Array Value}(hg:P.globalNamed n=some g)(h:w.var? P n=some cs):ar w g=cs∧(cs.size=0∨g<w.heap.size):=by
 simp only[World.var?,hg,Option.bind_some]at h;unfold ar
 split at h
 ·rename_i cs' t f e;rw[e];exact⟨Option.some.inj h,.inr (Array.getElem?_eq_some_iff.1 e).1⟩
 ·cases h
section
variable {H:Type} {enc:TypeId×Value→H} {P:Program} {w:World} {base:Nat} {spare:Nat→Bool} {held:Bool}
theorem ma {t e:TypeId} {fuel:Nat} {cs:List Value} {a b c d:Int} {q:List MemPlace}(ht:P.underlying t=some (.array 4 e))(he:P.underlying e=some (.int .u8))(hc:P.cellsOf e=1)(hct:P.cellsOf t=4)
  (h:DataW.trod enc P w base spare held fuel t cs=some (.agg [.lit (.int .u8 a),.lit (.int .u8 b),.lit (.int .u8 c),.lit (.int .u8 d)],q)):cs=[.int .u8 a,.int .u8 b,.int .u8 c,.int .u8 d]:=by
 obtain⟨xs,m1,rfl,hx1,hlen,hn3,hel⟩:=DataW.trod_array ht h;rw[hc]at hel
 match xs,hn3 with
 | [x0,x1,x2,x3],_=>
  simp only[Prod.mk.injEq,DataW.agg.injEq,List.map_cons,List.map_nil,List.cons.injEq,and_true]at hx1;obtain⟨⟨e0,e1,e2,e3⟩,_⟩:=hx1;obtain⟨k0,c0,d0,_⟩:=DataW.trod_int he (show DataW.trod enc P w base spare held m1 e _=some x0 from hel 0 (by decide));obtain⟨k1,c1,d1,_⟩:=DataW.trod_int he (show DataW.trod enc P w base spare held m1 e _=some x1 from hel 1 (by decide));obtain⟨k2,c2,d2,_⟩:=DataW.trod_int he (show DataW.trod enc P w base spare held m1 e _=some x2 from hel 2 (by decide));obtain⟨k3,c3,d3,_⟩:=DataW.trod_int he (show DataW.trod enc P w base spare held m1 e _=some x3 from hel 3 (by decide));rw[hct]at hlen;rw[d0]at e0;rw[d1]at e1;rw[d2]at e2;rw[d3]at e3;cases e0;cases e1;cases e2;cases e3
  match cs,hlen with
  | [y0,y1,y2,y3],_=>
   simp only[Nat.zero_mul,Nat.one_mul,Nat.reduceMul,List.drop_zero,List.drop_succ_cons,List.take_succ_cons,List.take_zero,List.cons.injEq,and_true]at c0 c1 c2 c3;rw[c0,c1,c2,c3]
end
open Go.ChangeShapes Go.WideShapes Go.ChangeAt Go.RowKit
def mb:List (String×DataW Unit):=[("wringer/blake.first",Rows.laid_wringer_blake_first),("wringer/blake.rows",Rows.laid_wringer_blake_rows),("wringer/turn.mixes",Rows.laid_wringer_turn_mixes),("wringer/turn.unmixes",Rows.laid_wringer_turn_unmixes)]
theorem uE(os:Os)(args:Array Value):laidMetH prog mb ((World.doorLaid prog 400 os).forCall (fun _ _=>0) ⟨#[],args,[]⟩).memory:=
 laidMetH_of_parts3 (fuel:=8) (laidMet_of_run' 8 (by kernel_rfl) (by kernel_rfl)) (by kernel_rfl) (by kernel_rfl)
theorem jE {W:World}(h:laidMetH prog mb W):Turning W:=by
 rw[MakeChecks.laidMetH_plain _ _ _ (by kernel_rfl)]at h;obtain⟨ps,⟨gA,tA,csA,fA,pA,qA,_,_,_,_,⟨gB,tB,csB,fB,pB,qB,_,_,_,_,⟨g0,t0,cs0,f0,p0,q0,hg0,ht0,hv0,hd0,⟨g1,t1,cs1,f1,p1,q1,hg1,ht1,hv1,hd1,_,_⟩,_⟩,_⟩,_⟩,_,_⟩:=h;obtain rfl:=Option.some.inj (gMixes.symm.trans hg0);obtain rfl:=Option.some.inj (gUnmixes.symm.trans hg1);obtain rfl:=Option.some.inj (tMixes.symm.trans ht0);obtain rfl:=Option.some.inj (tUnmixes.symm.trans ht1);have e0:=ma underlying75 underlying5 (by kernel_rfl) (by kernel_rfl) hd0;have e1:=ma underlying75 underlying5 (by kernel_rfl) (by kernel_rfl) hd1;obtain⟨r0,l0⟩:=tg hg0 hv0;obtain⟨r1,l1⟩:=tg hg1 hv1;have s0:cs0.size=4:=by rw[←Array.length_toList,e0];rfl
 have s1:cs1.size=4:=by rw[←Array.length_toList,e1];rfl
 refine⟨?_,?_,by omega,by omega⟩
 ·rw[r0];apply Array.ext';rw[e0,cU];rfl
 ·rw[r1];apply Array.ext';rw[e1,cU];rfl
open Go.ChangeShapes Go.WideShapes Go.ChangeAt Go.RowKit
section
variable {H:Type} {enc:TypeId×Value→H} {P:Program} {w:World} {base:Nat} {spare:Nat→Bool} {held:Bool}
end
end Go.Proofs.YtlpkfdkhlffmlaaGreatDoor
