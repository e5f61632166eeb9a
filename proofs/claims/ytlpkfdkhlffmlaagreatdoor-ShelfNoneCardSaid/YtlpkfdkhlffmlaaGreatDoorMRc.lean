/-shelf:a nil shelf-/
import Derived.Test.YtlpkfdkhlffmlaaGreatDoorMNb
import Derived.Test.YtlpkfdkhlffmlaaGreatDoorMRa
import Derived.Test.YtlpkfdkhlffmlaaGreatDoorMRb
import Derived.Laws.Cover1
namespace Go.Proofs.YtlpkfdkhlffmlaaGreatDoor
open Go.Proofs.Tryz
open Lib (hid)
set_option linter.unusedSimpArgs false
set_option linter.unusedVariables false
set_option maxRecDepth 100000
set_option maxHeartbeats 1600000
open Go.RowKit
theorem gG:(prog.info? 3).map (fun i=>(i.zero,i.size,i.bytes))=some (some (.int .i64 0),1,8):=by kernel_rfl
theorem eC(w:World)(t:TypeId)(cs0 cs:Array Value)(h1:(sizeOf t).run prog (w.alloc (.cells cs0 t))= .ok cs.size (w.alloc (.cells cs0 t)))(h2:cs0.size=cs.size)(h3:ones cs=true):
  (bL t (.pointer (some ⟨w.heap.size,0,none⟩)) (.agg cs)).run prog (w.alloc (.cells cs0 t))= .ok () (w.alloc (.cells cs t)):=by
 rw[aV (P:=prog) _ t w.heap.size cs h1 (by rw[(Blk.new w t cs0).row];exact h2) h3 (Blk.new w t cs0).whole,dw _ _ _ _ _ rfl]
@[reducible] def at0:Array Value:= #[.int .i64 0,.pointer none,.string ⟨#[]⟩,.int .i64 0,.bool false]
theorem kL(w:World):(bL 83 (.pointer (some ⟨w.heap.size,0,none⟩)) (.agg at0)).run prog (w.alloc (.cells at0 83))= .ok () (w.alloc (.cells at0 83)):=
 eC w _ at0 at0 (sizeOf83 _) rfl (by simp[ones,Value.oneCell'])
theorem gH(a:Option Addr)(n c:Nat)(w:World):Calls prog 32 #[.pointer none,.slice a n c] w fun e w' =>e= .returned (.int .i64 2)∧w=w':=by
 go_enter func32,ntmps32;go_wp2;go_ret;exact⟨rfl,rfl⟩
theorem jf(n:Int)(s:ByteArray)(w:World):Calls prog 25 #[.pointer none,.int .i64 n,.string s] w fun e w' =>e= .returned (.tuple #[.agg at0,.int .i64 2])∧Below w.heap.size w w':=by
 go_enter func25,ntmps25;go_upto_region 1 with fail;obtain⟨W,hW⟩: ∃W,w.alloc (.cells at0 83)=W:=⟨_,rfl⟩;obtain⟨b0,d0,z0⟩:=new1 _ _ _ _ hW;rw[hW];refine aq [0,0,2,2,0] rfl (fun ops' K2 hK2=> ?_)
 repeat (first|((with_reducible refine zq0 ?_);refine zq0a ?_)|((with_reducible refine zq1 ?_);refine zq1a ?_))
 refine jH (x:= .int .i64 n) (z0:= .int .i64 0) (size:=1) (bytes:=8) rfl rfl (by omega) (by omega) underlying130 gG (fun w1 g1 k1 d1=> ?_);simp only[Act.put,zz1,zz2,zz3]
 repeat (first|((with_reducible refine zq0 ?_);refine zq0a ?_)|((with_reducible refine zq1 ?_);refine zq1a ?_))
 (with_reducible refine aM rfl ?_)
 go_simp;refine ae ?_;refine(gH (some ⟨g1,0,none⟩) 1 1 w1).mono ?_;rintro e w2 ⟨rfl,rfl⟩;refine⟨_,rfl,?_⟩
 try simp only[Act.put,zz1,zz2,zz3]
 repeat (first|((with_reducible refine zq0 ?_);refine zq0a ?_)|((with_reducible refine zq1 ?_);refine zq1a ?_))
 refine ak (hK2 _ _ ?_);have zr:=(b0.belowAll d1).row;have zw:=(b0.belowAll d1).whole;have hst:=aV (P:=prog) w1 83 w.heap.size at0 (sizeOf83 _) (by rw[zr]) (by simp[ones,Value.oneCell']) zw;have hlt:=(b0.belowAll d1).lt;have D1:=hid (d0.trans (d1.mono d0.size));clear d0 d1 b0 k1 hK2;go_wp2;refine aY (p:=6) (u:=7) at0 rfl rfl rfl (isAgg83 _) (sizeOf83 _) rfl (ah _ zw) ⟨rfl,below_setRow D1.out (by omega) _⟩
theorem tr(w w1:World)(h:Below w.heap.size w w1):Below w.heap.size w (w1.alloc (.cells at0 83)):=h.alloc h.size _
theorem kq(n:Int)(s:ByteArray)(w:World):Calls prog 9 #[.pointer none,.int .i64 n,.string s] w fun e w' =>e= .returned (.tuple #[.int .i64 0,.int .i64 2])∧Below w.heap.size w w':=by
 go_enter func9,ntmps9;go_wp2_with fail;refine(jf n s w).mono ?_;rintro e w1 ⟨rfl,d1⟩;have hst:=kL w1;have D1:=hid (tr w w1 d1);clear d1;go_wp2;go_ret2;exact⟨rfl,D1.out⟩
theorem nv(n:Int)(s:ByteArray)(b:Option Addr)(len d:Nat)(w:World):Calls prog 13 #[.pointer none,.int .i64 n,.string s,.slice b len d] w fun e w' =>e= .returned (.int .i64 2)∧Below w.heap.size w w':=by
 go_enter func13,ntmps13;go_wp2_with fail;refine(jf n s w).mono ?_;rintro e w1 ⟨rfl,d1⟩;have hst:=kL w1;have D1:=hid (tr w w1 d1);clear d1;go_wp2;go_ret;exact⟨rfl,D1.out⟩
theorem jg(n:Int)(s:ByteArray)(w:World):Calls prog 15 #[.pointer none,.int .i64 n,.string s] w fun e w' =>e= .returned (.int .i64 2)∧Below w.heap.size w w':=by
 go_enter func15,ntmps15;go_wp2_with fail;refine(jf n s w).mono ?_;rintro e w1 ⟨rfl,d1⟩;have hst:=kL w1;have D1:=hid (tr w w1 d1);clear d1;go_wp2;go_ret;exact⟨rfl,D1.out⟩
theorem mg(n:Int)(s:ByteArray)(f:Value)(w:World):Calls prog 29 #[.pointer none,.int .i64 n,.string s,f] w fun e w' =>e= .returned (.int .i64 2)∧Below w.heap.size w w':=by
 go_enter func29,ntmps29;go_wp2_with fail;refine(jf n s w).mono ?_;rintro e w1 ⟨rfl,d1⟩;have hst:=kL w1;have D1:=hid (tr w w1 d1);clear d1;go_wp2;go_ret;exact⟨rfl,D1.out⟩
theorem nw(n:Int)(s:ByteArray)(w:World):Calls prog 10 #[.pointer none,.int .i64 n,.string s] w fun e w' =>e= .returned (.tuple #[.slice none 0 0,.int .i64 2])∧Below w.heap.size w w':=by
 go_enter func10,ntmps10;obtain⟨W,hW⟩: ∃W,(w.alloc (.cells #[.pointer none] 25)).alloc (.cells #[.slice none 0 0] 22)=W:=⟨_,rfl⟩;obtain⟨b0,b1,hb,hz⟩:=new2 _ _ _ _ _ _ hW;have c0:W.cell? ⟨w.heap.size,0,none⟩=some (.pointer none):=by rw[b0.cell];rfl
 go_wp2_with fail;refine(mg n s _ W).mono ?_;rintro e w1 ⟨rfl,d1⟩;have c1:w1.cell? ⟨w.heap.size+1,0,none⟩=some (.slice none 0 0):=by rw[(b1.belowAll d1).cell];rfl
 have D1:=hid (hb.trans (d1.mono hb.size));clear d1 hb b0 b1 hW;go_wp2;go_ret2;exact⟨rfl,D1.out⟩
theorem kt(n p:Int)(x:Value)(hx: ∃q,x= .int .u8 q)(s:ByteArray)(w:World):Calls prog 16 #[.pointer none,.int .i64 n,.string s,.int .i64 p,x] w fun e w' =>e= .returned (.int .i64 2)∧Below w.heap.size w w':=by
 obtain⟨q,rfl⟩:=hx;go_enter func16,ntmps16;obtain⟨W,hW⟩: ∃W,(w.alloc (.cells #[.int .i64 p] 3)).alloc (.cells #[.int .u8 q] 5)=W:=⟨_,rfl⟩;obtain⟨b0,b1,hb,hz⟩:=new2 _ _ _ _ _ _ hW;go_wp2_with fail;refine(mg n s _ W).mono ?_;rintro e w1 ⟨rfl,d1⟩;have D1:=hid (hb.trans (d1.mono hb.size));clear d1 hb b0 b1 hW;go_wp2;go_ret;exact⟨rfl,D1.out⟩
theorem mh(n:Int)(w:World):Calls prog 11 #[.pointer none,.int .i64 n] w fun e w' =>e= .returned (.tuple #[.slice none 0 0,.int .i64 2])∧Below w.heap.size w w':=by
 go_enter func11,ntmps11;go_upto_region 1 with fail;refine aq [0,0,2,2,0] rfl (fun ops' K2 hK2=> ?_)
 repeat (first|((with_reducible refine zq0 ?_);refine zq0a ?_)|((with_reducible refine zq1 ?_);refine zq1a ?_))
 refine jH (x:= .int .i64 n) (z0:= .int .i64 0) (size:=1) (bytes:=8) rfl rfl (by omega) (by omega) underlying130 gG (fun w1 g1 k1 d1=> ?_);simp only[Act.put,zz1,zz2,zz3]
 repeat (first|((with_reducible refine zq0 ?_);refine zq0a ?_)|((with_reducible refine zq1 ?_);refine zq1a ?_))
 (with_reducible refine aM rfl ?_)
 go_simp;refine ae ?_;refine(gH (some ⟨g1,0,none⟩) 1 1 w1).mono ?_;rintro e w2 ⟨rfl,rfl⟩;refine⟨_,rfl,?_⟩
 try simp only[Act.put,zz1,zz2,zz3]
 repeat (first|((with_reducible refine zq0 ?_);refine zq0a ?_)|((with_reducible refine zq1 ?_);refine zq1a ?_))
 refine ak (hK2 _ _ ?_);have D1:=hid d1;clear d1 k1 hK2;go_wp2;go_ret2;exact⟨rfl,D1.out⟩
theorem ku(n:Int)(w:World):Calls prog 12 #[.pointer none,.int .i64 n] w fun e w' =>e= .returned (.tuple #[.slice none 0 0,.int .i64 2])∧Below w.heap.size w w':=by
 go_enter func12,ntmps12;go_upto_region 1 with fail;refine aq [0,0,2,2,0] rfl (fun ops' K2 hK2=> ?_)
 repeat (first|((with_reducible refine zq0 ?_);refine zq0a ?_)|((with_reducible refine zq1 ?_);refine zq1a ?_))
 refine jH (x:= .int .i64 n) (z0:= .int .i64 0) (size:=1) (bytes:=8) rfl rfl (by omega) (by omega) underlying130 gG (fun w1 g1 k1 d1=> ?_);simp only[Act.put,zz1,zz2,zz3]
 repeat (first|((with_reducible refine zq0 ?_);refine zq0a ?_)|((with_reducible refine zq1 ?_);refine zq1a ?_))
 (with_reducible refine aM rfl ?_)
 go_simp;refine ae ?_;refine(gH (some ⟨g1,0,none⟩) 1 1 w1).mono ?_;rintro e w2 ⟨rfl,rfl⟩;refine⟨_,rfl,?_⟩
 try simp only[Act.put,zz1,zz2,zz3]
 repeat (first|((with_reducible refine zq0 ?_);refine zq0a ?_)|((with_reducible refine zq1 ?_);refine zq1a ?_))
 refine ak (hK2 _ _ ?_);have D1:=hid d1;clear d1 k1 hK2;go_wp2;go_ret2;exact⟨rfl,D1.out⟩
theorem mj(n m:Int)(s t:ByteArray)(w:World):Calls prog 14 #[.pointer none,.int .i64 n,.string s,.int .i64 m,.string t] w fun e w' =>e= .returned (.int .i64 2)∧Below w.heap.size w w':=by
 go_enter func14,ntmps14;go_upto_region 1 with fail;refine aq [0,0,0,2,2,0] rfl (fun ops' K2 hK2=> ?_)
 repeat (first|((with_reducible refine zq0 ?_);refine zq0a ?_)|((with_reducible refine zq1 ?_);refine zq1a ?_))
 refine wN (x:= .int .i64 n) (y:= .int .i64 m) (z:= .int .i64 0) (size:=1) (bytes:=8) rfl rfl rfl rfl (by omega) (by omega) underlying130 gG (fun w1 g1 k1 d1=> ?_);simp only[Act.put,zz1,zz2,zz3]
 repeat (first|((with_reducible refine zq0 ?_);refine zq0a ?_)|((with_reducible refine zq1 ?_);refine zq1a ?_))
 (with_reducible refine aM rfl ?_)
 go_simp;refine ae ?_;refine(gH (some ⟨g1,0,none⟩) 2 2 w1).mono ?_;rintro e w2 ⟨rfl,rfl⟩;refine⟨_,rfl,?_⟩
 try simp only[Act.put,zz1,zz2,zz3]
 repeat (first|((with_reducible refine zq0 ?_);refine zq0a ?_)|((with_reducible refine zq1 ?_);refine zq1a ?_))
 refine ak (hK2 _ _ ?_);have D1:=hid d1;clear d1 k1 hK2;go_wp2;go_ret;exact⟨rfl,D1.out⟩
open Go.RowKit
open Instr (findNow sameNow)
def mEnt(x:Int×Nat×Nat):MapEntry:=⟨.int .i64 x.1,.pointer (some ⟨x.2.1,0,none⟩),x.2.2⟩
def MapAt(w:World)(r:Nat)(L:List (Int×Nat×Nat)):Prop:= ∃clock,w.heap[r]? =some (.map (L.map mEnt).toArray clock)
def getF(L:List (Int×Nat×Nat))(n:Int):Option Nat:=(L.find? fun x=>x.1==n).map (·.2.1)
theorem MapAt.lt {w:World} {r:Nat} {L:List (Int×Nat×Nat)}(h:MapAt w r L):r<w.heap.size:=by
 obtain⟨c,h⟩:=h;exact(Array.getElem?_eq_some_iff.1 h).1
theorem MapAt.grown {w w':World} {r:Nat} {L:List (Int×Nat×Nat)} {q:Option Nat}(h:MapAt w r L)(hg:w.grownBy w' q)(hne:some r≠q):MapAt w' r L:=by
 have hl:=h.lt;obtain⟨c,h⟩:=h;exact⟨c,by rw[hg.block r hl hne];exact h⟩
theorem MapAt.below {w w':World} {r:Nat} {L:List (Int×Nat×Nat)}(h:MapAt w r L)(hb:Below w.heap.size w w'):MapAt w' r L:=h.grown (aW hb none) (by simp)
theorem fC(n:Int): ∀(L:List (Int×Nat×Nat)) (i:Nat),∃j,findNow (.int .i64) (.int .i64 n) (L.map mEnt) i=some ((getF L n).map fun f=>(j,.pointer (some ⟨f,0,none⟩)))
 | [],i=>⟨0,rfl⟩
 |x::r,i=>by
  by_cases e:n=x.1
  ·exact⟨i,by simp[findNow,sameNow,mEnt,getF,e]⟩
  ·have e2: ¬x.1=n:=fun h=>e h.symm;obtain⟨j,hj⟩:=fC n r (i+1);refine⟨j,?_⟩;simp only[List.map_cons,findNow,mEnt,sameNow];rw[show(n==x.1)=false by simpa using e];simp only[if_true];rw[show getF (x::r) n=getF r n by simp[getF,e2]];exact hj
def ptrF:Option Nat→Value
 |some f=> .pointer (some ⟨f,0,none⟩)
 |none=> .pointer none
theorem gl(w:World)(r:Nat)(L:List (Int×Nat×Nat))(n:Int)(h:MapAt w r L):
  (Instr.lookup 60 (.map (some r)) (.int .i64 n) false).run prog w= .ok (ptrF (getF L n)) w:=by
 obtain⟨c,h⟩:=h;obtain⟨j,hj⟩:=fC n L 0;have hz:(zeroValue 56).run prog w= .ok (.pointer none) w:=by kernel_rfl
 have hg:(getObj r).run prog w= .ok (.map (L.map mEnt).toArray c) w:=by simp[getObj,Sem.run,h]
 have hck: ∀b,(Instr.checkKey b 10000 3 (.int .i64 n)).run prog w= .ok () w:=fun b=>by
  rw[show(10000:Nat)=9999+1 from rfl,Instr.checkKey];simp[run_underlying underlying3]
 have hfk:(Instr.findKey 3 (.int .i64 n) (L.map mEnt)).run prog w= .ok ((getF L n).map fun f=>(j,.pointer (some ⟨f,0,none⟩))) w:=by
  simp[Instr.findKey,run_underlying underlying3,hj]
 simp only[Instr.lookup,Sem.run_bind,run_underlying underlying60,Result.andThen_ok,hg,hck,hfk,Sem.run_pure];cases getF L n with
 |none=>simp[ptrF,hz]
 |some f=>simp[ptrF]
theorem kv(w:World)(r:Nat)(L:List (Int×Nat×Nat))(n:Int)(f:Nat)(h:MapAt w r L)(hn:getF L n=none):
  ∃w' b,(Instr.mapUpdate 60 (.map (some r)) (.int .i64 n) (.pointer (some ⟨f,0,none⟩))).run prog w= .ok () w'∧MapAt w' r (L++ [(n,f,b)])∧w.grownBy w' (some r)∧w'.heap.size=w.heap.size:=by
 obtain⟨c,h⟩:=h;obtain⟨j,hj⟩:=fC n L 0;rw[hn,Option.map_none]at hj;have hg:(getObj r).run prog w= .ok (.map (L.map mEnt).toArray c) w:=by simp[getObj,Sem.run,h]
 have hck: ∀b,(Instr.checkKey b 10000 3 (.int .i64 n)).run prog w= .ok () w:=fun b=>by
  rw[show(10000:Nat)=9999+1 from rfl,Instr.checkKey];simp[run_underlying underlying3]
 have hfk:(Instr.findKey 3 (.int .i64 n) (L.map mEnt)).run prog w= .ok none w:=by
  simp[Instr.findKey,run_underlying underlying3,hj]
 have hrun:(Instr.mapUpdate 60 (.map (some r)) (.int .i64 n) (.pointer (some ⟨f,0,none⟩))).run prog w=(setObj r (.map ((L.map mEnt).toArray.push ⟨.int .i64 n,.pointer (some ⟨f,0,none⟩),c⟩) (c+1))).run prog w:=by
  simp only[Instr.mapUpdate,Sem.run_bind,run_underlying underlying60,Result.andThen_ok,hg,hck,hfk]
 have hlt:r<w.heap.size:=(Array.getElem?_eq_some_iff.1 h).1;have hne: ∀k,some k≠some r→ ¬r=k:=fun k hk e=>hk (by rw[e]);refine⟨{w with heap:=w.heap.setIfInBounds r (.map ((L.map mEnt).toArray.push ⟨.int .i64 n,.pointer (some ⟨f,0,none⟩),c⟩) (c+1))},c,by rw[hrun];simp[setObj,Sem.run,h],⟨c+1,?_⟩,⟨rfl,rfl,rfl,by simp,fun k hk hn2=> ?_⟩,by simp⟩
 ·show(w.heap.setIfInBounds r _)[r]? =_;rw[Array.getElem?_setIfInBounds_self_of_lt hlt,show(L.map mEnt).toArray.push ⟨.int .i64 n,.pointer (some ⟨f,0,none⟩),c⟩=((L++ [(n,f,c)]).map mEnt).toArray by simp[mEnt]]
 ·show(w.heap.setIfInBounds r _)[k]? =_;rw[Array.getElem?_setIfInBounds_ne (hne k hn2)]
def ShC(g h r:Nat)(made:Int):Array Value:= #[.pointer (some ⟨g,0,none⟩),.pointer (some ⟨h,0,none⟩),.map (some r),.int .i64 made]
def FoC(ab:Int)(v:Value):Array Value:= #[.int .i64 ab,v]
structure SfAt(w:World)(s g h r:Nat)(made:Int)(L:List (Int×Nat×Nat)):Prop where
 blk:Blk w s 62 (ShC g h r made)
 map:MapAt w r L
theorem SfAt.below {w w':World} {s g h r:Nat} {made:Int} {L:List (Int×Nat×Nat)}(k:SfAt w s g h r made L)(hb:Below w.heap.size w w'):SfAt w' s g h r made L:=⟨k.blk.belowAll hb,k.map.below hb⟩
theorem qm(s g h r gk m c:Nat)(made:Int)(L:List (Int×Nat×Nat))(cs:Array Value)(w:World)(S:SfAt w s g h r made L)(hk:Blk w gk 3 cs)(hm:m≤1000)(hc: ∀k,k<m→ ∃n f,cs[k]? =some (.int .i64 n)∧getF L n=some f):
  Calls prog 32 #[.pointer (some ⟨s,0,none⟩),.slice (some ⟨gk,0,none⟩) m c] w fun e w' =>e= .returned (.int .i64 0)∧w=w':=by
 have c2:w.cell? ⟨s,2,none⟩=some (.map (some r)):=by rw[S.blk.cell];rfl
 have HM:=hid S.map;have HK:=hid hk;have HC:=hid hc;clear S hk hc;go_enter func32,ntmps32;go_wp2_with fail;go_loopw [11] (fun k wz=> ∃j:Nat,j≤m∧k= .int .i64 j∧w=wz) (fun k _=>m-(intOf k).toNat)
 case atStart=>exact⟨0,Nat.zero_le _,rfl,rfl⟩
 case round=>
  obtain⟨j,hj,rfl,rfl⟩:=hrel;by_cases hjm:j<m
  ·obtain⟨n,f,h1,h2⟩:=HC.out j hjm;have c1:w.cell? ⟨gk,j,none⟩=some (.int .i64 n):=by rw[HK.out.cell];exact h1
   have hl:=gl w r L n HM.out;rw[h2,ptrF]at hl;have j1:(j:Int)<(m:Int):=by omega
   have j0:(0:Int)≤(j:Int):=by omega
   clear h1 h2;go_wp2;exact⟨⟨j+1,by omega,by go_num,trivial⟩,by simp[intOf];omega⟩
  ·obtain rfl:j=m:=by omega
   go_wp2;go_ret;exact⟨rfl,rfl⟩
open Go.RowKit
theorem qn: ∀l:List UInt8,Op.bytesLess l l=false
 | []=>rfl
 |a::r=>by simp[Op.bytesLess,qn r]
theorem uU {x y:ByteArray}(h:x.toList=y.toList):x=y:=by
 rw[ByteArray.toList_eq,ByteArray.toList_eq]at h;cases x;cases y;congr;exact Array.ext' h
def cmpS(x y:ByteArray):Int:=if Op.bytesLess x.toList y.toList then-1 else if x.toList==y.toList then 0 else 1
theorem wS(x y:ByteArray):cmpS x y=0↔x=y:=by
 unfold cmpS;constructor
 ·intro h
  split at h
  ·cases h
  ·split at h
   ·rename_i h2;exact uU (eq_of_beq h2)
   ·cases h
 ·rintro rfl;rw[qn];simp
theorem yc(x y:ByteArray)(w:World):Calls prog 36 #[.string x,.string y] w fun e w' =>e= .returned (.int .i64 (cmpS x y))∧w=w':=by
 have hN: ∀z:ByteArray,Calls prog 60 #[.string z] w fun e w' =>e= .returned (.bool false)∧w=w':=fun z=>by
  go_enter func60,ntmps60;go_wp2;go_ret;exact⟨rfl,rfl⟩
 have HN:=hid hN;clear hN;obtain⟨r,hr⟩: ∃r,cmpS x y=r:=⟨_,rfl⟩;have hr2:=hr;rw[hr];unfold cmpS at hr2;obtain⟨u,hu⟩: ∃u,Op.bytesLess x.toList y.toList=u:=⟨_,rfl⟩;obtain⟨v,hv⟩: ∃v,(x.toList==y.toList)=v:=⟨_,rfl⟩;rw[hu,hv]at hr2;have HR:=hid hr2;clear hr hr2;cases u
 ·cases v
  all_goals
   go_enter func36,ntmps36;go_wp2_with fail;refine(HN.out x).mono ?_;rintro e w1 ⟨rfl,rfl⟩;go_wp2_with fail;refine(HN.out y).mono ?_;rintro e w1 ⟨rfl,rfl⟩;go_wp2;go_ret;exact⟨by rw[←HR.out];rfl,rfl⟩
 ·go_enter func36,ntmps36;go_wp2_with fail;refine(HN.out x).mono ?_;rintro e w1 ⟨rfl,rfl⟩;go_wp2_with fail;refine(HN.out y).mono ?_;rintro e w1 ⟨rfl,rfl⟩;go_wp2;go_ret;exact⟨by rw[←HR.out];rfl,rfl⟩
def entC(x:ByteArray×Int×Value):Array Value:= #[.string x.1,.int .i64 x.2.1,x.2.2]
def gU(es:List (ByteArray×Int×Value)):List Value:=es.flatMap fun x=>(entC x).toList
def OwnE(w:World)(B:Nat)(v:Value)(es:List (ByteArray×Int×Value)):Prop:=w.ownsRow B 89 3 v es.length (gU es)
theorem nx: ∀(es:List (ByteArray×Int×Value)) (k:Nat) (h:k<es.length),((gU es).drop (k*3)).take 3=(entC es[k]).toList
 |x::r,0,_=>rfl
 |x::r,k+1,h=>by
  have e:gU (x::r)=(entC x).toList++gU r:=rfl;rw[e,show(k+1)*3=3+k*3 by omega,←List.drop_drop,show((entC x).toList++gU r).drop 3=gU r from rfl,nx r k (by simpa using h)];rfl
theorem OwnE.below {w w':World} {B:Nat} {v:Value} {es:List (ByteArray×Int×Value)}(h:OwnE w B v es)(hb:Below w.heap.size w w'):OwnE w' B v es:=by
 refine⟨h.1,?_⟩;rcases h.2 with h0|⟨g,cap,cur,hv,hg,hh,hr⟩
 ·exact .inl h0
 ·exact .inr ⟨g,cap,cur,hv,hg,by rw[hb.block g (Array.getElem?_eq_some_iff.1 hh).1];exact hh,hr⟩
theorem OwnE.form {w:World} {B:Nat} {v:Value} {es:List (ByteArray×Int×Value)}(h:OwnE w B v es): ∃a c,v= .slice a es.length c∧(0<es.length→ ∃g,a=some ⟨g,0,none⟩∧B≤g∧g<w.heap.size):=by
 rcases h.2 with⟨h2,h3⟩|⟨g,cap,cur,h2,h3,h4,_⟩
 ·exact⟨none,0,by rw[h2,h3],fun h=>by omega⟩
 ·exact⟨_,_,h2,fun _=>⟨g,rfl,h3,(Array.getElem?_eq_some_iff.1 h4).1⟩⟩
theorem fD:prog.cellsOf 89=3:=by kernel_rfl
theorem OwnE.get {w:World} {B g c:Nat} {es:List (ByteArray×Int×Value)}(h:OwnE w B (.slice (some ⟨g,0,none⟩) es.length c) es)(k:Nat)(hk:k<es.length):
  (ce 89 (.pointer (some ⟨g,k*3,none⟩))).run prog w= .ok (.agg (entC es[k])) w:=by
 rcases h.2 with⟨h2,_⟩|⟨g',cap,cur,h2,h3,h4,h5,h6,h7,h8⟩
 ·cases h2
 ·simp only[Value.slice.injEq,Option.some.injEq,Addr.mk.injEq,and_true,true_and]at h2;obtain⟨rfl,rfl⟩:=h2;have hr:ar w g=cur:=by unfold ar;rw[h4]
  have hsz:k*3+3≤cur.size:=by rw[h7];omega
  rw[cB w _ _ _ (isAgg89 _) (sizeOf89 _) (by rw[hr,fD];exact hsz),hr,fD];congr 2;apply Array.ext';have e1:=nx es k hk;rw[←h8,List.drop_take,List.take_take,Nat.min_eq_left (by omega)]at e1;rw[←e1];show(cur.extract (k*3) (k*3+3)).toList=_;rw[Array.toList_extract,List.extract_eq_take_drop];congr 1;omega
open Go.RowKit
theorem kw(x:ByteArray×Int×Value)(y:ByteArray)(w:World):Calls prog 64 #[.agg (entC x),.string y] w fun e w' =>e= .returned (.int .i64 (cmpS x.1 y))∧Below w.heap.size w w':=by
 obtain⟨W,hW⟩: ∃W,w.alloc (.cells (entC x) 89)=W:=⟨_,rfl⟩;obtain⟨b0,d0,z0⟩:=new1 _ _ _ _ hW;have c0:W.cell? ⟨w.heap.size,0,none⟩=some (.string x.1):=by rw[b0.cell];rfl
 have hsz:(entC x).size=3:=rfl;have D0:=hid d0;clear b0 d0 z0;go_enter func64,ntmps64;go_wp2_with fail;refine(yc x.1 y W).mono ?_;rintro e w1 ⟨rfl,rfl⟩;go_wp2;go_ret;exact⟨rfl,D0.out⟩
def entD(es:List (ByteArray×Int×Value))(k:Nat):ByteArray×Int×Value:=es.getD k (⟨#[]⟩,0,.slice none 0 0)
theorem ml(es:List (ByteArray×Int×Value))(k:Nat)(h:k<es.length):es[k]=entD es k:=by
 unfold entD;rw[List.getD_eq_getElem?_getD,List.getElem?_eq_getElem h];rfl
theorem qo(es:List (ByteArray×Int×Value))(B n c:Nat)(a:Option Addr)(y:ByteArray)(w:World)(h:OwnE w B (.slice a es.length c) es)(hn:es.length=n)(hn2:n≤1000)(hmono: ∀i j,i≤j→j<n→cmpS (entD es j).1 y<0→cmpS (entD es i).1 y<0):
  Calls prog 63 #[.slice a n c,.string y,.func (.func 64) #[] #[]] w fun e w' => ∃p:Nat,p≤n∧(∀k,k<p→cmpS (entD es k).1 y<0)∧(∀k,p≤k→k<n→0≤cmpS (entD es k).1 y)∧e= .returned (.tuple #[.int .i64 p,.bool (decide (p<n∧cmpS (entD es p).1 y=0))])∧Below w.heap.size w w':=by
 have H:=hid h;obtain⟨cf,hcf⟩: ∃cf:Nat→Int,cf=fun k=>cmpS (entD es k).1 y:=⟨_,rfl⟩;have hcf2: ∀k,cmpS (entD es k).1 y=cf k:=fun k=>by rw[hcf]
 simp only[hcf2]at hmono⊢;have HM:=hid hmono;have CF:=hid hcf2;clear h hmono hcf hcf2;go_enter func63,ntmps63;go_wp2_with fail;go_loopw [9,10] (fun i j wz=> ∃lo hi:Nat,i= .int .i64 lo∧j= .int .i64 hi∧lo≤hi∧hi≤n∧(∀k,k<lo→cf k<0)∧(∀k,hi≤k→k<n→0≤cf k)∧Below w.heap.size w wz) (fun i j _=>(intOf j).toNat-(intOf i).toNat)
 case atStart=>exact⟨0,n,rfl,rfl,Nat.zero_le _,Nat.le_refl _,fun k hk=>absurd hk (Nat.not_lt_zero _),fun k h1 h2=>absurd h1 (Nat.not_le.2 h2),Below.refl _ _⟩
 case round=>
  obtain⟨lo,hi,rfl,rfl,h1,h2,h3,h4,hb⟩:=hrel;have H3:=hid h3;have H4:=hid h4;have HB:=hid hb;clear h3 h4 hb;by_cases hlt:lo<hi
  ·have i1:(lo:Int)<(hi:Int):=by omega
   obtain⟨M,hM⟩: ∃M,M=(lo+hi)/2:=⟨_,rfl⟩;have m1:wrap64 (max (((lo:Int)+(hi:Int)) %18446744073709551616) 0>>>1)=(M:Int):=by
    rw[Int.shiftRight_eq_div_pow,show max (((lo:Int)+(hi:Int)) %18446744073709551616) 0/(2^1:Nat)=(M:Int) by omega];simp only[wrap64];omega
   have m2:lo≤M∧M<hi:=by omega
   have m3:(M:Int)<(n:Int):=by omega
   have m4:(0:Int)≤(M:Int):=by omega
   obtain⟨g,rfl,hg1,hg2⟩: ∃g,a=some ⟨g,0,none⟩∧B≤g∧g<w.heap.size:=by
    obtain⟨a2,c2,e,h⟩:=H.out.form;cases e;exact h (by omega)
   have hget:=(H.out.below HB.out).get M (by omega);have hE:es[M]'(by omega)=entD es M:=ml _ _ _;rw[hE]at hget;obtain⟨E,hEe⟩: ∃E,E=entD es M:=⟨_,rfl⟩;rw[←hEe]at hget;have hcE:cmpS E.1 y=cf M:=by rw[hEe];exact CF.out M
   have HE:=hid hcE;clear hM hE hEe hcE;go_wp2_with fail;refine(kw E y wr).mono ?_;rintro e w1 ⟨rfl,d1⟩;rw[HE.out];have B1:=hid (HB.out.trans (d1.mono HB.out.size));clear hget d1;by_cases hcM:cf M<0
   ·obtain⟨N,hN⟩: ∃N,N=M+1:=⟨_,rfl⟩;have n1:(M:Int)+1=(N:Int):=by omega
    have n2:IntKind.i64.wrap (N:Int)=(N:Int):=by rw[IntKind.wrap_i64];omega
    have HN:=hid hN;clear hN;go_wp2;have hN:=HN.out;exact⟨⟨N,hi,rfl,rfl,by omega,h2,fun k hk=>HM.out k M (by omega) (by omega) hcM,H4.out,B1.out⟩,by simp[intOf];omega⟩
   ·go_wp2;exact⟨⟨lo,M,rfl,rfl,by omega,by omega,H3.out,fun k h5 h6=>by
     refine Decidable.byContradiction fun h7=> ?_;have h8:=HM.out M k h5 h6 (by omega);omega,B1.out⟩,by simp[intOf];omega⟩
  ·obtain rfl:lo=hi:=by omega
   have l0:(0:Int)≤(lo:Int):=by omega
   by_cases hln:lo<n
   ·have i2:(lo:Int)<(n:Int):=by omega
    obtain⟨g,rfl,hg1,hg2⟩: ∃g,a=some ⟨g,0,none⟩∧B≤g∧g<w.heap.size:=by
     obtain⟨a2,c2,e,h⟩:=H.out.form;cases e;exact h (by omega)
    have hget:=(H.out.below HB.out).get lo (by omega);have hE:es[lo]'(by omega)=entD es lo:=ml _ _ _;rw[hE]at hget;obtain⟨E,hEe⟩: ∃E,E=entD es lo:=⟨_,rfl⟩;rw[←hEe]at hget;have hcE:cmpS E.1 y=cf lo:=by rw[hEe];exact CF.out lo
    have HE:=hid hcE;clear hE hEe hcE;go_wp2_with fail;refine(kw E y wr).mono ?_;rintro e w1 ⟨rfl,d1⟩;rw[HE.out];have B1:=hid (HB.out.trans (d1.mono HB.out.size));clear hget d1;go_wp2;go_ret2;exact⟨lo,h2,H3.out,H4.out,by simp[hln];rfl,B1.out⟩
   ·have i2: ¬(lo:Int)<(n:Int):=by omega
    go_wp2;go_ret2;exact⟨lo,h2,H3.out,H4.out,by simp[hln],HB.out⟩
end Go.Proofs.YtlpkfdkhlffmlaaGreatDoor
