/-a region whose makers wait for one another in any way:walked by a predicate of what is done-/
import Derived.Test.YtddkbkbpogcffaaGreatDoorMGq
import Derived.Test.YtddkbkbpogcffaaGreatDoorMGn
import Derived.OrdersIn
import Derived.RangeFuncCalls
import Derived.TacticsInMore
import Derived.Test.YtddkbkbpogcffaaGreatDoorMHk
namespace Go.Proofs.YtddkbkbpogcffaaGreatDoor
set_option linter.unusedSimpArgs false
set_option linter.unusedVariables false
set_option maxRecDepth 100000
set_option maxHeartbeats 1600000
open Go.RowKit
section
variable {P:Program} {ops:Array Oper} {C:World→Prop} {dep:Nat→List Nat} {R:Act→World→Prop} {St:(Nat→Bool)→Act→World→Prop}
def wn(P:Program)(ops:Array Oper)(C:World→Prop)(dep:Nat→List Nat)(St:(Nat→Bool)→Act→World→Prop):List (Nat×Nat×Oper)→Prop
 | []=>True
 |p::r=>(∀d a w,(∀x∈dep p.1,d x=true)→St d a w→opH P ops C p.2.1 p.2.2 (St (fun i=>d i||i==p.1)) a w)∧wn P ops C dep St r
theorem sF: ∀(B:List (Nat×Nat×Oper)),wn P ops C dep St B→ ∀p∈B,∀d a w,(∀x∈dep p.1,d x=true)→St d a w→opH P ops C p.2.1 p.2.2 (St (fun i=>d i||i==p.1)) a w
 | [],_,p,hp=>by cases hp
 |q::r,h,p,hp=>by
  rcases List.mem_cons.1 hp with rfl|hp
  ·exact h.1
  ·exact sF r h.2 p hp
theorem pM(B0:List (Nat×Nat×Oper))(hs:wn P ops C dep St B0)(hdep: ∀p∈B0,∀x∈dep p.1,∃q∈B0,q.1=x)(hR: ∀d a w,(∀p∈B0,d p.1=true)→St d a w→R a w):
  ∀(n:Nat) (B:List (Nat×Nat×Oper)) (d:Nat→Bool),B.length=n→(B.map (·.1)).Nodup→(∀p∈B,p∈B0)→(∀p∈B0,p∈B∨d p.1=true)→ ∀a w,St d a w→fD P ops C dep R n B a w
 |0,B,d,hn,_,_,hrest,a,w,h=>by
  refine hR d a w (fun p hp=> ?_) h;rcases hrest p hp with h1|h1
  ·rw[List.length_eq_zero_iff]at hn;subst hn;cases h1
  ·exact h1
 |n+1,B,d,hn,hnd,hin,hrest,a,w,h=>by
  intro p hp hfree;have hd: ∀x∈dep p.1,d x=true:=by
   intro x hx;obtain⟨q,hq,rfl⟩:=hdep p (hin p hp) x hx;rcases hrest q hq with h1|h1
   ·have:=List.all_eq_true.1 hfree q h1;rw[Bool.not_eq_true',←Bool.not_eq_true]at this;exact absurd (by simpa using hx) this
   ·exact h1
  have hl:(B.filter fun q=>q.1 !=p.1).length=n:=by
   have h1:((B.map (·.1)).erase p.1).length=(B.map (·.1)).length-1:=List.length_erase_of_mem (List.mem_map_of_mem hp);rw[List.Nodup.erase_eq_filter hnd,List.filter_map]at h1;simp at h1;have:(B.filter fun q=>q.1 !=p.1).length=B.length-1:=h1;omega
  refine bx (fun a w h=>pM B0 hs hdep hR n _ _ hl ?_ (fun q hq=>hin q (List.mem_filter.1 hq).1) (fun q hq=> ?_) a w h) (sF B0 hs p (hin p hp) d a w hd h)
  ·exact List.Nodup.sublist ((List.filter_sublist).map _) hnd
  ·by_cases e:q.1=p.1
   ·exact .inr (by simp[e])
   ·rcases hrest q hq with h1|h1
    ·exact .inl (List.mem_filter.2 ⟨h1,by simpa using e⟩)
    ·exact .inr (by simp[h1])
theorem cG(B:List (Nat×Nat×Oper)) {a:Act} {w:World}(hs:wn P ops C dep St B)(hdep:(B.all fun p=>(dep p.1).all fun x=>(B.map (·.1)).contains x)=true)(hnd:(B.map (·.1)).Nodup)
  (hR: ∀d a w,(∀i∈B.map (·.1),d i=true)→St d a w→R a w) (h0:St (fun _=>false) a w):fD P ops C dep R B.length B a w:=by
 refine pM B hs (fun p hp x hx=> ?_) (fun d a w hall h=>hR d a w (fun i hi=> ?_) h) B.length B _ rfl hnd (fun _ h=>h) (fun _ h=> .inl h) a w h0
 ·have h1:=List.all_eq_true.1 (List.all_eq_true.1 hdep p hp) x hx;have h2:x∈B.map (·.1):=by simpa using h1
  obtain⟨q,hq,e⟩:=List.mem_map.1 h2;exact⟨q,hq,e⟩
 ·obtain⟨q,hq,rfl⟩:=List.mem_map.1 hi;exact hall q hq
end
open Go.RowKit
section
variable {P:Program}
theorem qe {id:Nat} {Q:Exit→Act→World→Prop} {a:Act} {w:World} {l:List Oper}(ks Jp B Jr:List Nat)(lp lr:List Oper)(ksp ksr:List Nat)(hkp:Jp.map (fun j=>ks.getD j 2)=ksp)(hkr:Jr.map (fun j=>ks.getD j 2)=ksr)(hm:P.follows .mixedOrders=true)(hok:iI l.toArray ks Jp B Jr=true)
  (hlp:lp.map some=Jp.map (fun j=>l[j]?)) (hlr:lr.map some=Jr.map (fun j=>l[j]?))
  (R:(World→Prop)→(Act→World→Prop)→Act→World→Prop) (hR: ∀(C:World→Prop) (K R':Act→World→Prop),(∀a w,wpCH P l.toArray C K ksr lr a w→R' a w)→ ∀a w,R C K a w→mL P l.toArray C (fun j=>ks.getD j 2) R' B.length B a w)
  (C:World→Prop) (hC: ∀w w',C w→ext w w'→C w') (hC0:C w.drew)
  (h: ∀K:Act→World→Prop,(∀a w,Q .normal a w→K a w)→
   wpH P l.toArray C (R C K) ksp lp a w.drew):
  (Code.region id l.toArray true).wp P Q a w:=by
 subst hkp hkr;unfold iI at hok;rw[je]at hok;simp only[ii,Bool.and_eq_true,decide_eq_true_eq,List.all_eq_true,List.mem_range,Bool.or_eq_true,Bool.not_eq_true',Bool.or_eq_false_iff,decide_eq_false_iff_not,beq_iff_eq,bne_iff_ne,ne_eq,Bool.not_eq_false',List.elem_eq_mem]at hok;obtain⟨⟨⟨⟨⟨⟨⟨⟨⟨⟨⟨hs,hlen⟩,hback⟩,hwp⟩,hwb⟩,hwr⟩,hsp⟩,hsr⟩,hnd⟩,hcov⟩,hin⟩,hpp,hpr⟩:=hok;refine wp_region_any hm ?_;have hw:=h _ (fun _ _ h=>h);clear h;obtain⟨kd,hkd⟩: ∃kd:Nat→Nat,kd=fun j=>ks.getD j 2:=⟨_,rfl⟩;have hkd': ∀j,ks.getD j 2=kd j:=fun j=>by rw[hkd]
 simp only[hkd']at hw hwp hwb hwr;simp only[hkd']at hR;have hperm:=hR C (Q .normal) (wpCT P l.toArray C kd (Q .normal) Jr) (fun a w h=>jC kd Jr _ lr a w rfl (by simpa using hlr) h);have ht:=cR (fun a w h=>hperm a w h) Jp a w.drew (gD kd Jp _ lp a w.drew rfl (by simpa using hlp) hw);have hbk: ∀i o,l.toArray[i]? =some o→ ∀e∈o.after.toList,Region.binds .any e=true→e.on<i:=by
  intro i o ho e he hb;have h1:=hback i (Array.getElem?_eq_some_iff.1 ho).1;rw[ho]at h1;have h2:=List.all_eq_true.1 h1 e he;simp only[Bool.or_eq_true,Bool.not_eq_true',decide_eq_true_eq]at h2;rcases h2 with h2|h2
  ·rw[hb]at h2;cases h2
  ·exact h2
 have hdis: ∀x,x∈B++Jr→ ¬x∈Jp:=fun x hx hj=>(List.nodup_append.1 hnd).2.2 x hj x hx rfl;refine lM (C:=C) hC (kd:=kd) hs (fun _ _ h=>h) hbk Jp B Jr hwp hwb hwr hdis (fun i x hi hx hc=> ?_)
  (fun i x hi hx=>(hpr i hi).1 x hx) (fun i x hx hi hlt=>((hpr i hi).2 x hx).resolve_left (fun h=>h hlt)) l.toArray.size Jp B Jr _ a _ ?_ (fun _ h=>h) (fun _ h=>h) (fun _ h=>h) hsp hsr hnd (by simp) (fun i=> ?_) (fun i o _ hl=> ?_) hC0 (by simpa using ht)
 ·have:=hpp i hi x hx;rcases this with h|h
  ·rcases hc with hc|hc
   ·exact absurd hc h.1
   ·exact absurd (by simpa using h.2) hc
  ·exact h
 ·have h1:(Jp++(B++Jr)).length≤(List.range l.toArray.size).length:=List.Nodup.length_le_of_subset hnd (fun x hx=>by simpa using hin x hx);have h2:(List.range l.toArray.size).length≤(Jp++(B++Jr)).length:=List.Nodup.length_le_of_subset List.nodup_range (fun x hx=>by simpa using hcov x (by simpa using hx));simp at h1 h2⊢;omega
 ·constructor
  ·intro hi;have:=hin i hi;exact⟨this,by simp at this;simp[this]⟩
  ·intro hi;simpa using hcov i hi.1
 ·exfalso;have hf:(Array.replicate l.toArray.size false).getD i false=false:=by
   by_cases hi:i<l.toArray.size
   ·simp at hi;simp[hi]
   ·simp at hi;simp[hi]
  rw[hf]at hl;cases hl
theorem aQ {id:Nat} {Q:Exit→Act→World→Prop} {a:Act} {w:World} {l:List Oper}(ks Jp:List Nat)(B:List (Nat×Nat×Oper))(dep:Nat→List Nat)(Jr:List Nat)(lp lr:List Oper)(ksp ksr:List Nat)(n:Nat)(hkp:Jp.map (fun j=>ks.getD j 2)=ksp)(hkr:Jr.map (fun j=>ks.getD j 2)=ksr)(hn:B.length=n)(hm:P.follows .mixedOrders=true)(hok:iI l.toArray ks Jp (B.map (·.1)) Jr=true)
  (hdep:(B.all fun p=>(dep p.1).all fun x=>((bA l []).getD p.1 0).testBit x)=true)
  (hlp:lp.map some=Jp.map (fun j=>l[j]?)) (hlr:lr.map some=Jr.map (fun j=>l[j]?)) (hB:B.map (fun p=>(p.2.1,some p.2.2))=B.map (fun p=>(ks.getD p.1 2,l[p.1]?)))
  (C:World→Prop) (hC: ∀w w',C w→ext w w'→C w') (hC0:C w.drew)
  (h: ∀K:Act→World→Prop,(∀a w,Q .normal a w→K a w)→
   wpH P l.toArray C (fD P l.toArray C dep (wpCH P l.toArray C K ksr lr) n B) ksp lp a w.drew):
  (Code.region id l.toArray true).wp P Q a w:=by
 subst hn;have hnd:(B.map (·.1)).Nodup:=by
  unfold iI at hok;simp only[Bool.and_eq_true,decide_eq_true_eq]at hok;exact(List.nodup_append.1 (List.nodup_append.1 hok.1.1.1.2).2.1).1
 refine qe ks Jp (B.map (·.1)) Jr lp lr ksp ksr hkp hkr hm hok hlp hlr (fun C K=>fD P l.toArray C dep (wpCH P l.toArray C K ksr lr) B.length B) (fun C K R' hR' a w hp=> ?_) C hC hC0 h;rw[List.length_map];refine gj (kd:=fun j=>ks.getD j 2) (dep:=dep) hR' B.length B rfl hnd (fun p hp=> ?_) (fun p hp x hx=> ?_) a w hp
 ·have:=List.map_inj_left.1 hB p hp;simp only[Prod.mk.injEq]at this;exact⟨this.1,by rw[List.getElem?_toArray];exact this.2.symm⟩
 ·simp only[List.all_eq_true]at hdep;exact hdep p hp x hx
end
open Go.RowKit
section
variable {P:Program} {ops:Array Oper} {C:World→Prop} {r n:Nat} {Q:Exit→Act→World→Prop}
theorem Il {o:Oper} {a:Act} {w:World} {K:Act→World→Prop}(hd: ∀c,o.op≠ .defer c)(h:o.wp P a w K Q):o.wpIn (Fence.wide.inRound r) n P a w K Q:=by
 refine⟨fun _ _=>trivial,?_⟩;rw[show(Fence.wide.inRound r).round=some r from rfl,Oper.semAt_some r _ _ hd];unfold Oper.wp at h;generalize (execOp a.eval o).run P w=res at*;cases res with
 |ok x w' =>
  cases x
  case enter f args=>exact⟨fun h=>by simp[Fence.inRound,Fence.wide]at h,(CallsIn.inRound r (callsIn_wide.2 h):CallsIn (Fence.wide.inRound r) (n-1) P f args w' _)⟩
  case row row args=>exact⟨fun h=>by simp[Fence.inRound,Fence.wide]at h,fun c cs _=>by
    obtain⟨v,w',h1,h2⟩:=h c cs;exact⟨v,w',h1,stepsIn_wide.2 h2⟩⟩
  all_goals first|exact h|exact h.elim
 |halt x w' =>cases x<;>exact h
theorem Im {i:Nat} {a:Act} {w:World} {K:Act→World→Prop}(hd: ∀(i:Nat) (o:Oper),ops[i]? =some o→ ∀c,o.op≠ .defer c)(hq: ¬LetsOut Q)(h:wpOp P ops Q i K a w):wpOpIn (Fence.wide.inRound r) n P ops Q i K a w:=by
 unfold wpOp at h;unfold wpOpIn;cases ho:ops[i]? with
 |none=>simpa[ho]using h
 |some o=>
  simp only[ho]at h⊢
  split
  ·rename_i hw;rw[if_pos hw]at h;rcases h with h|h
   ·exact Il (hd i o ho) h
   ·exact absurd h.2 hq
  ·rename_i hw;rw[if_neg hw]at h;exact⟨fun _ _=>trivial,h⟩
theorem sG {md:Region.Mode}(hd: ∀(i:Nat) (o:Oper),ops[i]? =some o→ ∀c,o.op≠ .defer c)(hq: ¬LetsOut Q): ∀(fuel:Nat) (listed:Array Bool) (a:Act) (w:World),wpAny P md ops Q fuel listed a w→wpAnyIn (Fence.wide.inRound r) n P md ops Q fuel listed a w
 |0,_,_,_,h=>h
 |fuel+1,_,_,_,h=>⟨h.1,fun i hi=>wpOpIn_mono (fun a w h=>sG hd hq fuel _ a w h) (Im hd hq (h.2 i hi))⟩
theorem Io {l:List Oper}(h:(l.all fun o=>match o.op with| .defer _=>false|_=>true)=true): ∀(i:Nat) (o:Oper),l.toArray[i]? =some o→ ∀c,o.op≠ .defer c:=by
 intro i o ho c e;have hm:o∈l:=by rw[List.getElem?_toArray]at ho;exact List.mem_of_getElem? ho
 have:=List.all_eq_true.1 h o hm;rw[e]at this;cases this
theorem ng {id r n:Nat} {Q:Exit→Act→World→Prop} {a:Act} {w:World} {l:List Oper}(ks:List Nat)(hdf:(l.all fun o=>match o.op with| .defer _=>false|_=>true)=true)(hq: ¬LetsOut Q)(hm:P.follows .mixedOrders=true)(hok:nS l.toArray ks=true)(hC: ∀w w',C w→ext w w'→C w')(hw0:C w.drew)
  (h:wpH P l.toArray C (Q .normal) ks l a w.drew):(Code.region id l.toArray true).wpIn (Fence.wide.inRound r) n P Q a w:=by
 unfold nS at hok;simp only[Bool.and_eq_true,decide_eq_true_eq,List.all_eq_true,List.mem_range]at hok;obtain⟨⟨⟨hs,hlen⟩,hback⟩,hpair⟩:=hok;refine wpIn_region_any hm (sG (Io hdf) hq _ _ _ _ ?_);have ht:=kz (P:=P) (ops:=l.toArray) (K:=Q .normal) (fun j=>ks.getD j 2) ks l 0 a w.drew (by simpa using hlen) (by simp) (fun j _=>by simp) h;refine lH hC (fun _=>True) (kd:=fun j=>ks.getD j 2) hs (fun _ _ h=>h) (fun i o ho e he hb=> ?_) (fun i x hi hx hwx=> ?_) (fun i x hi _ _ hx=> ?_) l.toArray.size (List.range' 0 l.length) _ a _ (by simp) (fun _ _=>trivial) List.pairwise_lt_range' (by simp) (fun i=> ?_) (fun i o _ hl=> ?_) (.inl hw0) ht
 ·have h1:=hback i (Array.getElem?_eq_some_iff.1 ho).1;rw[ho]at h1;have h2:=List.all_eq_true.1 h1 e he;simp only[Bool.or_eq_true,Bool.not_eq_true',decide_eq_true_eq]at h2;rcases h2 with h2|h2
  ·rw[hb]at h2;cases h2
  ·exact h2
 ·have:=(hpair i hi x hx).1;rw[Bool.or_eq_true,Bool.not_eq_true']at this;rcases this with h|h
  ·rw[hwx]at h;cases h
  ·exact h
 ·have:=(hpair i hi x hx).2;simpa only[Bool.or_eq_true]using this
 ·simp only[List.mem_range'_1,Nat.zero_le,true_and,Nat.zero_add,List.size_toArray];constructor
  ·intro hi;exact⟨hi,by simp[hi]⟩
  ·exact fun h=>h.1
 ·exfalso;have hf:(Array.replicate l.toArray.size false).getD i false=false:=by
   by_cases hi:i<l.toArray.size
   ·simp at hi;simp[hi]
   ·simp at hi;simp[hi]
  rw[hf]at hl;cases hl
end
section
variable {P:Program}
theorem oC {id r n:Nat} {Q:Exit→Act→World→Prop} {a:Act} {w:World} {l:List Oper}(ks:List Nat)(hdf:(l.all fun o=>match o.op with| .defer _=>false|_=>true)=true)(hq: ¬LetsOut Q)(hm:P.follows .mixedOrders=true)(hok:qo l.toArray ks=true)
  (h: ∀C:World→Prop,C w.drew→(∀w1,C w1→Below w.drew.heap.size w.drew w1)→ ∀K:Act→World→Prop,(∀a w,Q .normal a w→K a w)→wpH P l.toArray C K ks l a w.drew):
  (Code.region id l.toArray true).wpIn (Fence.wide.inRound r) n P Q a w:=
 ng (C:=ext w.drew) ks hdf hq hm (by rw[←qZ];exact hok) (fun _ _ h k=>lc h k) (fW _) (h _ (fW _) (fun _ h=>h) _ (fun _ _ h=>h))
end
open Go.RowKit
section
variable {P:Program} {ops:Array Oper} {C:World→Prop}
def mt(P:Program)(ops:Array Oper)(C:World→Prop)(kd:Nat→Nat)(R:Act→World→Prop):Nat→List Nat→Act→World→Prop
 |0,_,a,w=>R a w
 |n+1,B,a,w=> ∀i∈B,(∀x∈B,((bA ops.toList []).getD i 0).testBit x=false)→ ∀o,ops[i]? =some o→opH P ops C (kd i) o (fun a w=>C w∧mt P ops C kd R n (B.erase i) a w) a w
def wpCL(P:Program)(ops:Array Oper)(C:World→Prop)(kd:Nat→Nat)(K:Act→World→Prop):List Nat→Act→World→Prop
 | [],a,w=>K a w
 |i::r,a,w=> ∀o,ops[i]? =some o→opH P ops C (kd i) o (fun a w=>(r=[]∨C w)∧wpCL P ops C kd K r a w) a w
theorem sH(hC: ∀w w',C w→ext w w'→C w') {kd:Nat→Nat} {K:Act→World→Prop} {Q:Exit→Act→World→Prop}(hs:Region.noSelect ops=true)(hQ: ∀a w,K a w→Q .normal a w)
  (hback: ∀i o,ops[i]? =some o→ ∀e∈o.after.toList,Region.binds .any e=true→e.on<i)
  (Jp0 B0 Jr0:List Nat) (hwp: ∀x∈Jp0,kd x=0∨kd x=5) (hwb: ∀x∈B0,¬kd x=5) (hwr: ∀x∈Jr0,¬kd x=5) (hdis: ∀x,x∈B0++Jr0→ ¬x∈Jp0)
  (hpp: ∀i x,i∈Jp0++(B0++Jr0)→x∈Jp0→x<i∨ ¬i∈Jp0→((bA ops.toList []).getD i 0).testBit x=true∨ga ops x i=true)
  (hrr: ∀i x,i∈Jr0→x∈B0→((bA ops.toList []).getD i 0).testBit x=true)
  (hpr: ∀i x,x∈Jr0→i∈Jr0→x<i→((bA ops.toList []).getD i 0).testBit x=true)
  (hlast: ∀i x,Jr0.getLast? =some i→x∈Jp0→((bA ops.toList []).getD i 0).testBit x=true):
  ∀(m:Nat) (Jp B Jr:List Nat) (listed:Array Bool) (a:Act) (w:World),Jp.length+B.length+Jr.length=m→(∀i∈Jp,i∈Jp0)→(∀i∈B,i∈B0)→Jr<:+Jr0→Jp.Pairwise (· < ·)→Jr.Pairwise (· < ·)→(Jp++(B++Jr)).Nodup→listed.size=ops.size→
   (∀i,i∈Jp++(B++Jr)↔i<ops.size∧listed.getD i true=false)→
   (∀i o,ops[i]? =some o→listed.getD i false=true→ ∀e∈o.after.toList,Region.binds .any e=true→listed.getD e.on false=true)→
   (m=0∨C w)→wpHT P ops C kd (mt P ops C kd (wpCL P ops C kd K Jr) B.length B) Jp a w→wpAny P .any ops Q m listed a w:=by
 intro m
 induction m with
 |zero=>
  intro Jp B Jr listed a w hm _ _ _ _ _ _ hsz hmem hcl hw h;have e1:Jp=[]:=List.eq_nil_of_length_eq_zero (by omega);have e2:B=[]:=List.eq_nil_of_length_eq_zero (by omega);have e3:Jr=[]:=List.eq_nil_of_length_eq_zero (by omega);subst e1 e2 e3;refine⟨?_,hQ _ _ (by simpa[wpHT,mt,wpCL]using h)⟩;apply List.eq_nil_iff_forall_not_mem.2;intro i hi;obtain⟨h0,o,ho,_⟩:=mem_ready.1 hi;have:=(hmem i).2 ⟨(Array.getElem?_eq_some_iff.1 ho).1,h0⟩;cases this
 |succ m ih=>
  intro Jp B Jr listed a w hm hJ hB hRs hsort hsortr hnd hsz hmem hcl hw0 h;have hw:C w:=hw0.resolve_left (by omega);have hR: ∀i∈Jr,i∈Jr0:=fun i hi=>hRs.subset hi;have hall: ∀j∈Jp++(B++Jr),j<ops.size:=fun j hj=>((hmem j).1 hj).1;have hJk: ∀x∈Jp,kd x=0∨kd x=5:=fun x hx=>hwp x (hJ x hx);refine⟨fun hr=> ?_,fun i hi=> ?_⟩
  ·exfalso;have: ∃j,j∈Jp++(B++Jr):=by
    cases Jp with
    |cons j _=>exact⟨j,by simp⟩
    |nil=>
     cases B with
     |cons j _=>exact⟨j,by simp⟩
     |nil=>
      cases Jr with
      |cons j _=>exact⟨j,by simp⟩
      |nil=>simp at hm
   obtain⟨j,hj⟩:=this;obtain⟨h1,h2⟩:=(hmem j).1 hj;exact rb hback hsz j h1 h2 hr
  ·obtain⟨hun,o,ho,hedges⟩:=mem_ready.1 hi;have hilt:=(Array.getElem?_eq_some_iff.1 ho).1;have hiL:=(hmem i).2 ⟨hilt,hun⟩;have hnb: ∀x,listed.getD x true=false→x<ops.size→((bA ops.toList []).getD i 0).testBit x≠true:=by
    intro x hxun hxs hb;have hx:=dA (ops:=ops) (listed:=listed) hcl ops.toList [] (by simp) (fun i o hi=>by simp at hi) i o (by rw[dB];simpa using hilt) ho (fun e he hb=>hedges e (by simpa using he) hb) x hb;have hxs:x<listed.size:=by omega
    simp[hxs]at hx hxun;rw[hx]at hxun;cases hxun
   have free: ∀x∈Jp++(B++Jr),((bA ops.toList []).getD i 0).testBit x≠true:=fun x hx=>hnb x ((hmem x).1 hx).2 ((hmem x).1 hx).1;have go: ∀(wb:ig (kd i)=false) {R:Act→World→Prop},opH P ops C (kd i) o R a w→(∀a' w',C w'→R a' w'→wpAny P .any ops Q m (listed.setIfInBounds i true) a' w')→wpOp P ops Q i (wpAny P .any ops Q m (listed.setIfInBounds i true)) a w:=by
    intro wb R h1 h2;exact wpOp_mono (fun a' w' hh=>h2 a' w' (hh.1 hw wb) hh.2) (jd hC ho (fun _=>hw) h1)
   rcases List.mem_append.1 hiL with hiJ|hiR
   ·obtain⟨L1,L2,rfl⟩:=List.append_of_mem hiJ;have hx1: ∀x∈L1,x<ops.size∧ga ops x i=true∧(kd x=0∨kd x=5):=by
     intro x hx;have hxi:x<i:=(List.pairwise_append.1 hsort).2.2 x hx i (by simp);exact⟨hall x (by simp[hx]),(hpp i x (List.mem_append_left _ (hJ i (by simp))) (hJ x (by simp[hx])) (.inl hxi)).resolve_left (free x (by simp[hx])),hJk x (by simp[hx])⟩
    have h1:=(dG L1 (i::L2) a w).1 h;have h2:=ik hs ho L1 hx1 a w (cR (fun a w h=>by simpa only[wpHT,ho]using h) L1 a w h1);refine go (by rcases hJk i (by simp)with e|e<;>rw[e]<;>rfl) h2 fun a' w' hc' h' => ?_;have e2:L1++L2++(B++Jr)=L1++(L2++(B++Jr)):=by simp
    have e1:L1++i::L2++(B++Jr)=L1++i::(L2++(B++Jr)):=by simp
    rw[e1]at hnd hmem;refine ih (L1++L2) B Jr _ a' w' (by simp at hm⊢;omega) (fun x hx=>hJ x (by simp at hx⊢;rcases hx with hx|hx<;>simp[hx])) hB hRs (List.Pairwise.sublist (List.Sublist.append (List.Sublist.refl _) (List.sublist_cons_self _ _)) hsort) hsortr ?_ (by simpa using hsz) (fun j=> ?_) (eu hcl ho hedges) (.inr hc') ((dG L1 L2 a' w').2 h')
    ·rw[e2];exact List.Nodup.sublist (List.Sublist.append (List.Sublist.refl _) (List.sublist_cons_self _ _)) hnd
    ·rw[e2];exact jf hnd hsz hilt hmem j
   ·have hinJ: ¬i∈Jp:=fun hm1=>(List.nodup_append.1 hnd).2.2 i hm1 i hiR rfl;rcases List.mem_append.1 hiR with hiB|hiRr
    ·obtain⟨B1,B2,hBe⟩:=List.append_of_mem hiB;have hBn:B.Nodup:=(List.nodup_append.1 (List.nodup_append.1 hnd).2.1).1;have hni:i∉B1:=by
      intro hm1;rw[hBe,List.nodup_append]at hBn;exact hBn.2.2 i hm1 i (by simp) rfl
     have her:B.erase i=B1++B2:=by
      rw[hBe,List.erase_append_right _ hni,List.erase_cons_head]
     obtain⟨n,hn⟩: ∃n,B.length=n+1:=⟨B.length-1,by rw[hBe];simp;omega⟩;have hx1: ∀x∈Jp,x<ops.size∧ga ops x i=true∧(kd x=0∨kd x=5):=by
      intro x hx;have hij:=hdis i (List.mem_append_left _ (hB i hiB));exact⟨hall x (by simp[hx]),(hpp i x (List.mem_append_right _ (List.mem_append_left _ (hB i hiB))) (hJ x hx) (.inr hij)).resolve_left (free x (by simp[hx])),hJk x hx⟩
     have h1:wpHT P ops C kd (opH P ops C (kd i) o (fun a w=>C w∧mt P ops C kd (wpCL P ops C kd K Jr) n (B.erase i) a w)) Jp a w:=by
      refine cR (fun a w h=> ?_) Jp a w h;rw[hn]at h;exact h i hiB (fun x hx=>by have:=free x (by simp[hx]);simpa using this) o ho
     have h2:=ik hs ho Jp hx1 a w h1;refine wpOp_mono (fun a' w' hh=> ?_) (jd hC ho (fun e=>absurd e (hwb i (hB i hiB))) h2);obtain⟨hc',h'⟩:=im Jp hJk a' w' hh.2;have e1:Jp++(B++Jr)=(Jp++B1)++i::(B2++Jr):=by rw[hBe];simp
     have e2:Jp++(B1++B2++Jr)=(Jp++B1)++(B2++Jr):=by simp
     rw[e1]at hnd hmem;have hlen:(B1++B2).length=n:=by rw[hBe]at hn;simp at hn⊢;omega
     refine ih Jp (B1++B2) Jr _ a' w' (by rw[hlen];omega) hJ (fun x hx=>hB x (by rw[hBe];simp at hx⊢;rcases hx with hx|hx<;>simp[hx])) hRs hsort hsortr ?_ (by simpa using hsz) (fun j=> ?_) (eu hcl ho hedges) (.inr hc') (by rw[hlen,←her];exact h')
     ·rw[e2];exact List.Nodup.sublist (List.Sublist.append (List.Sublist.refl _) (List.sublist_cons_self _ _)) hnd
     ·rw[e2];exact jf hnd hsz hilt hmem j
    ·have hB0:B=[]:=by
      cases B with
      |nil=>rfl
      |cons b _=>exact absurd (hrr i b (hR i hiRr) (hB b (by simp))) (free b (by simp))
     subst hB0;obtain⟨r,Jr',rfl⟩: ∃r Jr',Jr=r::Jr':=by
      cases Jr with
      |nil=>cases hiRr
      |cons r Jr' =>exact⟨r,Jr',rfl⟩
     have hir:i=r:=by
      rcases List.mem_cons.1 hiRr with e|e
      ·exact e
      ·have hlt:=(List.pairwise_cons.1 hsortr).1 i e;exact absurd (hpr i r (hR r (by simp)) (hR i (by simp[e])) hlt) (free r (by simp))
     subst hir;have hx1: ∀x∈Jp,x<ops.size∧ga ops x i=true∧(kd x=0∨kd x=5):=by
      intro x hx;have hij:=hdis i (List.mem_append_right _ (hR i (by simp)));exact⟨hall x (by simp[hx]),(hpp i x (List.mem_append_right _ (List.mem_append_right _ (hR i (by simp)))) (hJ x hx) (.inr hij)).resolve_left (free x (by simp[hx])),hJk x hx⟩
     have h1:wpHT P ops C kd (opH P ops C (kd i) o (fun a w=>(Jr' =[]∨C w)∧wpCL P ops C kd K Jr' a w)) Jp a w:=by
      refine cR (fun a w h=> ?_) Jp a w h;exact h o ho
     have h2:=ik hs ho Jp hx1 a w h1;refine wpOp_mono (fun a' w' hh=> ?_) (jd hC ho (fun e=>absurd e (hwr i (hR i (by simp)))) h2);have hfin:Jr' =[]→Jp=[]:=by
      intro e;subst e;have hl:Jr0.getLast? =some i:=by
       obtain⟨t,ht⟩:=hRs;rw[←ht];simp
      cases hJp:Jp with
      |nil=>rfl
      |cons x r=>
       have hxJ:x∈Jp:=by rw[hJp];simp
       exact absurd (hlast i x hl (hJ x hxJ)) (free x (by simp[hxJ]))
     have hcl':(Jr' =[]∨C w')∧wpHT P ops C kd (wpCL P ops C kd K Jr') Jp a' w':=by
      by_cases e:Jr' =[]
      ·have eJ:=hfin e;have h3:=hh.2;rw[eJ]at h3⊢;have h4:(Jr' =[]∨C w')∧wpCL P ops C kd K Jr' a' w':=by simpa[wpHT]using h3
       exact⟨.inl e,by simpa[wpHT]using h4.2⟩
      ·have h3:wpHT P ops C kd (fun a w=>C w∧wpCL P ops C kd K Jr' a w) Jp a' w':=cR (fun a w h=>⟨h.1.resolve_left e,h.2⟩) Jp a' w' hh.2;obtain⟨hc',h'⟩:=im Jp hJk a' w' h3;exact⟨.inr hc',h'⟩
     obtain⟨hc',h'⟩:=hcl';have e1:Jp++([]++i::Jr')=Jp++i::Jr':=by simp
     rw[e1]at hnd hmem;refine ih Jp [] Jr' _ a' w' (by simp at hm⊢;omega) hJ hB (List.IsSuffix.trans (List.suffix_cons i Jr') hRs) hsort (List.pairwise_cons.1 hsortr).2 ?_ (by simpa using hsz) (fun j=> ?_) (eu hcl ho hedges) (hc'.imp (fun e=>by have:=hfin e;subst e;rw[this]at hm;simp at hm;omega) id) (by simpa[mt]using h')
     ·exact List.Nodup.sublist (List.Sublist.append (List.Sublist.refl _) (List.sublist_cons_self _ _)) hnd
     ·exact jf hnd hsz hilt hmem j
def qv(ops:Array Oper)(ks:List Nat)(Jp B Jr:List Nat):Bool:=
 Region.noSelect ops&&decide (ks.length=ops.size)&&
 (List.range ops.size).all (fun i=>match ops[i]? with|some o=>o.after.toList.all fun e=> !Region.binds .any e||decide (e.on<i)|none=>true)&&
 Jp.all (fun x=>ks.getD x 2==0||ks.getD x 2==5)&&B.all (fun x=>ks.getD x 2 !=5)&&Jr.all (fun x=>ks.getD x 2 !=5)&&decide (Jp.Pairwise (· < ·))&&decide (Jr.Pairwise (· < ·))&&decide ((Jp++(B++Jr)).Nodup)&&
 (List.range ops.size).all (fun i=>(Jp++(B++Jr)).contains i)&&(Jp++(B++Jr)).all (fun i=>decide (i<ops.size))&&
 ra ops.toList [] fun ms=>
  (Jp++(B++Jr)).all (fun i=>lK (ms.getD i 0) fun m=>Jp.all fun x=> !(decide (x<i)|| !Jp.contains i)||(m.testBit x||ga ops x i))&&
  Jr.all (fun i=>lK (ms.getD i 0) fun m=>B.all (fun x=>m.testBit x)&&Jr.all fun x=> !decide (x<i)||m.testBit x)&&
  (match Jr.getLast? with|none=>true|some i=>lK (ms.getD i 0) fun m=>Jp.all fun x=>m.testBit x)
end
section
variable {P:Program}
def kf(P:Program)(ops:Array Oper)(C:World→Prop)(K:Act→World→Prop):List Nat→List Oper→Act→World→Prop
 |k::ks,o::l,a,w=>opH P ops C k o (fun a w=>(l=[]∨C w)∧kf P ops C K ks l a w) a w
 |_,_,a,w=>K a w
theorem ni {ops:Array Oper} {C:World→Prop}(kd:Nat→Nat) {K:Act→World→Prop}: ∀(J ks:List Nat) (l:List Oper) (a:Act) (w:World),ks=J.map kd→l.map some=J.map (fun j=>ops[j]?)→kf P ops C K ks l a w→wpCL P ops C kd K J a w
 | [],ks,l,a,w,hk,hl,h=>by
  subst hk;have:l=[]:=by simpa using hl
  subst this;simpa[wpCL,kf]using h
 |i::J,ks,l,a,w,hk,hl,h=>by
  subst hk;cases l with
  |nil=>simp at hl
  |cons o l=>
   simp only[List.map_cons,List.cons.injEq]at hl;simp only[List.map_cons,kf]at h;simp only[wpCL];intro o' ho';have e:o' =o:=Option.some.inj (ho'.symm.trans hl.1.symm);subst e;exact bx (fun a w h=>⟨h.1.imp (fun e=>by rw[e]at hl;simpa using hl.2.symm) id,ni kd J (J.map kd) l a w rfl hl.2 h.2⟩) h
theorem qf {id:Nat} {Q:Exit→Act→World→Prop} {a:Act} {w:World} {l:List Oper}(ks Jp B Jr:List Nat)(lp lr:List Oper)(ksp ksr:List Nat)(hkp:Jp.map (fun j=>ks.getD j 2)=ksp)(hkr:Jr.map (fun j=>ks.getD j 2)=ksr)(hm:P.follows .mixedOrders=true)(hok:qv l.toArray ks Jp B Jr=true)
  (hlp:lp.map some=Jp.map (fun j=>l[j]?)) (hlr:lr.map some=Jr.map (fun j=>l[j]?))
  (R:(World→Prop)→(Act→World→Prop)→Act→World→Prop) (hR: ∀(C:World→Prop) (K R':Act→World→Prop),(∀a w,kf P l.toArray C K ksr lr a w→R' a w)→ ∀a w,R C K a w→mt P l.toArray C (fun j=>ks.getD j 2) R' B.length B a w)
  (C:World→Prop) (hC: ∀w w',C w→ext w w'→C w') (hC0:C w.drew)
  (h: ∀K:Act→World→Prop,(∀a w,Q .normal a w→K a w)→
   wpH P l.toArray C (R C K) ksp lp a w.drew):
  (Code.region id l.toArray true).wp P Q a w:=by
 subst hkp hkr;unfold qv at hok;rw[je]at hok;simp only[ii,Bool.and_eq_true,decide_eq_true_eq,List.all_eq_true,List.mem_range,Bool.or_eq_true,Bool.not_eq_true',Bool.or_eq_false_iff,decide_eq_false_iff_not,beq_iff_eq,bne_iff_ne,ne_eq,Bool.not_eq_false',List.elem_eq_mem]at hok;obtain⟨⟨⟨⟨⟨⟨⟨⟨⟨⟨⟨hs,hlen⟩,hback⟩,hwp⟩,hwb⟩,hwr⟩,hsp⟩,hsr⟩,hnd⟩,hcov⟩,hin⟩,⟨hpp,hpr⟩,hlst⟩:=hok;refine wp_region_any hm ?_;have hw:=h _ (fun _ _ h=>h);clear h;obtain⟨kd,hkd⟩: ∃kd:Nat→Nat,kd=fun j=>ks.getD j 2:=⟨_,rfl⟩;have hkd': ∀j,ks.getD j 2=kd j:=fun j=>by rw[hkd]
 simp only[hkd']at hw hwp hwb hwr;simp only[hkd']at hR;have hperm:=hR C (Q .normal) (wpCL P l.toArray C kd (Q .normal) Jr) (fun a w h=>ni kd Jr _ lr a w rfl (by simpa using hlr) h);have ht:=cR (fun a w h=>hperm a w h) Jp a w.drew (gD kd Jp _ lp a w.drew rfl (by simpa using hlp) hw);have hbk: ∀i o,l.toArray[i]? =some o→ ∀e∈o.after.toList,Region.binds .any e=true→e.on<i:=by
  intro i o ho e he hb;have h1:=hback i (Array.getElem?_eq_some_iff.1 ho).1;rw[ho]at h1;have h2:=List.all_eq_true.1 h1 e he;simp only[Bool.or_eq_true,Bool.not_eq_true',decide_eq_true_eq]at h2;rcases h2 with h2|h2
  ·rw[hb]at h2;cases h2
  ·exact h2
 have hdis: ∀x,x∈B++Jr→ ¬x∈Jp:=fun x hx hj=>(List.nodup_append.1 hnd).2.2 x hj x hx rfl;refine sH (C:=C) hC (kd:=kd) hs (fun _ _ h=>h) hbk Jp B Jr hwp hwb hwr hdis (fun i x hi hx hc=> ?_)
  (fun i x hi hx=>(hpr i hi).1 x hx) (fun i x hx hi hlt=>((hpr i hi).2 x hx).resolve_left (fun h=>h hlt)) (fun i x hi hx=>by rw[hi]at hlst;simpa using List.all_eq_true.1 hlst x hx) l.toArray.size Jp B Jr _ a _ ?_ (fun _ h=>h) (fun _ h=>h) (List.suffix_refl _) hsp hsr hnd (by simp) (fun i=> ?_) (fun i o _ hl=> ?_) (.inr hC0) (by simpa using ht)
 ·have:=hpp i hi x hx;rcases this with h|h
  ·rcases hc with hc|hc
   ·exact absurd hc h.1
   ·exact absurd (by simpa using h.2) hc
  ·exact h
 ·have h1:(Jp++(B++Jr)).length≤(List.range l.toArray.size).length:=List.Nodup.length_le_of_subset hnd (fun x hx=>by simpa using hin x hx);have h2:(List.range l.toArray.size).length≤(Jp++(B++Jr)).length:=List.Nodup.length_le_of_subset List.nodup_range (fun x hx=>by simpa using hcov x (by simpa using hx));simp at h1 h2⊢;omega
 ·constructor
  ·intro hi;have:=hin i hi;exact⟨this,by simp at this;simp[this]⟩
  ·intro hi;simpa using hcov i hi.1
 ·exfalso;have hf:(Array.replicate l.toArray.size false).getD i false=false:=by
   by_cases hi:i<l.toArray.size
   ·simp at hi;simp[hi]
   ·simp at hi;simp[hi]
  rw[hf]at hl;cases hl
def ln(P:Program)(ops:Array Oper)(C:World→Prop)(dep:Nat→List Nat)(R:Act→World→Prop):Nat→List (Nat×Nat×Oper)→Act→World→Prop
 |0,_,a,w=>R a w
 |n+1,B,a,w=> ∀p∈B,(B.all fun q=> !(dep p.1).contains q.1)=true→opH P ops C p.2.1 p.2.2 (fun a w=>C w∧ln P ops C dep R n (B.filter fun q=>q.1 !=p.1) a w) a w
theorem iL {ops:Array Oper} {C:World→Prop} {kd:Nat→Nat} {dep:Nat→List Nat} {R R':Act→World→Prop}(hR: ∀a w,R a w→R' a w): ∀(n:Nat) (B:List (Nat×Nat×Oper)),B.length=n→(B.map (·.1)).Nodup→(∀p∈B,p.2.1=kd p.1∧ops[p.1]? =some p.2.2)→(∀p∈B,∀x∈dep p.1,((bA ops.toList []).getD p.1 0).testBit x=true)→ ∀(a:Act) (w:World),ln P ops C dep R n B a w→mt P ops C kd R' n (B.map (·.1)) a w
 |0,_,_,_,_,_,a,w,h=>hR a w h
 |n+1,B,hn,hnd,hB,hd,a,w,h=>by
  intro i hi hfree o ho;obtain⟨p,hp,rfl⟩:=List.mem_map.1 hi;obtain⟨hk,hop⟩:=hB p hp;have hoo:o=p.2.2:=Option.some.inj (ho.symm.trans hop);subst hoo;have e:(B.map (·.1)).erase p.1=(B.filter fun q=>q.1 !=p.1).map (·.1):=by
   rw[List.Nodup.erase_eq_filter hnd,List.filter_map];rfl
  rw[←hk,e];have hl:(B.filter fun q=>q.1 !=p.1).length=n:=by
   have h1:((B.map (·.1)).erase p.1).length=(B.map (·.1)).length-1:=List.length_erase_of_mem hi;rw[e]at h1;simp at h1;omega
  have hgo:(B.all fun q=> !(dep p.1).contains q.1)=true:=by
   rw[List.all_eq_true];intro q hq;rw[Bool.not_eq_true',←Bool.not_eq_true];intro hc;have h1:=hd p hp q.1 (by simpa using hc);have h2:=hfree q.1 (List.mem_map_of_mem hq);rw[h1]at h2;cases h2
  refine bx (fun a w h=>⟨h.1,iL hR n _ hl ?_ (fun q hq=>hB q (List.mem_filter.1 hq).1) (fun q hq=>hd q (List.mem_filter.1 hq).1) a w h.2⟩) (h p hp hgo);exact List.Nodup.sublist ((List.filter_sublist).map _) hnd
theorem ce {id:Nat} {Q:Exit→Act→World→Prop} {a:Act} {w:World} {l:List Oper}(ks Jp:List Nat)(B:List (Nat×Nat×Oper))(dep:Nat→List Nat)(Jr:List Nat)(lp lr:List Oper)(ksp ksr:List Nat)(n:Nat)(hkp:Jp.map (fun j=>ks.getD j 2)=ksp)(hkr:Jr.map (fun j=>ks.getD j 2)=ksr)(hn:B.length=n)(hm:P.follows .mixedOrders=true)(hok:qv l.toArray ks Jp (B.map (·.1)) Jr=true)
  (hdep:(B.all fun p=>(dep p.1).all fun x=>((bA l []).getD p.1 0).testBit x)=true)
  (hlp:lp.map some=Jp.map (fun j=>l[j]?)) (hlr:lr.map some=Jr.map (fun j=>l[j]?)) (hB:B.map (fun p=>(p.2.1,some p.2.2))=B.map (fun p=>(ks.getD p.1 2,l[p.1]?)))
  (C:World→Prop) (hC: ∀w w',C w→ext w w'→C w') (hC0:C w.drew)
  (h: ∀K:Act→World→Prop,(∀a w,Q .normal a w→K a w)→
   wpH P l.toArray C (ln P l.toArray C dep (kf P l.toArray C K ksr lr) n B) ksp lp a w.drew):
  (Code.region id l.toArray true).wp P Q a w:=by
 subst hn;have hnd:(B.map (·.1)).Nodup:=by
  unfold qv at hok;simp only[Bool.and_eq_true,decide_eq_true_eq]at hok;exact(List.nodup_append.1 (List.nodup_append.1 hok.1.1.1.2).2.1).1
 refine qf ks Jp (B.map (·.1)) Jr lp lr ksp ksr hkp hkr hm hok hlp hlr (fun C K=>ln P l.toArray C dep (kf P l.toArray C K ksr lr) B.length B) (fun C K R' hR' a w hp=> ?_) C hC hC0 h;rw[List.length_map];refine iL (kd:=fun j=>ks.getD j 2) (dep:=dep) hR' B.length B rfl hnd (fun p hp=> ?_) (fun p hp x hx=> ?_) a w hp
 ·have:=List.map_inj_left.1 hB p hp;simp only[Prod.mk.injEq]at this;exact⟨this.1,by rw[List.getElem?_toArray];exact this.2.symm⟩
 ·simp only[List.all_eq_true]at hdep;exact hdep p hp x hx
end
section
variable {P:Program} {ops:Array Oper} {C:World→Prop} {dep:Nat→List Nat} {R:Act→World→Prop} {St:(Nat→Bool)→Act→World→Prop}
theorem mu {K:Act→World→Prop} {a:Act} {w:World}(h:K a w):kf P ops C K [] [] a w:=by unfold kf;exact h
theorem jP {K:Act→World→Prop} {a:Act} {w:World} {o:Oper} {ks:List Nat} {l:List Oper}(h:wpZ P ops (fun a w=>(l=[]∨C w)∧kf P ops C K ks l a w) [2] [o] a w):kf P ops C K (3::ks) (o::l) a w:=by
 have:=aU (C:=C) (ks:=[3]) (l:=[o]) [2] rfl (by simp) h;simp only[wpH]at this;unfold kf;exact this
def wo(P:Program)(ops:Array Oper)(C:World→Prop)(dep:Nat→List Nat)(St:(Nat→Bool)→Act→World→Prop):List (Nat×Nat×Oper)→Prop
 | []=>True
 |p::r=>(∀d a w,d p.1=false→(∀x∈dep p.1,d x=true)→St d a w→opH P ops C p.2.1 p.2.2 (St (fun i=>d i||i==p.1)) a w)∧wo P ops C dep St r
theorem sI: ∀(B:List (Nat×Nat×Oper)),wo P ops C dep St B→ ∀p∈B,∀d a w,d p.1=false→(∀x∈dep p.1,d x=true)→St d a w→opH P ops C p.2.1 p.2.2 (St (fun i=>d i||i==p.1)) a w
 | [],_,p,hp=>by cases hp
 |q::r,h,p,hp=>by
  rcases List.mem_cons.1 hp with rfl|hp
  ·exact h.1
  ·exact sI r h.2 p hp
theorem nj(B0:List (Nat×Nat×Oper))(hs:wo P ops C dep St B0)(hC: ∀d a w,St d a w→C w)(hdep: ∀p∈B0,∀x∈dep p.1,∃q∈B0,q.1=x)(hR: ∀d a w,(∀p∈B0,d p.1=true)→St d a w→R a w):
  ∀(n:Nat) (B:List (Nat×Nat×Oper)) (d:Nat→Bool),B.length=n→(B.map (·.1)).Nodup→(∀p∈B,p∈B0∧d p.1=false)→(∀p∈B0,p∈B∨d p.1=true)→ ∀a w,St d a w→ln P ops C dep R n B a w
 |0,B,d,hn,_,_,hrest,a,w,h=>by
  refine hR d a w (fun p hp=> ?_) h;rcases hrest p hp with h1|h1
  ·rw[List.length_eq_zero_iff]at hn;subst hn;cases h1
  ·exact h1
 |n+1,B,d,hn,hnd,hin,hrest,a,w,h=>by
  intro p hp hfree;have hd: ∀x∈dep p.1,d x=true:=by
   intro x hx;obtain⟨q,hq,rfl⟩:=hdep p (hin p hp).1 x hx;rcases hrest q hq with h1|h1
   ·have:=List.all_eq_true.1 hfree q h1;rw[Bool.not_eq_true',←Bool.not_eq_true]at this;exact absurd (by simpa using hx) this
   ·exact h1
  have hl:(B.filter fun q=>q.1 !=p.1).length=n:=by
   have h1:((B.map (·.1)).erase p.1).length=(B.map (·.1)).length-1:=List.length_erase_of_mem (List.mem_map_of_mem hp);rw[List.Nodup.erase_eq_filter hnd,List.filter_map]at h1;simp at h1;have:(B.filter fun q=>q.1 !=p.1).length=B.length-1:=h1;omega
  refine bx (fun a w h=>⟨hC _ _ _ h,nj B0 hs hC hdep hR n _ _ hl ?_ (fun q hq=>⟨(hin q (List.mem_filter.1 hq).1).1,?_⟩) (fun q hq=> ?_) a w h⟩) (sI B0 hs p (hin p hp).1 d a w (hin p hp).2 hd h)
  ·exact List.Nodup.sublist ((List.filter_sublist).map _) hnd
  ·have h1:=List.mem_filter.1 hq;have h2:q.1≠p.1:=by simpa using h1.2
   simp[(hin q h1.1).2,h2]
  ·by_cases e:q.1=p.1
   ·exact .inr (by simp[e])
   ·rcases hrest q hq with h1|h1
    ·exact .inl (List.mem_filter.2 ⟨h1,by simpa using e⟩)
    ·exact .inr (by simp[h1])
theorem dI(B:List (Nat×Nat×Oper)) {a:Act} {w:World}(hs:wo P ops C dep St B)(hC: ∀d a w,St d a w→C w)(hdep:(B.all fun p=>(dep p.1).all fun x=>(B.map (·.1)).contains x)=true)(hnd:(B.map (·.1)).Nodup)
  (hR: ∀d a w,(∀i∈B.map (·.1),d i=true)→St d a w→R a w) (h0:St (fun _=>false) a w):ln P ops C dep R B.length B a w:=by
 refine nj B hs hC (fun p hp x hx=> ?_) (fun d a w hall h=>hR d a w (fun i hi=> ?_) h) B.length B _ rfl hnd (fun _ h=>⟨h,rfl⟩) (fun _ h=> .inl h) a w h0
 ·have h1:=List.all_eq_true.1 (List.all_eq_true.1 hdep p hp) x hx;have h2:x∈B.map (·.1):=by simpa using h1
  obtain⟨q,hq,e⟩:=List.mem_map.1 h2;exact⟨q,hq,e⟩
 ·obtain⟨q,hq,rfl⟩:=List.mem_map.1 hi;exact hall q hq
end
open Go.RowKit
theorem fY(cs:Array Value)(size k:Nat)(x:Array Value)(pre:List Value)(hx:x.size=size)(h:k*size+size≤cs.size)(hp:cs.toList.take (k*size)=pre):
  (gp cs (k*size) x).toList.take ((k+1)*size)=pre++x.toList:=by
 have e:(k+1)*size=k*size+size:=by rw[Nat.add_mul,Nat.one_mul]
 have hpl:pre.length=k*size:=by rw[←hp,List.length_take,Array.length_toList];omega
 rw[dH _ _ _ (by omega),hp,e,List.append_assoc,List.take_append,hpl,List.take_of_length_le (by omega),show k*size+size-k*size=size by omega,List.take_left' (by simpa using hx)]
theorem Jh(cs:Array Value)(size:Nat)(x:Value)(hx:x.cells.size=size)(h:cs.size=1*size):
  Instr.fill (fun i=>some (i*size,size)) cs [(0,x)]=some x.cells:=by
 rw[dC _ _ 0 x _ (0*size) size (by simp) hx (by omega),Instr.fill];congr 1;apply Array.ext';have z:=cK cs (0*size) x.cells (by omega);have t:=fY cs size 0 x.cells [] hx (by omega) (by simp);rw[List.take_of_length_le (by rw[Array.length_toList,z];omega)]at t;simpa using t
theorem MO(cs:Array Value)(size:Nat)(x y z u:Value)(hx:x.cells.size=size)(hy:y.cells.size=size)(hz:z.cells.size=size)(hu:u.cells.size=size)(h:cs.size=4*size):
  Instr.fill (fun i=>some (i*size,size)) cs [(0,x),(1,y),(2,z),(3,u)]=some (x.cells++y.cells++z.cells++u.cells):=by
 have z0:=cK cs (0*size) x.cells (by omega);have t0:=fY cs size 0 x.cells [] hx (by omega) (by simp);obtain⟨c0,e0⟩: ∃c,c=gp cs (0*size) x.cells:=⟨_,rfl⟩;rw[←e0]at z0 t0;have z1:=cK c0 (1*size) y.cells (by omega);have t1:=fY c0 size 1 y.cells _ hy (by omega) t0;obtain⟨c1,e1⟩: ∃c,c=gp c0 (1*size) y.cells:=⟨_,rfl⟩;rw[←e1]at z1 t1;have z2:=cK c1 (2*size) z.cells (by omega);have t2:=fY c1 size 2 z.cells _ hz (by omega) t1;obtain⟨c2,e2⟩: ∃c,c=gp c1 (2*size) z.cells:=⟨_,rfl⟩;rw[←e2]at z2 t2;have z3:=cK c2 (3*size) u.cells (by omega);have t3:=fY c2 size 3 u.cells _ hu (by omega) t2;rw[dC _ _ 0 x _ (0*size) size rfl hx (by omega),←e0,dC _ _ 1 y _ (1*size) size rfl hy (by omega),←e1,dC _ _ 2 z _ (2*size) size rfl hz (by omega),←e2,dC _ _ 3 u _ (3*size) size rfl hu (by omega),Instr.fill];congr 1;apply Array.ext';rw[List.take_of_length_le (by rw[Array.length_toList,z3];omega)]at t3;rw[t3];simp
section
variable {P:Program} {ops:Array Oper} {C:World→Prop} {K:Act→World→Prop} {ks:List Nat} {l:List Oper} {a:Act} {w:World}
theorem Al {d:Option Tmp} {p:Operand} {t ty e:TypeId} {pos:String} {after:Array Edge} {x z0:Value} {size bytes:Nat}(hp:a.eval p=x)(hx:x.cells.size=size)(h0:0<size)(h1:size≤1000)(ht:P.underlying t=some (.slice e))(hi:(P.info? e).map (fun i=>(i.zero,i.size,i.bytes))=some (some z0,size,bytes))
  (h: ∀w1 g,Blk w1 g e x.cells→Below w.heap.size w w1→wpH P ops C K ks l (a.put d (.slice (some ⟨g,0,none⟩) 1 1)) w1):
  wpH P ops C K (2::ks) (⟨d,.buildSlice t 1 #[(0,p)],ty,pos,after,none⟩::l) a w:=by
 obtain⟨i,hi,hz,hs,_⟩:=info_parts hi;have hr:(execOp a.eval ⟨d,.buildSlice t 1 #[(0,p)],ty,pos,after,none⟩).run P w= .ok (.value (.slice (some ⟨w.heap.size,0,none⟩) 1 1)) (w.alloc (.cells x.cells e)):=by
  simp only[execOp,List.map_toArray,List.map_cons,List.map_nil,hp,Sem.run_bind,gI w t e 1 size z0 #[(0,x)] x.cells ht i hi hz hs (by omega) (by omega) (fun cs hc=>Jh cs size x hx hc),Result.andThen_ok,Sem.run_pure]
 have hbel:Below w.heap.size w (w.alloc (.cells x.cells e)):=(Below.refl _ _).alloc (Nat.le_refl _) _;exact aY rfl hr hbel (h _ _ (Blk.new _ _ _) hbel)
theorem Am {d:Option Tmp} {p q r s:Operand} {t ty e:TypeId} {pos:String} {after:Array Edge} {x y z u z0:Value} {size bytes:Nat}(hp:a.eval p=x)(hq:a.eval q=y)(hr:a.eval r=z)(hs':a.eval s=u)(hx:x.cells.size=size)(hy:y.cells.size=size)(hz':z.cells.size=size)(hu:u.cells.size=size)(h0:0<size)(h1:size≤1000)(ht:P.underlying t=some (.slice e))(hi:(P.info? e).map (fun i=>(i.zero,i.size,i.bytes))=some (some z0,size,bytes))
  (h: ∀w1 g,Blk w1 g e (x.cells++y.cells++z.cells++u.cells)→Below w.heap.size w w1→wpH P ops C K ks l (a.put d (.slice (some ⟨g,0,none⟩) 4 4)) w1):
  wpH P ops C K (2::ks) (⟨d,.buildSlice t 4 #[(0,p),(1,q),(2,r),(3,s)],ty,pos,after,none⟩::l) a w:=by
 obtain⟨i,hi,hz,hs,_⟩:=info_parts hi;have hr:(execOp a.eval ⟨d,.buildSlice t 4 #[(0,p),(1,q),(2,r),(3,s)],ty,pos,after,none⟩).run P w= .ok (.value (.slice (some ⟨w.heap.size,0,none⟩) 4 4)) (w.alloc (.cells (x.cells++y.cells++z.cells++u.cells) e)):=by
  simp only[execOp,List.map_toArray,List.map_cons,List.map_nil,hp,hq,hr,hs',Sem.run_bind,gI w t e 4 size z0 #[(0,x),(1,y),(2,z),(3,u)] (x.cells++y.cells++z.cells++u.cells) ht i hi hz hs (by omega) (by omega) (fun cs hc=>MO cs size x y z u hx hy hz' hu hc),Result.andThen_ok,Sem.run_pure]
 have hbel:Below w.heap.size w (w.alloc (.cells (x.cells++y.cells++z.cells++u.cells) e)):=(Below.refl _ _).alloc (Nat.le_refl _) _;exact aY rfl hr hbel (h _ _ (Blk.new _ _ _) hbel)
end
end Go.Proofs.YtddkbkbpogcffaaGreatDoor
