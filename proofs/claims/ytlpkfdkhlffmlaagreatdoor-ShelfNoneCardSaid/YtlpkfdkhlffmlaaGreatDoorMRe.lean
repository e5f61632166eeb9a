/-bytes of a string,made in a region with a tail-/
import Derived.Test.YtlpkfdkhlffmlaaGreatDoorMGe
import Derived.Test.YtlpkfdkhlffmlaaGreatDoorMGs
import Derived.Laws.IdiomStrings
import Derived.Test.YtlpkfdkhlffmlaaGreatDoorMGq
import Derived.Test.YtlpkfdkhlffmlaaGreatDoorMRd
namespace Go.Proofs.YtlpkfdkhlffmlaaGreatDoor
open Go.Proofs.Tryz
open Lib (hid)
set_option linter.unusedSimpArgs false
set_option linter.unusedVariables false
set_option maxRecDepth 100000
set_option maxHeartbeats 1600000
open Go.RowKit
theorem rdB(w:World)(e:TypeId)(l:Y8)(cap:Nat)(f:Nat×Nat)(hc:l.length≤cap)(hm:cap≤maxLen):Rd8 (w.alloc (.cells (bytesRow (str l) cap) e f)) (some ⟨w.heap.size,0,none⟩) l.length cap l:=by
 refine⟨rfl,hc,hm,fun _=>⟨w.heap.size,0,rfl,by simp,fun i hi=> ?_⟩⟩;rw[Nat.zero_add,aO];unfold ar;rw[heap_alloc_new];unfold bytesRow;have h1:i<((str l).data.map (fun b=>Value.int .u8 b.toNat)).size:=by
  rw[Array.size_map];have:(str l).data.size=l.length:=bR l;omega
 rw[Array.getElem?_append_left h1,Array.getElem?_map,←Array.getElem?_toList,eO,List.getElem?_map,dv hi];rfl
theorem tu {P:Program} {ops:Array Oper} {C:World→Prop} {K:Act→World→Prop} {ks:List Nat} {L:List Oper} {a:Act} {w:World} {d:Option Tmp} {x:Operand} {src dst e ty:TypeId} {pos:String} {after:Array Edge} {l:Y8}(hx:a.eval x= .string (str l))(hs:P.underlying src=some .string)(hd:P.underlying dst=some (.slice e))(he:P.underlying e=some (.int .u8))(hm:l.length≤maxLen)
  (h: ∀w1 g cap,Rd8 w1 (some ⟨g,0,none⟩) l.length cap l→Below w.heap.size w w1→wpH P ops C K ks L (a.put d (.slice (some ⟨g,0,none⟩) l.length cap)) w1):
  wpH P ops C K (2::ks) (⟨d,.convert src dst x,ty,pos,after,none⟩::L) a w:=by
 obtain⟨cap,hcap⟩: ∃cap,cap=grownCap w (str l).size 0 e:=⟨_,rfl⟩;have h1:=run_bytes_of_string (P:=P) w src dst e (str l) hs hd he;rw[←hcap,bR]at h1;have hr:(execOp a.eval ⟨d,.convert src dst x,ty,pos,after,none⟩).run P w= .ok (.value (.slice (some ⟨w.heap.size,0,none⟩) l.length cap)) (w.drew.alloc (.cells (bytesRow (str l) cap) e ((bytesRow (str l) cap).size,(bytesRow (str l) cap).size+1))):=by
  simp only[execOp,hx,Sem.run_bind,h1,Result.andThen_ok,Sem.run_pure]
 have c1:l.length≤cap:=by rw[hcap,←bR];exact grownCap_ge w _ _ _
 have c2:cap≤maxLen:=by rw[hcap];exact grownCap_le_maxLen w _ _ _ (by rw[bR];exact hm)
 have hbel:Below w.heap.size w (w.drew.alloc (.cells (bytesRow (str l) cap) e ((bytesRow (str l) cap).size,(bytesRow (str l) cap).size+1))):=((Below.refl _ w).drew).alloc (Nat.le_refl _) _;exact aX rfl hr hbel (h _ _ _ (rdB w.drew e l cap _ c1 c2) hbel)
open Go.RowKit
section
variable {P:Program} {ops:Array Oper} {C:World→Prop} {dep:Nat→List Nat} {R:Act→World→Prop} {St:(Nat→Bool)→Act→World→Prop}
def oI(P:Program)(ops:Array Oper)(C:World→Prop)(dep:Nat→List Nat)(St:(Nat→Bool)→Act→World→Prop):List (Nat×Nat×Oper)→Prop
 | []=>True
 |p::r=>(∀d a w,(∀x∈dep p.1,d x=true)→St d a w→opH P ops C p.2.1 p.2.2 (St (fun i=>d i||i==p.1)) a w)∧oI P ops C dep St r
theorem mn: ∀(B:List (Nat×Nat×Oper)),oI P ops C dep St B→ ∀p∈B,∀d a w,(∀x∈dep p.1,d x=true)→St d a w→opH P ops C p.2.1 p.2.2 (St (fun i=>d i||i==p.1)) a w
 | [],_,p,hp=>by cases hp
 |q::r,h,p,hp=>by
  rcases List.mem_cons.1 hp with rfl|hp
  ·exact h.1
  ·exact mn r h.2 p hp
theorem kz(B0:List (Nat×Nat×Oper))(hs:oI P ops C dep St B0)(hdep: ∀p∈B0,∀x∈dep p.1,∃q∈B0,q.1=x)(hR: ∀d a w,(∀p∈B0,d p.1=true)→St d a w→R a w):
  ∀(n:Nat) (B:List (Nat×Nat×Oper)) (d:Nat→Bool),B.length=n→(B.map (·.1)).Nodup→(∀p∈B,p∈B0)→(∀p∈B0,p∈B∨d p.1=true)→ ∀a w,St d a w→da P ops C dep R n B a w
 |0,B,d,hn,_,_,hrest,a,w,h=>by
  refine hR d a w (fun p hp=> ?_) h;rcases hrest p hp with h1|h1
  ·rw[List.length_eq_zero_iff]at hn;subst hn;cases h1
  ·exact h1
 |n+1,B,d,hn,hnd,hin,hrest,a,w,h=>by
  intro p hp hfree;have hd: ∀x∈dep p.1,d x=true:=by
   intro x hx;obtain⟨q,hq,rfl⟩:=hdep p (hin p hp) x hx;rcases hrest q hq with h1|h1
   ·have:=List.all_eq_true.1 hfree q h1;rw[Bool.not_eq_true',←Bool.not_eq_true]at this;exact absurd (by simpa using hx) this
   ·exact h1
  have hl:(B.filter fun q=>q.1 !=p.1).length=n:=by
   have h1:((B.map (·.1)).erase p.1).length=(B.map (·.1)).length-1:=List.length_erase_of_mem (List.mem_map_of_mem hp);rw[List.Nodup.erase_eq_filter hnd,List.filter_map]at h1;simp at h1;have:(B.filter fun q=>q.1 !=p.1).length=B.length-1:=h1;omega
  refine aK (fun a w h=>kz B0 hs hdep hR n _ _ hl ?_ (fun q hq=>hin q (List.mem_filter.1 hq).1) (fun q hq=> ?_) a w h) (mn B0 hs p (hin p hp) d a w hd h)
  ·exact List.Nodup.sublist ((List.filter_sublist).map _) hnd
  ·by_cases e:q.1=p.1
   ·exact .inr (by simp[e])
   ·rcases hrest q hq with h1|h1
    ·exact .inl (List.mem_filter.2 ⟨h1,by simpa using e⟩)
    ·exact .inr (by simp[h1])
theorem io(B:List (Nat×Nat×Oper)) {a:Act} {w:World}(hs:oI P ops C dep St B)(hdep:(B.all fun p=>(dep p.1).all fun x=>(B.map (·.1)).contains x)=true)(hnd:(B.map (·.1)).Nodup)
  (hR: ∀d a w,(∀i∈B.map (·.1),d i=true)→St d a w→R a w) (h0:St (fun _=>false) a w):da P ops C dep R B.length B a w:=by
 refine kz B hs (fun p hp x hx=> ?_) (fun d a w hall h=>hR d a w (fun i hi=> ?_) h) B.length B _ rfl hnd (fun _ h=>h) (fun _ h=> .inl h) a w h0
 ·have h1:=List.all_eq_true.1 (List.all_eq_true.1 hdep p hp) x hx;have h2:x∈B.map (·.1):=by simpa using h1
  obtain⟨q,hq,e⟩:=List.mem_map.1 h2;exact⟨q,hq,e⟩
 ·obtain⟨q,hq,rfl⟩:=List.mem_map.1 hi;exact hall q hq
end
open Go.RowKit
section
variable {P:Program}
theorem kD {id:Nat} {Q:Exit→Act→World→Prop} {a:Act} {w:World} {l:List Oper}(ks Jp B Jr:List Nat)(lp lr:List Oper)(ksp ksr:List Nat)(hkp:Jp.map (fun j=>ks.getD j 2)=ksp)(hkr:Jr.map (fun j=>ks.getD j 2)=ksr)(hm:P.follows .mixedOrders=true)(hok:eu l.toArray ks Jp B Jr=true)
  (hlp:lp.map some=Jp.map (fun j=>l[j]?)) (hlr:lr.map some=Jr.map (fun j=>l[j]?))
  (R:(World→Prop)→(Act→World→Prop)→Act→World→Prop) (hR: ∀(C:World→Prop) (K R':Act→World→Prop),(∀a w,wpCH P l.toArray C K ksr lr a w→R' a w)→ ∀a w,R C K a w→iH P l.toArray C (fun j=>ks.getD j 2) R' B.length B a w)
  (C:World→Prop) (hC: ∀w w',C w→ext w w'→C w') (hC0:C w.drew)
  (h: ∀K:Act→World→Prop,(∀a w,Q .normal a w→K a w)→
   wpH P l.toArray C (R C K) ksp lp a w.drew):
  (Code.region id l.toArray true).wp P Q a w:=by
 subst hkp hkr;unfold eu at hok;rw[fM]at hok;simp only[eN,Bool.and_eq_true,decide_eq_true_eq,List.all_eq_true,List.mem_range,Bool.or_eq_true,Bool.not_eq_true',Bool.or_eq_false_iff,decide_eq_false_iff_not,beq_iff_eq,bne_iff_ne,ne_eq,Bool.not_eq_false',List.elem_eq_mem]at hok;obtain⟨⟨⟨⟨⟨⟨⟨⟨⟨⟨⟨hs,hlen⟩,hback⟩,hwp⟩,hwb⟩,hwr⟩,hsp⟩,hsr⟩,hnd⟩,hcov⟩,hin⟩,hpp,hpr⟩:=hok;refine wp_region_any hm ?_;have hw:=h _ (fun _ _ h=>h);clear h;obtain⟨kd,hkd⟩: ∃kd:Nat→Nat,kd=fun j=>ks.getD j 2:=⟨_,rfl⟩;have hkd': ∀j,ks.getD j 2=kd j:=fun j=>by rw[hkd]
 simp only[hkd']at hw hwp hwb hwr;simp only[hkd']at hR;have hperm:=hR C (Q .normal) (wpCT P l.toArray C kd (Q .normal) Jr) (fun a w h=>fi kd Jr _ lr a w rfl (by simpa using hlr) h);have ht:=cZ (fun a w h=>hperm a w h) Jp a w.drew (fg kd Jp _ lp a w.drew rfl (by simpa using hlp) hw);have hbk: ∀i o,l.toArray[i]? =some o→ ∀e∈o.after.toList,Region.binds .any e=true→e.on<i:=by
  intro i o ho e he hb;have h1:=hback i (Array.getElem?_eq_some_iff.1 ho).1;rw[ho]at h1;have h2:=List.all_eq_true.1 h1 e he;simp only[Bool.or_eq_true,Bool.not_eq_true',decide_eq_true_eq]at h2;rcases h2 with h2|h2
  ·rw[hb]at h2;cases h2
  ·exact h2
 have hdis: ∀x,x∈B++Jr→ ¬x∈Jp:=fun x hx hj=>(List.nodup_append.1 hnd).2.2 x hj x hx rfl;refine gN (C:=C) hC (kd:=kd) hs (fun _ _ h=>h) hbk Jp B Jr hwp hwb hwr hdis (fun i x hi hx hc=> ?_)
  (fun i x hi hx=>(hpr i hi).1 x hx) (fun i x hx hi hlt=>((hpr i hi).2 x hx).resolve_left (fun h=>h hlt)) l.toArray.size Jp B Jr _ a _ ?_ (fun _ h=>h) (fun _ h=>h) (fun _ h=>h) hsp hsr hnd (by simp) (fun i=> ?_) (fun i o _ hl=> ?_) hC0 (by simpa using ht)
 ·have:=hpp i hi x hx;rcases this with h|h
  ·rcases hc with hc|hc
   ·exact absurd hc h.1
   ·exact absurd (by simpa using h.2) hc
  ·exact h
 ·have h1:(Jp++(B++Jr)).length≤(List.range l.toArray.size).length:=List.Nodup.length_le_of_subset hnd (fun x hx=>by simpa using hin x hx);have h2:(List.range l.toArray.size).length≤(Jp++(B++Jr)).length:=List.Nodup.length_le_of_subset List.nodup_range (fun x hx=>by simpa using hcov x (by simpa using hx));simp at h1 h2⊢;omega
 ·constructor
  ·intro hi;have:=hin i hi;exact⟨this,by simp at this;simp[this]⟩
  ·intro hi;simpa using hcov i hi.1
 ·exfalso;have hf:(Array.replicate l.toArray.size false).getD i false=false:=by
   by_cases hi:i<l.toArray.size
   ·simp at hi;simp[hi]
   ·simp at hi;simp[hi]
  rw[hf]at hl;cases hl
theorem de {id:Nat} {Q:Exit→Act→World→Prop} {a:Act} {w:World} {l:List Oper}(ks Jp:List Nat)(B:List (Nat×Nat×Oper))(dep:Nat→List Nat)(Jr:List Nat)(lp lr:List Oper)(ksp ksr:List Nat)(n:Nat)(hkp:Jp.map (fun j=>ks.getD j 2)=ksp)(hkr:Jr.map (fun j=>ks.getD j 2)=ksr)(hn:B.length=n)(hm:P.follows .mixedOrders=true)(hok:eu l.toArray ks Jp (B.map (·.1)) Jr=true)
  (hdep:(B.all fun p=>(dep p.1).all fun x=>((aR l []).getD p.1 0).testBit x)=true)
  (hlp:lp.map some=Jp.map (fun j=>l[j]?)) (hlr:lr.map some=Jr.map (fun j=>l[j]?)) (hB:B.map (fun p=>(p.2.1,some p.2.2))=B.map (fun p=>(ks.getD p.1 2,l[p.1]?)))
  (C:World→Prop) (hC: ∀w w',C w→ext w w'→C w') (hC0:C w.drew)
  (h: ∀K:Act→World→Prop,(∀a w,Q .normal a w→K a w)→
   wpH P l.toArray C (da P l.toArray C dep (wpCH P l.toArray C K ksr lr) n B) ksp lp a w.drew):
  (Code.region id l.toArray true).wp P Q a w:=by
 subst hn;have hnd:(B.map (·.1)).Nodup:=by
  unfold eu at hok;simp only[Bool.and_eq_true,decide_eq_true_eq]at hok;exact(List.nodup_append.1 (List.nodup_append.1 hok.1.1.1.2).2.1).1
 refine kD ks Jp (B.map (·.1)) Jr lp lr ksp ksr hkp hkr hm hok hlp hlr (fun C K=>da P l.toArray C dep (wpCH P l.toArray C K ksr lr) B.length B) (fun C K R' hR' a w hp=> ?_) C hC hC0 h;rw[List.length_map];refine dx (kd:=fun j=>ks.getD j 2) (dep:=dep) hR' B.length B rfl hnd (fun p hp=> ?_) (fun p hp x hx=> ?_) a w hp
 ·have:=List.map_inj_left.1 hB p hp;simp only[Prod.mk.injEq]at this;exact⟨this.1,by rw[List.getElem?_toArray];exact this.2.symm⟩
 ·simp only[List.all_eq_true]at hdep;exact hdep p hp x hx
end
open Go.RowKit
def RdQ(w:World)(q:Option Addr×Nat)(n:Nat)(l:Y8):Prop:=Rd8 w q.1 n q.2 l
theorem RdQ.belowAll {w w':World} {q:Option Addr×Nat} {n:Nat} {l:Y8}(h:RdQ w q n l)(hb:Below w.heap.size w w'):RdQ w' q n l:=Rd8.below h hb
theorem Rd8.belowAll {w w':World} {a:Option Addr} {n c:Nat} {l:Y8}(h:Rd8 w a n c l)(hb:Below w.heap.size w w'):Rd8 w' a n c l:=h.below hb
theorem RwAt.belowAll {w w':World} {a:Option Addr} {n c:Nat} {l:List (Y8)}(h:RwAt w a n c l)(hb:Below w.heap.size w w'):RwAt w' a n c l:=h.below hb
def OwV(w:World)(B:Nat)(v:Value)(l:Y8):Prop:=Own8 w B 5 v l
theorem OwV.belowAll {w w':World} {B:Nat} {v:Value} {l:Y8}(h:OwV w B v l)(hb:Below w.heap.size w w'):OwV w' B v l:=Own8.below h hb
theorem yE {T:Y8}(h:T.length≤390): ∀k,k<1→(([T]:List (Y8)).getD k []).length≤60000:=fun k hk=>by
 obtain rfl:k=0:=by omega
 show T.length≤60000;omega
theorem qr(T:Y8):(putV [T]).length=8+T.length:=by simp[putV,le64];omega
set_option linter.unusedVariables false in
theorem sz(s g h r f len dM:Nat)(made n p:Int)(L:List (Int×Nat×Nat))(is:Bool)(E D:Y8→Y8→Y8)(T M:Y8)(bM:Option Addr)(w:World)(S:SfAt w s g h r made L)(hC:CphT w g E D)(hTm2:T.length≤390)(hM:Rd8 w bM len dM M)(hl:len≤500):
  Calls prog 38 #[.pointer (some ⟨s,0,none⟩),.agg #[.int .i64 n,.pointer (some ⟨f,0,none⟩),.string (str T),.int .i64 p,.bool is],.slice bM len dM] w fun e w' => ∃v,e= .returned v∧Own8 w' w.heap.size 5 v (E (encV 16 (le64 (BitVec.ofInt 64 n)) [T]) (M++aa 8 16))∧Below w.heap.size w w':=by
 obtain⟨A,hA⟩: ∃A:Array Value,A= #[.int .i64 n,.pointer (some ⟨f,0,none⟩),.string (str T),.int .i64 p,.bool is]:=⟨_,rfl⟩;have hsz:A.size=5:=by rw[hA];rfl
 obtain⟨W,hW⟩: ∃W,w.alloc (.cells A 83)=W:=⟨_,rfl⟩;obtain⟨b0,d0,z0⟩:=new1 _ _ _ _ hW;have k0:W.cell? ⟨w.heap.size,0,none⟩=some (.int .i64 n):=by rw[b0.cell,hA];rfl
 have k2:W.cell? ⟨w.heap.size,2,none⟩=some (.string (str T)):=by rw[b0.cell,hA];rfl
 have kl:=b0.lt;have s0:W.cell? ⟨s,0,none⟩=some (.pointer (some ⟨g,0,none⟩)):=by rw[(S.blk.belowAll d0).cell];rfl
 have sl:=(S.blk.belowAll d0).lt;obtain⟨N8,hN8⟩: ∃N8,le64 (BitVec.ofInt 64 n)=N8:=⟨_,rfl⟩;obtain⟨Z,hZ⟩: ∃Z,E (encV 16 (le64 (BitVec.ofInt 64 n)) [T]) (M++aa 8 16)=Z:=⟨_,rfl⟩;rw[hZ,←hA];have hZ2:=hZ;rw[hN8]at hZ2;obtain⟨mT,hTl⟩: ∃mT,T.length=mT:=⟨_,rfl⟩;have hTm:T.length≤maxLen:=by unfold maxLen;omega
 have HN8:=hid hN8;have HZ:=hid hZ2;have C0:=hid (hC.below d0);have M0:=hid (hM.below d0);have D0:=hid d0;clear b0 S hC hM hN8 hZ hZ2 hA;go_enter func38,ntmps38;go_upto_region 1 with fail
 try rw[hW]
 clear hW d0 z0;refine de [0,0,0,5,0,5,2,0,5,2,2,0,2,0,0,0,0,0] [0,1,2,3,4,5,7,8,11] [(6,2,_),(9,2,_),(10,2,_),(12,2,_),(13,0,_),(14,0,_),(15,0,_),(16,0,_)] (fun i=>if i=10 then [9]else if i=12 then [6,10]else if i=13 then [12]else if i=14 then [13]else if i=15 then [13]else if i=16 then [14]else []) [17] [_,_,_,_,_,_,_,_,_] [_] [0,0,0,5,0,5,0,5,0] [0] 8 rfl rfl rfl (by kernel_rfl) (by kernel_rfl) (by kernel_rfl) rfl rfl rfl (fun w1=>Below W.drew.heap.size W.drew w1) (fun _ _ h k=>h.trans (Below.mono k h.size)) (Below.refl _ _) (fun K' hK' => ?_);have Q1: ∀w1,(fun w1=>Below W.drew.heap.size W.drew w1) w1→w1.cell? ⟨s,0,none⟩=some (.pointer (some ⟨g,0,none⟩)):=fun w1 hw=>(hw.cell (p:=⟨s,0,none⟩) sl).trans s0;have Q2: ∀w1,(fun w1=>Below W.drew.heap.size W.drew w1) w1→w1.cell? ⟨w.heap.size,0,none⟩=some (.int .i64 n):=fun w1 hw=>(hw.cell (p:=⟨w.heap.size,0,none⟩) kl).trans k0;have Q3: ∀w1,(fun w1=>Below W.drew.heap.size W.drew w1) w1→w1.cell? ⟨w.heap.size,2,none⟩=some (.string (str T)):=fun w1 hw=>(hw.cell (p:=⟨w.heap.size,2,none⟩) kl).trans k2
 repeat (first|((with_reducible refine hq0 ?_);refine hq0a ?_)|((with_reducible refine hq5 ?_);refine hq5a ?_ (fun _ hcw=>by have fQ1:=Q1 _ hcw;have fQ2:=Q2 _ hcw;have fQ3:=Q3 _ hcw;go_simp;(try go_bits);exact rfl))|((with_reducible refine hq1 ?_);refine hq1a ?_))
 refine ax ?_;clear Q1 Q2 Q3;generalize hAct:Act.mk _ _=act;obtain⟨u,rfl⟩: ∃u:Nat→Value,act={tmps:=(fun u:Nat→Value=>(Value.pointer (some ⟨s,0,none⟩)::Value.agg A::Value.slice bM len dM::u 3::Value.pointer (some ⟨w.heap.size,0,none⟩)::u 5::Value.slice none 0 0::u 7::u 8::u 9::Value.pointer (some ⟨s,0,none⟩)::Value.pointer (some ⟨s,0,none⟩)::Value.pointer (some ⟨s,0,none⟩)::Value.pointer (some ⟨g,0,none⟩)::Value.pointer (some ⟨w.heap.size,0,none⟩)::Value.int .i64 n::u 16::Value.pointer (some ⟨w.heap.size,2,none⟩)::Value.string (str T)::u 19::u 20::Value.slice bM len dM::u 22::u 23::u 24::u 25::[]).toArray) u,defers:=[]}:=by
  subst hAct;exact aI _ rfl
 clear hAct;obtain⟨St,hSt⟩: ∃St:(Nat→Bool)→Act→World→Prop,∀dn a' w',St dn a' w'↔(∃x16 x19 x20 x22 x9 x23 x24 x7:Value,a' ={tmps:=(Value.pointer (some ⟨s,0,none⟩)::Value.agg A::Value.slice bM len dM::u 3::Value.pointer (some ⟨w.heap.size,0,none⟩)::u 5::Value.slice none 0 0::x7::u 8::x9::Value.pointer (some ⟨s,0,none⟩)::Value.pointer (some ⟨s,0,none⟩)::Value.pointer (some ⟨s,0,none⟩)::Value.pointer (some ⟨g,0,none⟩)::Value.pointer (some ⟨w.heap.size,0,none⟩)::Value.int .i64 n::x16::Value.pointer (some ⟨w.heap.size,2,none⟩)::Value.string (str T)::x19::x20::Value.slice bM len dM::x22::x23::x24::u 25::[]).toArray,defers:=[]}∧Below W.drew.heap.size W.drew w'∧(dn 6=true→ ∃g,x16= .slice (some ⟨g,0,none⟩) 8 8∧Rd8 w' (some ⟨g,0,none⟩) 8 8 N8)∧(dn 9=true→ ∃q:Option Addr×Nat,x19= .slice q.1 mT q.2∧RdQ w' q mT T)∧(dn 10=true→ ∃g,x20= .slice (some ⟨g,0,none⟩) 1 1∧RwAt w' (some ⟨g,0,none⟩) 1 1 [T])∧(dn 12=true→ ∃v,x22= .tuple #[v,.int .i64 0]∧OwV w' W.heap.size v Z)∧(dn 13=true→ ∃v,x9= .tuple #[v,.int .i64 0]∧OwV w' W.heap.size v Z)∧(dn 14=true→ ∃v,x23=v∧OwV w' W.heap.size v Z)∧(dn 15=true→x24= .int .i64 0)∧(dn 16=true→ ∃v,x7=v∧OwV w' W.heap.size v Z)):=⟨_,fun _ _ _=>Iff.rfl⟩;refine io (St:=St) [_,_,_,_,_,_,_,_] ⟨?ts1,?ts2,?ts3,?ts4,?ts5,?ts6,?ts7,?ts8,trivial⟩ ?td ?tn ?tR ?t0
 case t0=>exact(hSt _ _ _).2 ⟨_,_,_,_,_,_,_,_,rfl,Below.refl _ _,fun h=>Bool.noConfusion h,fun h=>Bool.noConfusion h,fun h=>Bool.noConfusion h,fun h=>Bool.noConfusion h,fun h=>Bool.noConfusion h,fun h=>Bool.noConfusion h,fun h=>Bool.noConfusion h,fun h=>Bool.noConfusion h⟩
 case td=>decide
 case tn=>decide
 case ts1=>
  intro dn a3 w3 hd hs;obtain⟨x16,x19,x20,x22,x9,x23,x24,x7,rfl,D3,h1,h2,h3,h4,h5,h6,h7,h8⟩:=(hSt _ _ _).1 hs;clear hs;clear hd;refine aj ?_;refine hqc ?_;go_simp;refine ae ?_;refine(ny n w3).mono ?_;rintro e w4 ⟨g4,rfl,r4,d4⟩;refine⟨_,rfl,d4,?_⟩
  try simp only[Act.put,zz1,zz2,zz3]
  rw[HN8.out]at r4;exact ax ((hSt _ _ _).2 ⟨_,_,_,_,_,_,_,_,rfl,D3.trans (d4.mono D3.size),fun _=>⟨g4,rfl,r4⟩,fun e=>(h2 (by simpa using e)).imp fun _ h=>⟨h.1,h.2.belowAll d4⟩,fun e=>(h3 (by simpa using e)).imp fun _ h=>⟨h.1,h.2.belowAll d4⟩,fun e=>(h4 (by simpa using e)).imp fun _ h=>⟨h.1,h.2.belowAll d4⟩,fun e=>(h5 (by simpa using e)).imp fun _ h=>⟨h.1,h.2.belowAll d4⟩,fun e=>(h6 (by simpa using e)).imp fun _ h=>⟨h.1,h.2.belowAll d4⟩,fun e=>h7 (by simpa using e),fun e=>(h8 (by simpa using e)).imp fun _ h=>⟨h.1,h.2.belowAll d4⟩⟩)
 case ts2=>
  intro dn a3 w3 hd hs;obtain⟨x16,x19,x20,x22,x9,x23,x24,x7,rfl,D3,h1,h2,h3,h4,h5,h6,h7,h8⟩:=(hSt _ _ _).1 hs;clear hs;clear hd;refine aj ?_;refine tu (l:=T) rfl underlying9 underlying22 underlying5 hTm (fun w4 g4 c4 r4 d4=> ?_);simp only[Act.put,zz1,zz2,zz3];rw[hTl]at r4
  try rw[hTl]
  exact ax ((hSt _ _ _).2 ⟨_,_,_,_,_,_,_,_,rfl,D3.trans (d4.mono D3.size),fun e=>(h1 (by simpa using e)).imp fun _ h=>⟨h.1,h.2.belowAll d4⟩,fun _=>⟨(some ⟨g4,0,none⟩,c4),rfl,r4⟩,fun e=>(h3 (by simpa using e)).imp fun _ h=>⟨h.1,h.2.belowAll d4⟩,fun e=>(h4 (by simpa using e)).imp fun _ h=>⟨h.1,h.2.belowAll d4⟩,fun e=>(h5 (by simpa using e)).imp fun _ h=>⟨h.1,h.2.belowAll d4⟩,fun e=>(h6 (by simpa using e)).imp fun _ h=>⟨h.1,h.2.belowAll d4⟩,fun e=>h7 (by simpa using e),fun e=>(h8 (by simpa using e)).imp fun _ h=>⟨h.1,h.2.belowAll d4⟩⟩)
 case ts3=>
  intro dn a3 w3 hd hs;obtain⟨x16,x19,x20,x22,x9,x23,x24,x7,rfl,D3,h1,h2,h3,h4,h5,h6,h7,h8⟩:=(hSt _ _ _).1 hs;clear hs;obtain⟨g2,rfl,b2⟩:=h2 (hd 9 (by decide));clear hd;refine aj ?_;refine sy (x:= .slice g2.1 mT g2.2) (z0:= .slice none 0 0) (size:=1) (bytes:=24) rfl rfl (by omega) (by omega) underlying129 ft (fun w4 g4 k4 d4=> ?_);simp only[Act.put,zz1,zz2,zz3];exact ax ((hSt _ _ _).2 ⟨_,_,_,_,_,_,_,_,rfl,D3.trans (d4.mono D3.size),fun e=>(h1 (by simpa using e)).imp fun _ h=>⟨h.1,h.2.belowAll d4⟩,fun e=>(h2 (by simpa using e)).imp fun _ h=>⟨h.1,h.2.belowAll d4⟩,fun _=>⟨g4,rfl,RwAt.of_one k4 (b2.belowAll d4)⟩,fun e=>(h4 (by simpa using e)).imp fun _ h=>⟨h.1,h.2.belowAll d4⟩,fun e=>(h5 (by simpa using e)).imp fun _ h=>⟨h.1,h.2.belowAll d4⟩,fun e=>(h6 (by simpa using e)).imp fun _ h=>⟨h.1,h.2.belowAll d4⟩,fun e=>h7 (by simpa using e),fun e=>(h8 (by simpa using e)).imp fun _ h=>⟨h.1,h.2.belowAll d4⟩⟩)
 case ts4=>
  intro dn a3 w3 hd hs;obtain⟨x16,x19,x20,x22,x9,x23,x24,x7,rfl,D3,h1,h2,h3,h4,h5,h6,h7,h8⟩:=(hSt _ _ _).1 hs;clear hs;obtain⟨g1,rfl,b1⟩:=h1 (hd 6 (by decide));obtain⟨g3,rfl,b3⟩:=h3 (hd 10 (by decide));clear hd;refine aj ?_;have e3:Below W.heap.size W w3:=((Below.refl W.heap.size W).drew).trans D3;refine hqc ?_;go_simp;refine ae ?_;refine(uS g 16 (by omega) E D N8 M [T] (some ⟨g1,0,none⟩) (some ⟨g3,0,none⟩) bM 8 8 1 1 len dM w3 (C0.out.below e3) b1 b3 (by omega) (by omega) (yE hTm2) (by rw[qr];omega) (M0.out.below e3) (by omega) (by omega)).mono ?_;rintro e w4 ⟨v4,rfl,o4,d4⟩;refine⟨_,rfl,d4,?_⟩
  try simp only[Act.put,zz1,zz2,zz3]
  rw[HZ.out]at o4;exact ax ((hSt _ _ _).2 ⟨_,_,_,_,_,_,_,_,rfl,D3.trans (d4.mono D3.size),fun e=>(h1 (by simpa using e)).imp fun _ h=>⟨h.1,h.2.belowAll d4⟩,fun e=>(h2 (by simpa using e)).imp fun _ h=>⟨h.1,h.2.belowAll d4⟩,fun e=>(h3 (by simpa using e)).imp fun _ h=>⟨h.1,h.2.belowAll d4⟩,fun _=>⟨v4,rfl,o4.base e3.size⟩,fun e=>(h5 (by simpa using e)).imp fun _ h=>⟨h.1,h.2.belowAll d4⟩,fun e=>(h6 (by simpa using e)).imp fun _ h=>⟨h.1,h.2.belowAll d4⟩,fun e=>h7 (by simpa using e),fun e=>(h8 (by simpa using e)).imp fun _ h=>⟨h.1,h.2.belowAll d4⟩⟩)
 case ts5=>
  intro dn a3 w3 hd hs;obtain⟨x16,x19,x20,x22,x9,x23,x24,x7,rfl,D3,h1,h2,h3,h4,h5,h6,h7,h8⟩:=(hSt _ _ _).1 hs;clear hs;obtain⟨g4,rfl,b4⟩:=h4 (hd 12 (by decide));clear hd;refine aj ?_
  repeat (first|((with_reducible refine hq0 ?_);refine hq0a ?_)|((with_reducible refine hq5 ?_);refine hq5a ?_)|((with_reducible refine hq1 ?_);refine hq1a ?_))
  have d4:=Below.refl w3.heap.size w3;exact ax ((hSt _ _ _).2 ⟨_,_,_,_,_,_,_,_,rfl,D3.trans (d4.mono D3.size),fun e=>(h1 (by simpa using e)).imp fun _ h=>⟨h.1,h.2.belowAll d4⟩,fun e=>(h2 (by simpa using e)).imp fun _ h=>⟨h.1,h.2.belowAll d4⟩,fun e=>(h3 (by simpa using e)).imp fun _ h=>⟨h.1,h.2.belowAll d4⟩,fun e=>(h4 (by simpa using e)).imp fun _ h=>⟨h.1,h.2.belowAll d4⟩,fun _=>⟨g4,rfl,b4⟩,fun e=>(h6 (by simpa using e)).imp fun _ h=>⟨h.1,h.2.belowAll d4⟩,fun e=>h7 (by simpa using e),fun e=>(h8 (by simpa using e)).imp fun _ h=>⟨h.1,h.2.belowAll d4⟩⟩)
 case ts6=>
  intro dn a3 w3 hd hs;obtain⟨x16,x19,x20,x22,x9,x23,x24,x7,rfl,D3,h1,h2,h3,h4,h5,h6,h7,h8⟩:=(hSt _ _ _).1 hs;clear hs;obtain⟨g5,rfl,b5⟩:=h5 (hd 13 (by decide));clear hd;refine aj ?_
  repeat (first|((with_reducible refine hq0 ?_);refine hq0a ?_)|((with_reducible refine hq5 ?_);refine hq5a ?_)|((with_reducible refine hq1 ?_);refine hq1a ?_))
  have d4:=Below.refl w3.heap.size w3;exact ax ((hSt _ _ _).2 ⟨_,_,_,_,_,_,_,_,rfl,D3.trans (d4.mono D3.size),fun e=>(h1 (by simpa using e)).imp fun _ h=>⟨h.1,h.2.belowAll d4⟩,fun e=>(h2 (by simpa using e)).imp fun _ h=>⟨h.1,h.2.belowAll d4⟩,fun e=>(h3 (by simpa using e)).imp fun _ h=>⟨h.1,h.2.belowAll d4⟩,fun e=>(h4 (by simpa using e)).imp fun _ h=>⟨h.1,h.2.belowAll d4⟩,fun e=>(h5 (by simpa using e)).imp fun _ h=>⟨h.1,h.2.belowAll d4⟩,fun _=>⟨g5,rfl,b5⟩,fun e=>h7 (by simpa using e),fun e=>(h8 (by simpa using e)).imp fun _ h=>⟨h.1,h.2.belowAll d4⟩⟩)
 case ts7=>
  intro dn a3 w3 hd hs;obtain⟨x16,x19,x20,x22,x9,x23,x24,x7,rfl,D3,h1,h2,h3,h4,h5,h6,h7,h8⟩:=(hSt _ _ _).1 hs;clear hs;obtain⟨g5,rfl,b5⟩:=h5 (hd 13 (by decide));clear hd;refine aj ?_
  repeat (first|((with_reducible refine hq0 ?_);refine hq0a ?_)|((with_reducible refine hq5 ?_);refine hq5a ?_)|((with_reducible refine hq1 ?_);refine hq1a ?_))
  have d4:=Below.refl w3.heap.size w3;exact ax ((hSt _ _ _).2 ⟨_,_,_,_,_,_,_,_,rfl,D3.trans (d4.mono D3.size),fun e=>(h1 (by simpa using e)).imp fun _ h=>⟨h.1,h.2.belowAll d4⟩,fun e=>(h2 (by simpa using e)).imp fun _ h=>⟨h.1,h.2.belowAll d4⟩,fun e=>(h3 (by simpa using e)).imp fun _ h=>⟨h.1,h.2.belowAll d4⟩,fun e=>(h4 (by simpa using e)).imp fun _ h=>⟨h.1,h.2.belowAll d4⟩,fun e=>(h5 (by simpa using e)).imp fun _ h=>⟨h.1,h.2.belowAll d4⟩,fun e=>(h6 (by simpa using e)).imp fun _ h=>⟨h.1,h.2.belowAll d4⟩,fun _=>rfl,fun e=>(h8 (by simpa using e)).imp fun _ h=>⟨h.1,h.2.belowAll d4⟩⟩)
 case ts8=>
  intro dn a3 w3 hd hs;obtain⟨x16,x19,x20,x22,x9,x23,x24,x7,rfl,D3,h1,h2,h3,h4,h5,h6,h7,h8⟩:=(hSt _ _ _).1 hs;clear hs;obtain⟨g6,rfl,b6⟩:=h6 (hd 14 (by decide));clear hd;refine aj ?_
  repeat (first|((with_reducible refine hq0 ?_);refine hq0a ?_)|((with_reducible refine hq5 ?_);refine hq5a ?_)|((with_reducible refine hq1 ?_);refine hq1a ?_))
  have d4:=Below.refl w3.heap.size w3;exact ax ((hSt _ _ _).2 ⟨_,_,_,_,_,_,_,_,rfl,D3.trans (d4.mono D3.size),fun e=>(h1 (by simpa using e)).imp fun _ h=>⟨h.1,h.2.belowAll d4⟩,fun e=>(h2 (by simpa using e)).imp fun _ h=>⟨h.1,h.2.belowAll d4⟩,fun e=>(h3 (by simpa using e)).imp fun _ h=>⟨h.1,h.2.belowAll d4⟩,fun e=>(h4 (by simpa using e)).imp fun _ h=>⟨h.1,h.2.belowAll d4⟩,fun e=>(h5 (by simpa using e)).imp fun _ h=>⟨h.1,h.2.belowAll d4⟩,fun e=>(h6 (by simpa using e)).imp fun _ h=>⟨h.1,h.2.belowAll d4⟩,fun e=>h7 (by simpa using e),fun _=>⟨x23,rfl,b6⟩⟩)
 case tR=>
  intro dn a3 w3 hall hs;obtain⟨x16,x19,x20,x22,x9,x23,x24,x7,rfl,D3,h1,h2,h3,h4,h5,h6,h7,h8⟩:=(hSt _ _ _).1 hs;clear hs hSt;obtain⟨g1,rfl,b1⟩:=h1 (hall 6 (by simp));obtain⟨g2,rfl,b2⟩:=h2 (hall 9 (by simp));obtain⟨g3,rfl,b3⟩:=h3 (hall 10 (by simp));obtain⟨g4,rfl,b4⟩:=h4 (hall 12 (by simp));obtain⟨g5,rfl,b5⟩:=h5 (hall 13 (by simp));obtain⟨g6,rfl,b6⟩:=h6 (hall 14 (by simp));obtain rfl:=h7 (hall 15 (by simp));obtain⟨g8,rfl,b8⟩:=h8 (hall 16 (by simp));clear hall;have hC3:(fun w1=>Below W.drew.heap.size W.drew w1) w3:=D3
  (refine nV (v:= ?_) (a':= ?_) ?_ ?_ ?_ ?_ ?_)
  rotate_left;rotate_left
  ·assumption
  ·exact rfl
  ·(intro wq;go_simp;(try go_bits);exact rfl)
  ·(simp only[Act.put,zz1,zz2,zz3,Act.eval,zz4,zz5,zz6,zz7,zz8];exact rfl)
  refine cQ (hK' _ _ ?_);have D5:=hid (D0.out.trans ((((Below.refl W.heap.size W).drew).trans D3).mono D0.out.size));have O5:=hid (b8:Own8 w3 W.heap.size 5 x7 Z);clear hK' hC3 D3 b1 b2 b3 b4 b5 b6 b8 h1 h2 h3 h4 h5 h6 h7 h8;go_wp2;go_ret;exact⟨_,rfl,O5.out.base D0.out.size,D5.out⟩
theorem uV(g t:Nat)(ht:t≤16)(E D:Y8→Y8→Y8)(N B:Y8)(Ad:List (Y8))(a ra b:Option Addr)(n c m rc len d:Nat)(w:World)(hC:CphT w g E D)(hN:Rd8 w a n c N)(hr:RwAt w ra m rc Ad)(hn:n≤500)(hm:m≤900)(hsz: ∀k,k<m→(Ad.getD k []).length≤60000)(hlen:(putV Ad).length≤400)
  (hM:Rd8 w b len d B) (htl:t≤len) (h16:16≤len) (hl:len≤520) (X:Y8) (hX:D (encV t N Ad) B=X) (hXl:X.length=len) (hy:X.drop (len-t)=aa 8 t) (J:Nat) (hJ:len-t=J):
  Calls prog 51 #[.pointer (some ⟨g,0,none⟩),.int .i64 t,.slice a n c,.slice ra m rc,.slice b len d] w fun e w' => ∃q,e= .returned (.tuple #[.slice q J J,.int .i64 0])∧Rd8 w' q J J (X.take J)∧Below w.heap.size w w':=by
 refine(uT g t ht E D N B Ad a ra b n c m rc len d w hC hN hr hn hm hsz hlen hM htl h16 hl X hX hXl).mono ?_;rintro e w1 ⟨h1,_,d1⟩;obtain⟨q,h2,h3,_⟩:=h1 hy;rw[hJ]at h2 h3;exact⟨q,h2,h3,d1⟩
set_option linter.unusedVariables false in
theorem sA(s g h r f B nS cS nE cE J p:Nat)(made n ab:Int)(L:List (Int×Nat×Nat))(is:Bool)(E D:Y8→Y8→Y8)(T Bs X:Y8)(es:List (ByteArray×Int×Value))(aS aE:Option Addr)(w:World)(S:SfAt w s g h r made L)(hC:CphT w g E D)(hTm2:T.length≤390)(F:Blk w f 59 (FoC ab (.slice aE nE cE)))(O:OwnE w B (.slice aE es.length cE) es)(hne:es.length=nE)(hp:p<nE)(hsl:(entD es p).2.2= .slice aS nS cS)(hR:Rd8 w aS nS cS Bs)(h16:16≤nS)(hl:nS≤520)
  (hX:D (encV 16 (le64 (BitVec.ofInt 64 n)) [T]) Bs=X) (hXl:X.length=nS) (hy:X.drop (nS-16)=aa 8 16) (hJ:nS-16=J):
  Calls prog 31 #[.pointer (some ⟨s,0,none⟩),.agg (AtC n f (str T) p is)] w fun e w' => ∃q,e= .returned (.tuple #[.slice q J J,.int .i64 0])∧Rd8 w' q J J (X.take J)∧Below w.heap.size w w':=by
 obtain⟨A,hA⟩: ∃A:Array Value,A=AtC n f (str T) p is:=⟨_,rfl⟩;have hsz:A.size=5:=by rw[hA];rfl
 obtain⟨W,hW⟩: ∃W,w.alloc (.cells A 83)=W:=⟨_,rfl⟩;obtain⟨b0,d0,z0⟩:=new1 _ _ _ _ hW;have k0:W.cell? ⟨w.heap.size,0,none⟩=some (.int .i64 n):=by rw[b0.cell,hA];rfl
 have k2:W.cell? ⟨w.heap.size,2,none⟩=some (.string (str T)):=by rw[b0.cell,hA];rfl
 have kl:=b0.lt;have s0:W.cell? ⟨s,0,none⟩=some (.pointer (some ⟨g,0,none⟩)):=by rw[(S.blk.belowAll d0).cell];rfl
 have sl:=(S.blk.belowAll d0).lt;have hga: ∀w1,Below W.drew.heap.size W.drew w1→(ce 83 (.pointer (some ⟨w.heap.size,0,none⟩))).run prog w1= .ok (.agg A) w1:=fun w1 h1=>by
  have r:=(b0.drew.belowAll h1).row;rw[cB w1 _ _ _ (isAgg83 _) (sizeOf83 _) (by rw[r,hsz,show prog.cellsOf 83=5 by kernel_rfl];omega),r,show prog.cellsOf 83=5 by kernel_rfl];exact congrArg (fun z=>Result.ok (Value.agg z) w1) (show A.extract 0 5=A by rw[←hsz];simp)
 obtain⟨tx,tm,hEC⟩: ∃tx tm,entC (entD es p)= #[.string tx,.int .i64 tm,.slice aS nS cS]:=⟨(entD es p).1,(entD es p).2.1,by rw[entC,hsl]⟩;have OW:=hid (fun w3 (h3:Below w.heap.size w w3)=>show Calls prog 37 #[.agg A] w3 (fun e w' =>e= .returned (.agg #[.string tx,.int .i64 tm,.slice aS nS cS])∧Below w3.heap.size w3 w') by
  have:=kM f B nE cE p aE ab n (str T) is es w3 (F.belowAll h3) (O.below h3) hne hp ⟨aS,nS,cS,hsl⟩;rw[hEC]at this;rw[hA];exact this)
 obtain⟨N8,hN8⟩: ∃N8,le64 (BitVec.ofInt 64 n)=N8:=⟨_,rfl⟩;rw[hN8]at hX;obtain⟨mT,hTl⟩: ∃mT,T.length=mT:=⟨_,rfl⟩;have hTm:T.length≤maxLen:=by unfold maxLen;omega
 have HN8:=hid hN8;have HX:=hid hX;have HXL:=hid hXl;have HY:=hid hy;have HJ:=hid hJ;have C0:=hid (hC.below d0);have R0:=hid (hR.below d0);have D0:=hid d0;rw[←hA];clear b0 S hC hR F O hN8 hX hXl hy hJ hA hEC hsl hne;go_enter func31,ntmps31;go_upto_region 1 with fail
 try rw[hW]
 clear hW d0 z0;refine de [0,0,0,5,0,5,2,0,5,2,2,5,2,0,2,0,0,0,0] [0,1,2,3,4,5,7,8,11] [(6,2,_),(9,2,_),(10,2,_),(12,2,_),(13,0,_),(14,2,_),(15,0,_),(16,0,_)] (fun i=>if i=10 then [9]else if i=12 then [6]else if i=13 then [12]else if i=14 then [6,10,13]else if i=15 then [14]else if i=16 then [14]else []) [17,18] [_,_,_,_,_,_,_,_,_] [_,_] [0,0,0,5,0,5,0,5,5] [0,0] 8 rfl rfl rfl (by kernel_rfl) (by kernel_rfl) (by kernel_rfl) rfl rfl rfl (fun w1=>Below W.drew.heap.size W.drew w1) (fun _ _ h k=>h.trans (Below.mono k h.size)) (Below.refl _ _) (fun K' hK' => ?_);have Q1: ∀w1,(fun w1=>Below W.drew.heap.size W.drew w1) w1→w1.cell? ⟨s,0,none⟩=some (.pointer (some ⟨g,0,none⟩)):=fun w1 hw=>(hw.cell (p:=⟨s,0,none⟩) sl).trans s0;have Q2: ∀w1,(fun w1=>Below W.drew.heap.size W.drew w1) w1→w1.cell? ⟨w.heap.size,0,none⟩=some (.int .i64 n):=fun w1 hw=>(hw.cell (p:=⟨w.heap.size,0,none⟩) kl).trans k0;have Q3: ∀w1,(fun w1=>Below W.drew.heap.size W.drew w1) w1→w1.cell? ⟨w.heap.size,2,none⟩=some (.string (str T)):=fun w1 hw=>(hw.cell (p:=⟨w.heap.size,2,none⟩) kl).trans k2;have Q4: ∀w1,(fun w1=>Below W.drew.heap.size W.drew w1) w1→(ce 83 (.pointer (some ⟨w.heap.size,0,none⟩))).run prog w1= .ok (.agg A) w1:=fun w1 hw=>hga w1 hw
 repeat (first|((with_reducible refine hq0 ?_);refine hq0a ?_)|((with_reducible refine hq5 ?_);refine hq5a ?_ (fun _ hcw=>by have fQ1:=Q1 _ hcw;have fQ2:=Q2 _ hcw;have fQ3:=Q3 _ hcw;have fQ4:=Q4 _ hcw;go_simp;(try go_bits);exact rfl))|((with_reducible refine hq1 ?_);refine hq1a ?_))
 refine ax ?_;clear Q1 Q2 Q3 Q4;generalize hAct:Act.mk _ _=act;obtain⟨u,rfl⟩: ∃u:Nat→Value,act={tmps:=(fun u:Nat→Value=>(Value.pointer (some ⟨s,0,none⟩)::Value.agg A::u 2::Value.pointer (some ⟨w.heap.size,0,none⟩)::Value.slice none 0 0::Value.int .i64 0::Value.pointer (some ⟨s,0,none⟩)::Value.pointer (some ⟨s,0,none⟩)::Value.pointer (some ⟨s,0,none⟩)::Value.pointer (some ⟨g,0,none⟩)::Value.pointer (some ⟨w.heap.size,0,none⟩)::Value.int .i64 n::u 12::Value.pointer (some ⟨w.heap.size,2,none⟩)::Value.string (str T)::u 15::u 16::Value.agg A::u 18::u 19::u 20::u 21::u 22::[]).toArray) u,defers:=[]}:=by
  subst hAct;exact aI _ rfl
 clear hAct;obtain⟨St,hSt⟩: ∃St:(Nat→Bool)→Act→World→Prop,∀dn a' w',St dn a' w'↔(∃x12 x15 x16 x18 x19 x20 x21 x22:Value,a' ={tmps:=(Value.pointer (some ⟨s,0,none⟩)::Value.agg A::u 2::Value.pointer (some ⟨w.heap.size,0,none⟩)::Value.slice none 0 0::Value.int .i64 0::Value.pointer (some ⟨s,0,none⟩)::Value.pointer (some ⟨s,0,none⟩)::Value.pointer (some ⟨s,0,none⟩)::Value.pointer (some ⟨g,0,none⟩)::Value.pointer (some ⟨w.heap.size,0,none⟩)::Value.int .i64 n::x12::Value.pointer (some ⟨w.heap.size,2,none⟩)::Value.string (str T)::x15::x16::Value.agg A::x18::x19::x20::x21::x22::[]).toArray,defers:=[]}∧Below W.drew.heap.size W.drew w'∧(dn 6=true→ ∃g,x12= .slice (some ⟨g,0,none⟩) 8 8∧Rd8 w' (some ⟨g,0,none⟩) 8 8 N8)∧(dn 9=true→ ∃q:Option Addr×Nat,x15= .slice q.1 mT q.2∧RdQ w' q mT T)∧(dn 10=true→ ∃g,x16= .slice (some ⟨g,0,none⟩) 1 1∧RwAt w' (some ⟨g,0,none⟩) 1 1 [T])∧(dn 12=true→x18= .agg #[.string tx,.int .i64 tm,.slice aS nS cS])∧(dn 13=true→x19= .slice aS nS cS)∧(dn 14=true→ ∃q:Option Addr,x20= .tuple #[.slice q J J,.int .i64 0]∧Rd8 w' q J J (X.take J))∧(dn 15=true→ ∃q:Option Addr,x21= .slice q J J∧Rd8 w' q J J (X.take J))∧(dn 16=true→x22= .int .i64 0)):=⟨_,fun _ _ _=>Iff.rfl⟩;refine io (St:=St) [_,_,_,_,_,_,_,_] ⟨?vs1,?vs2,?vs3,?vs4,?vs5,?vs6,?vs7,?vs8,trivial⟩ ?vd ?vn ?vR ?v0
 case v0=>exact(hSt _ _ _).2 ⟨_,_,_,_,_,_,_,_,rfl,Below.refl _ _,fun h=>Bool.noConfusion h,fun h=>Bool.noConfusion h,fun h=>Bool.noConfusion h,fun h=>Bool.noConfusion h,fun h=>Bool.noConfusion h,fun h=>Bool.noConfusion h,fun h=>Bool.noConfusion h,fun h=>Bool.noConfusion h⟩
 case vd=>decide
 case vn=>decide
 case vs1=>
  intro dn a3 w3 hd hs;obtain⟨x12,x15,x16,x18,x19,x20,x21,x22,rfl,D3,h1,h2,h3,h4,h5,h6,h7,h8⟩:=(hSt _ _ _).1 hs;clear hs;clear hd;refine aj ?_;refine hqc ?_;go_simp;refine ae ?_;refine(ny n w3).mono ?_;rintro e w4 ⟨g4,rfl,r4,d4⟩;refine⟨_,rfl,d4,?_⟩
  try simp only[Act.put,zz1,zz2,zz3]
  rw[HN8.out]at r4;exact ax ((hSt _ _ _).2 ⟨_,_,_,_,_,_,_,_,rfl,D3.trans (d4.mono D3.size),fun _=>⟨g4,rfl,r4⟩,fun e=>(h2 (by simpa using e)).imp fun _ h=>⟨h.1,h.2.belowAll d4⟩,fun e=>(h3 (by simpa using e)).imp fun _ h=>⟨h.1,h.2.belowAll d4⟩,fun e=>h4 (by simpa using e),fun e=>h5 (by simpa using e),fun e=>(h6 (by simpa using e)).imp fun _ h=>⟨h.1,h.2.belowAll d4⟩,fun e=>(h7 (by simpa using e)).imp fun _ h=>⟨h.1,h.2.belowAll d4⟩,fun e=>h8 (by simpa using e)⟩)
 case vs2=>
  intro dn a3 w3 hd hs;obtain⟨x12,x15,x16,x18,x19,x20,x21,x22,rfl,D3,h1,h2,h3,h4,h5,h6,h7,h8⟩:=(hSt _ _ _).1 hs;clear hs;clear hd;refine aj ?_;refine tu (l:=T) rfl underlying9 underlying22 underlying5 hTm (fun w4 g4 c4 r4 d4=> ?_);simp only[Act.put,zz1,zz2,zz3];rw[hTl]at r4
  try rw[hTl]
  exact ax ((hSt _ _ _).2 ⟨_,_,_,_,_,_,_,_,rfl,D3.trans (d4.mono D3.size),fun e=>(h1 (by simpa using e)).imp fun _ h=>⟨h.1,h.2.belowAll d4⟩,fun _=>⟨(some ⟨g4,0,none⟩,c4),rfl,r4⟩,fun e=>(h3 (by simpa using e)).imp fun _ h=>⟨h.1,h.2.belowAll d4⟩,fun e=>h4 (by simpa using e),fun e=>h5 (by simpa using e),fun e=>(h6 (by simpa using e)).imp fun _ h=>⟨h.1,h.2.belowAll d4⟩,fun e=>(h7 (by simpa using e)).imp fun _ h=>⟨h.1,h.2.belowAll d4⟩,fun e=>h8 (by simpa using e)⟩)
 case vs3=>
  intro dn a3 w3 hd hs;obtain⟨x12,x15,x16,x18,x19,x20,x21,x22,rfl,D3,h1,h2,h3,h4,h5,h6,h7,h8⟩:=(hSt _ _ _).1 hs;clear hs;obtain⟨g2,rfl,b2⟩:=h2 (hd 9 (by decide));clear hd;refine aj ?_;refine sy (x:= .slice g2.1 mT g2.2) (z0:= .slice none 0 0) (size:=1) (bytes:=24) rfl rfl (by omega) (by omega) underlying129 ft (fun w4 g4 k4 d4=> ?_);simp only[Act.put,zz1,zz2,zz3];exact ax ((hSt _ _ _).2 ⟨_,_,_,_,_,_,_,_,rfl,D3.trans (d4.mono D3.size),fun e=>(h1 (by simpa using e)).imp fun _ h=>⟨h.1,h.2.belowAll d4⟩,fun e=>(h2 (by simpa using e)).imp fun _ h=>⟨h.1,h.2.belowAll d4⟩,fun _=>⟨g4,rfl,RwAt.of_one k4 (b2.belowAll d4)⟩,fun e=>h4 (by simpa using e),fun e=>h5 (by simpa using e),fun e=>(h6 (by simpa using e)).imp fun _ h=>⟨h.1,h.2.belowAll d4⟩,fun e=>(h7 (by simpa using e)).imp fun _ h=>⟨h.1,h.2.belowAll d4⟩,fun e=>h8 (by simpa using e)⟩)
 case vs4=>
  intro dn a3 w3 hd hs;obtain⟨x12,x15,x16,x18,x19,x20,x21,x22,rfl,D3,h1,h2,h3,h4,h5,h6,h7,h8⟩:=(hSt _ _ _).1 hs;clear hs;obtain⟨g1,rfl,b1⟩:=h1 (hd 6 (by decide));clear hd;refine aj ?_;have e3:Below W.heap.size W w3:=((Below.refl W.heap.size W).drew).trans D3;have f3:=D0.out.trans (e3.mono D0.out.size);refine hqc ?_;go_simp;refine ae ?_;refine(OW.out w3 f3).mono ?_;rintro e w4 ⟨rfl,d4⟩;refine⟨_,rfl,d4,?_⟩
  try simp only[Act.put,zz1,zz2,zz3]
  exact ax ((hSt _ _ _).2 ⟨_,_,_,_,_,_,_,_,rfl,D3.trans (d4.mono D3.size),fun e=>(h1 (by simpa using e)).imp fun _ h=>⟨h.1,h.2.belowAll d4⟩,fun e=>(h2 (by simpa using e)).imp fun _ h=>⟨h.1,h.2.belowAll d4⟩,fun e=>(h3 (by simpa using e)).imp fun _ h=>⟨h.1,h.2.belowAll d4⟩,fun _=>rfl,fun e=>h5 (by simpa using e),fun e=>(h6 (by simpa using e)).imp fun _ h=>⟨h.1,h.2.belowAll d4⟩,fun e=>(h7 (by simpa using e)).imp fun _ h=>⟨h.1,h.2.belowAll d4⟩,fun e=>h8 (by simpa using e)⟩)
 case vs5=>
  intro dn a3 w3 hd hs;obtain⟨x12,x15,x16,x18,x19,x20,x21,x22,rfl,D3,h1,h2,h3,h4,h5,h6,h7,h8⟩:=(hSt _ _ _).1 hs;clear hs;obtain rfl:=h4 (hd 12 (by decide));clear hd;refine aj ?_
  repeat (first|((with_reducible refine hq0 ?_);refine hq0a ?_)|((with_reducible refine hq5 ?_);refine hq5a ?_)|((with_reducible refine hq1 ?_);refine hq1a ?_))
  have d4:=Below.refl w3.heap.size w3;exact ax ((hSt _ _ _).2 ⟨_,_,_,_,_,_,_,_,rfl,D3.trans (d4.mono D3.size),fun e=>(h1 (by simpa using e)).imp fun _ h=>⟨h.1,h.2.belowAll d4⟩,fun e=>(h2 (by simpa using e)).imp fun _ h=>⟨h.1,h.2.belowAll d4⟩,fun e=>(h3 (by simpa using e)).imp fun _ h=>⟨h.1,h.2.belowAll d4⟩,fun e=>h4 (by simpa using e),fun _=>rfl,fun e=>(h6 (by simpa using e)).imp fun _ h=>⟨h.1,h.2.belowAll d4⟩,fun e=>(h7 (by simpa using e)).imp fun _ h=>⟨h.1,h.2.belowAll d4⟩,fun e=>h8 (by simpa using e)⟩)
 case vs6=>
  intro dn a3 w3 hd hs;obtain⟨x12,x15,x16,x18,x19,x20,x21,x22,rfl,D3,h1,h2,h3,h4,h5,h6,h7,h8⟩:=(hSt _ _ _).1 hs;clear hs;obtain⟨g1,rfl,b1⟩:=h1 (hd 6 (by decide));obtain⟨g3,rfl,b3⟩:=h3 (hd 10 (by decide));obtain rfl:=h5 (hd 13 (by decide));clear hd;refine aj ?_;have e3:Below W.heap.size W w3:=((Below.refl W.heap.size W).drew).trans D3;refine hqc ?_;go_simp;refine ae ?_;refine(uV g 16 (by omega) E D N8 Bs [T] (some ⟨g1,0,none⟩) (some ⟨g3,0,none⟩) aS 8 8 1 1 nS cS w3 (C0.out.below e3) b1 b3 (by omega) (by omega) (yE hTm2) (by rw[qr];omega) (R0.out.below e3) (by omega) h16 hl X HX.out HXL.out HY.out J HJ.out).mono ?_;rintro e w4 ⟨q4,rfl,r4,d4⟩;refine⟨_,rfl,d4,?_⟩
  try simp only[Act.put,zz1,zz2,zz3]
  exact ax ((hSt _ _ _).2 ⟨_,_,_,_,_,_,_,_,rfl,D3.trans (d4.mono D3.size),fun e=>(h1 (by simpa using e)).imp fun _ h=>⟨h.1,h.2.belowAll d4⟩,fun e=>(h2 (by simpa using e)).imp fun _ h=>⟨h.1,h.2.belowAll d4⟩,fun e=>(h3 (by simpa using e)).imp fun _ h=>⟨h.1,h.2.belowAll d4⟩,fun e=>h4 (by simpa using e),fun e=>h5 (by simpa using e),fun _=>⟨q4,rfl,r4⟩,fun e=>(h7 (by simpa using e)).imp fun _ h=>⟨h.1,h.2.belowAll d4⟩,fun e=>h8 (by simpa using e)⟩)
 case vs7=>
  intro dn a3 w3 hd hs;obtain⟨x12,x15,x16,x18,x19,x20,x21,x22,rfl,D3,h1,h2,h3,h4,h5,h6,h7,h8⟩:=(hSt _ _ _).1 hs;clear hs;obtain⟨g6,rfl,b6⟩:=h6 (hd 14 (by decide));clear hd;refine aj ?_
  repeat (first|((with_reducible refine hq0 ?_);refine hq0a ?_)|((with_reducible refine hq5 ?_);refine hq5a ?_)|((with_reducible refine hq1 ?_);refine hq1a ?_))
  have d4:=Below.refl w3.heap.size w3;exact ax ((hSt _ _ _).2 ⟨_,_,_,_,_,_,_,_,rfl,D3.trans (d4.mono D3.size),fun e=>(h1 (by simpa using e)).imp fun _ h=>⟨h.1,h.2.belowAll d4⟩,fun e=>(h2 (by simpa using e)).imp fun _ h=>⟨h.1,h.2.belowAll d4⟩,fun e=>(h3 (by simpa using e)).imp fun _ h=>⟨h.1,h.2.belowAll d4⟩,fun e=>h4 (by simpa using e),fun e=>h5 (by simpa using e),fun e=>(h6 (by simpa using e)).imp fun _ h=>⟨h.1,h.2.belowAll d4⟩,fun _=>⟨g6,rfl,b6⟩,fun e=>h8 (by simpa using e)⟩)
 case vs8=>
  intro dn a3 w3 hd hs;obtain⟨x12,x15,x16,x18,x19,x20,x21,x22,rfl,D3,h1,h2,h3,h4,h5,h6,h7,h8⟩:=(hSt _ _ _).1 hs;clear hs;obtain⟨g6,rfl,b6⟩:=h6 (hd 14 (by decide));clear hd;refine aj ?_
  repeat (first|((with_reducible refine hq0 ?_);refine hq0a ?_)|((with_reducible refine hq5 ?_);refine hq5a ?_)|((with_reducible refine hq1 ?_);refine hq1a ?_))
  have d4:=Below.refl w3.heap.size w3;exact ax ((hSt _ _ _).2 ⟨_,_,_,_,_,_,_,_,rfl,D3.trans (d4.mono D3.size),fun e=>(h1 (by simpa using e)).imp fun _ h=>⟨h.1,h.2.belowAll d4⟩,fun e=>(h2 (by simpa using e)).imp fun _ h=>⟨h.1,h.2.belowAll d4⟩,fun e=>(h3 (by simpa using e)).imp fun _ h=>⟨h.1,h.2.belowAll d4⟩,fun e=>h4 (by simpa using e),fun e=>h5 (by simpa using e),fun e=>(h6 (by simpa using e)).imp fun _ h=>⟨h.1,h.2.belowAll d4⟩,fun e=>(h7 (by simpa using e)).imp fun _ h=>⟨h.1,h.2.belowAll d4⟩,fun _=>rfl⟩)
 case vR=>
  intro dn a3 w3 hall hs;obtain⟨x12,x15,x16,x18,x19,x20,x21,x22,rfl,D3,h1,h2,h3,h4,h5,h6,h7,h8⟩:=(hSt _ _ _).1 hs;clear hs hSt;obtain⟨g1,rfl,b1⟩:=h1 (hall 6 (by simp));obtain⟨g2,rfl,b2⟩:=h2 (hall 9 (by simp));obtain⟨g3,rfl,b3⟩:=h3 (hall 10 (by simp));obtain rfl:=h4 (hall 12 (by simp));obtain rfl:=h5 (hall 13 (by simp));obtain⟨g6,rfl,b6⟩:=h6 (hall 14 (by simp));obtain⟨g7,rfl,b7⟩:=h7 (hall 15 (by simp));obtain rfl:=h8 (hall 16 (by simp));clear hall;have hC3:(fun w1=>Below W.drew.heap.size W.drew w1) w3:=D3
  (refine nV (v:= ?_) (a':= ?_) ?_ ?_ ?_ ?_ ?_)
  rotate_left;rotate_left
  ·assumption
  ·exact rfl
  ·(intro wq;go_simp;(try go_bits);exact rfl)
  ·(simp only[Act.put,zz1,zz2,zz3,Act.eval,zz4,zz5,zz6,zz7,zz8];exact rfl)
  (refine nV (v:= ?_) (a':= ?_) ?_ ?_ ?_ ?_ ?_)
  rotate_left;rotate_left
  ·assumption
  ·exact rfl
  ·(intro wq;go_simp;(try go_bits);exact rfl)
  ·(simp only[Act.put,zz1,zz2,zz3,Act.eval,zz4,zz5,zz6,zz7,zz8];exact rfl)
  refine cQ (hK' _ _ ?_);have D5:=hid (D0.out.trans ((((Below.refl W.heap.size W).drew).trans D3).mono D0.out.size));have O5:=hid b7;clear hK' hC3 D3 b1 b2 b3 b6 b7 h1 h2 h3 h4 h5 h6 h7 h8;go_wp2;go_ret2;exact⟨_,rfl,O5.out,D5.out⟩
end Go.Proofs.YtlpkfdkhlffmlaaGreatDoor
