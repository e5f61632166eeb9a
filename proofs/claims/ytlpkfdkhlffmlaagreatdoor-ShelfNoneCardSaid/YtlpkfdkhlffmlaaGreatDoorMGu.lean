/-A region that draws its order and only reads,or makes new memory:walked once,in the order of its text;every value is the same in all worlds that keep what was there. -/
import Derived.Deep.Quiet
import Derived.Test.YtlpkfdkhlffmlaaGreatDoorMGt
namespace Go.Proofs.YtlpkfdkhlffmlaaGreatDoor
set_option linter.unusedSimpArgs false
set_option linter.unusedVariables false
set_option maxRecDepth 100000
set_option maxHeartbeats 1600000
open Go.RowKit
def wpQ(P:Program)(ops:Array Oper)(C:World→Prop)(K:Act→Prop)(l:List Oper)(a:Act):Prop:=wpQuiet P ops C K l a
section
variable {P:Program} {ops:Array Oper}
variable {C:World→Prop} {K:Act→Prop} {l:List Oper} {o:Oper} {a a':Act} {v:Value}
def nZ(P:Program)(r:Result Next)(w:World)(v:Value):Prop:= ∃f args,r= .ok (.enter f args) w∧Calls P f args w fun e w' =>e= .returned v∧Below w.heap.size w w'
theorem rq {P:Program} {f:FuncId} {args:Array Value} {w:World} {v:Value}(h:Calls P f args w fun e w' =>e= .returned v∧Below w.heap.size w w'):nZ P (.ok (.enter f args) w) w v:=⟨f,args,rfl,h⟩
end
attribute [irreducible] wpQ
open Go.RowKit
section
variable {P:Program} {ops:Array Oper} {C:World→Prop}
def zD(P:Program)(C:World→Prop)(o:Oper)(a:Act)(v:Value):Prop:= ∀w,C w→((execOp a.eval o).run P w= .ok (.value v) w∨nZ P ((execOp a.eval o).run P w) w v)
def oc(P:Program)(ops:Array Oper)(C:World→Prop)(o:Oper)(a:Act)(v:Value):Prop:=
 (Region.wanted o (yielded ops a.tmps)=true∧zD P C o a v)∨(Region.wanted o (yielded ops a.tmps)=false∧v=undef)
def ic(P:Program)(ops:Array Oper)(C:World→Prop)(k:Nat)(o:Oper)(a:Act)(v:Value):Prop:=if k=0 then Yields P ops o v a else oc P ops C o a v
def opB(P:Program)(ops:Array Oper)(C:World→Prop)(k:Nat)(o:Oper)(K:Act→Prop)(a:Act):Prop:= ∃v,ic P ops C k o a v∧K (a.put o.dst v)
theorem pr {o:Oper} {a a':Act} {v:Value}(h:oc P ops C o a v)(he:execOp a'.eval o=execOp a.eval o)(hw:Region.wanted o (yielded ops a'.tmps)=Region.wanted o (yielded ops a.tmps)):oc P ops C o a' v:=by
 rcases h with⟨h1,h2⟩|⟨h1,h2⟩
 ·exact .inl ⟨by rw[hw];exact h1,fun w hc=>by rw[he];exact h2 w hc⟩
 ·exact .inr ⟨by rw[hw];exact h1,h2⟩
theorem fP {k:Nat} {o:Oper} {a a':Act} {v:Value}(h:ic P ops C k o a v)(he:execOp a'.eval o=execOp a.eval o)(hw:Region.wanted o (yielded ops a'.tmps)=Region.wanted o (yielded ops a.tmps)):ic P ops C k o a' v:=by
 unfold ic at*
 split at h
 ·rename_i hk;rw[if_pos hk];exact h.of_same he hw
 ·rename_i hk;rw[if_neg hk];exact pr h he hw
theorem vY {k:Nat} {o:Oper} {a:Act} {v:Value}(h:ic P ops C k o a v):oc P ops C o a v:=by
 unfold ic at h
 split at h
 ·rcases h with⟨h1,h2⟩|⟨h1,h2⟩
  ·exact .inl ⟨h1,fun w _=> .inl (h2 w)⟩
  ·exact .inr ⟨h1,h2⟩
 ·exact h
theorem eS {k:Nat} {o:Oper} {K K':Act→Prop} {a:Act}(hk: ∀a,K a→K' a)(h:opB P ops C k o K a):opB P ops C k o K' a:=by
 obtain⟨v,h1,h2⟩:=h;exact⟨v,h1,hk _ h2⟩
theorem xD {k:Nat} {i:Oper}(d:Option Tmp)(u:Value)(hsi: ∀cs b,i.op≠ .select cs b)(h1: ∀t,d=some t→t∉i.looksAt ops)(h2: ∀t,d=some t→i.dst≠some t) {K:Act→Prop} {a:Act}
  (h:opB P ops C k i (fun a=>K (a.put d u)) a):opB P ops C k i K (a.put d u):=by
 obtain⟨v,hy,hk⟩:=h;refine⟨v,fP hy (execOp_put i hsi a d u h1) (wanted_put i a d u h1),?_⟩;rw[Act.put_comm a u v h2];exact hk
theorem Bv {kx ki:Nat} {x i:Oper}(hap:x.apart ops i=true)(hsx: ∀cs b,x.op≠ .select cs b)(hsi: ∀cs b,i.op≠ .select cs b) {K:Act→Prop} {a:Act}
  (h:opB P ops C kx x (fun a=>opB P ops C ki i K a) a):opB P ops C ki i (fun a=>opB P ops C kx x K a) a:=by
 obtain⟨h1,h2,h3⟩:=Oper.apart_spec hap;obtain⟨v,hx,u,hi,hK⟩:=h;refine⟨u,fP hi (execOp_put i hsi a x.dst v h1).symm (wanted_put i a x.dst v h1).symm,v,fP hx (execOp_put x hsx a i.dst u h3) (wanted_put x a i.dst u h3),?_⟩;rw[←Act.put_comm a v u h2];exact hK
def wpB(P:Program)(ops:Array Oper)(C:World→Prop)(kd:Nat→Nat)(K:Act→Prop):List Nat→Act→Prop
 | [],a=>K a
 |i::r,a=>match ops[i]? with
  |none=>wpB P ops C kd K r a
  |some o=>opB P ops C (kd i) o (wpB P ops C kd K r) a
theorem fQ {kd:Nat→Nat} {K K':Act→Prop}(hk: ∀a,K a→K' a): ∀(L:List Nat) (a:Act),wpB P ops C kd K L a→wpB P ops C kd K' L a
 | [],a,h=>hk a h
 |i::r,a,h=>by
  unfold wpB at*
  split at h
  ·exact fQ hk r a h
  ·exact eS (fun a=>fQ hk r a) h
theorem od {kd:Nat→Nat}(d:Option Tmp)(u:Value) {K:Act→Prop}: ∀(L:List Nat) (a:Act),(∀i∈L,∀o,ops[i]? =some o→(∀cs b,o.op≠ .select cs b)∧(∀t,d=some t→t∉o.looksAt ops)∧(∀t,d=some t→o.dst≠some t))→
  wpB P ops C kd (fun a=>K (a.put d u)) L a→wpB P ops C kd K L (a.put d u)
 | [],a,_,h=>h
 |i::r,a,hL,h=>by
  unfold wpB at*
  split at h
  ·exact od d u r a (fun j hj=>hL j (by simp[hj])) h
  ·rename_i o ho;obtain⟨h0,h1,h2⟩:=hL i (by simp) o ho;exact xD d u h0 h1 h2 (eS (fun a h=>od d u r a (fun j hj=>hL j (by simp[hj])) h) h)
theorem sV {kd:Nat→Nat} {i:Nat} {o:Oper}(ho:ops[i]? =some o)(hsi: ∀cs b,o.op≠ .select cs b) {K:Act→Prop} {R:List Nat}: ∀(M:List Nat) (a:Act),(∀x∈M,∀ox,ops[x]? =some ox→ox.apart ops o=true∧ ∀cs b,ox.op≠ .select cs b)→
  wpB P ops C kd K (M++i::R) a→opB P ops C (kd i) o (wpB P ops C kd K (M++R)) a
 | [],a,_,h=>by simpa[wpB,ho]using h
 |x::M,a,hM,h=>by
  have ih:=fun a=>sV (kd:=kd) ho hsi (K:=K) (R:=R) M a (fun y hy=>hM y (by simp[hy]));rw[List.cons_append]at h⊢;unfold wpB at h
  split at h
  ·rename_i hx;refine eS (fun a h=> ?_) (ih _ h);unfold wpB;rw[hx];exact h
  ·rename_i ox hx;obtain⟨hap,hsx⟩:=hM x (by simp) ox hx;refine eS (fun a h=> ?_) (Bv hap hsx hsi (eS (fun a=>ih a) h));unfold wpB;rw[hx];exact h
def fin(C:World→Prop)(N:Nat)(K:Act→World→Prop):List (Option Tmp×Obj)→(World→Prop)→Act→Prop
 | [],D,a=> ∀w,C w→D w→K a w
 |x::A,D,a=> ∀g,N≤g→fin C N K A (fun w=>D w∧w.heap[g]? =some x.2) (a.put x.1 (.pointer (some ⟨g,0,none⟩)))
theorem lB {N:Nat} {K:Act→World→Prop}: ∀(A:List (Option Tmp×Obj)) (D D':World→Prop) (a:Act),(∀w,D' w→D w)→fin C N K A D a→fin C N K A D' a
 | [],_,_,_,hd,h=>fun w hc hD=>h w hc (hd w hD)
 |_::A,_,_,_,hd,h=>fun g hg=>lB A _ _ _ (fun w ⟨h1,h2⟩=>⟨hd w h1,h2⟩) (h g hg)
theorem pu {N:Nat} {K:Act→World→Prop}(x:Option Tmp×Obj): ∀(A1 A2:List (Option Tmp×Obj)) (D:World→Prop) (a:Act),(∀y∈A1,∀t,y.1=some t→x.1≠some t)→
  fin C N K (A1++x::A2) D a→ ∀g,N≤g→fin C N K (A1++A2) (fun w=>D w∧w.heap[g]? =some x.2) (a.put x.1 (.pointer (some ⟨g,0,none⟩)))
 | [],A2,D,a,_,h,g,hg=>h g hg
 |y::A1,A2,D,a,hy,h,g,hg=>by
  intro g' hg';have:=pu x A1 A2 _ _ (fun z hz=>hy z (by simp[hz])) (h g' hg') g hg;rw[Act.put_comm a _ _ (hy y (by simp))]at this;exact lB _ _ _ _ (fun w ⟨⟨h1,h2⟩,h3⟩=>⟨⟨h1,h3⟩,h2⟩) this
def yx(P:Program)(o:Oper)(ob:Obj):Prop:=o.guard=none∧ ∀(a:Act) (w:World),(execOp a.eval o).run P w= .ok (.value (.pointer (some ⟨w.heap.size,0,none⟩))) (w.alloc ob)
def oe(ops:Array Oper)(m:Nat)(al:List Nat)(ks:List Nat):Bool:=
 Region.noSelect ops&&decide (m≤ops.size)&&
 (List.range ops.size).all (fun i=>match ops[i]? with|some o=>o.after.toList.all fun e=> !Region.binds .any e||decide (e.on<i)|none=>true)&&
 (List.range m).all (fun i=>(List.range i).all fun x=>(!al.contains i&& !al.contains x&&((aR ops.toList []).getD i 0).testBit x)||(match ops[x]?,ops[i]? with|some ox,some oi=>ox.apart ops oi|_,_=>false))&&
 (List.range ops.size).all (fun i=>decide (i<m)||(List.range m).all fun x=>((aR ops.toList []).getD i 0).testBit x||(decide (ks.getD x 2=0)&& !al.contains x))&&
 (List.range ops.size).all fun i=>(decide (i<m)&&decide (ks.getD i 2≠0))||(List.range i).all fun x=>(decide (x<m)&&decide (ks.getD x 2≠0))||((aR ops.toList []).getD i 0).testBit x||ls ops (fun j=>ks.getD j 2) x i
theorem ud {x i:Oper}(h:x.apart ops i=true):i.apart ops x=true:=by
 obtain⟨h1,h2,h3⟩:=Oper.apart_spec h;unfold Oper.apart;rw[Bool.and_eq_true];refine⟨?_,?_⟩
 ·cases hd:i.dst with
  |none=>rfl
  |some d=>
   simp only[Bool.and_eq_true,Bool.not_eq_true',bne_iff_ne,ne_eq];exact⟨by simpa using h3 d hd,fun he=>h2 d he hd⟩
 ·cases hd:x.dst with
  |none=>rfl
  |some d=>simp only[Bool.not_eq_true'];simpa using h1 d hd
theorem iL {listed:Array Bool}(hback: ∀i o,ops[i]? =some o→ ∀e∈o.after.toList,Region.binds .any e=true→e.on<i)(hsz:listed.size=ops.size): ∀i,i<ops.size→listed.getD i true=false→Region.ready .any ops listed≠ []:=by
 intro i
 induction i using Nat.strongRecOn with
 |_ i ih=>
  intro hi hun hr;by_cases hall: ∀e∈(ops[i]).after,Region.binds .any e=true→listed.getD e.on false=true
  ·have:i∈Region.ready .any ops listed:=mem_ready.2 ⟨hun,ops[i],Array.getElem?_eq_getElem hi,hall⟩;rw[hr]at this;cases this
  ·simp only[Classical.not_forall]at hall;obtain⟨e,he,hb,hl⟩:=hall;have hlt:=hback i _ (Array.getElem?_eq_getElem hi) e (by simpa using he) hb;have h2:e.on<listed.size:=by omega
   exact ih e.on hlt (by omega) (by simp[h2]at hl⊢;exact hl) hr
theorem jW {kd:Nat→Nat} {K:Act→World→Prop} {R:List Nat} {w:World}: ∀(L:List Nat) (a:Act),(∀i∈L,kd i=0)→wpB P ops C kd (fun a=>wpT P ops kd K R a w) L a→wpT P ops kd K (L++R) a w
 | [],a,_,h=>h
 |i::L,a,hL,h=>by
  have ih:=fun a=>jW (K:=K) (R:=R) (w:=w) L a (fun j hj=>hL j (by simp[hj]));rw[List.cons_append];unfold wpB at h;unfold wpT
  split at h
  ·rename_i hi;rw[hi];exact ih a h
  ·rename_i o hi;rw[hi];obtain⟨v,hy,hk⟩:=h;have h0:=hL i (by simp);unfold ic at hy;rw[if_pos h0]at hy;simp only[h0,opT];exact⟨v,hy,ih _ hk⟩
theorem rt {listed:Array Bool} {i:Nat} {o:Oper}(hilt:i<ops.size)(hsz:listed.size=ops.size)(ho:ops[i]? =some o)(hedges: ∀e∈o.after.toList,Region.binds .any e=true→listed.getD e.on false=true)
  (hcl: ∀i o,ops[i]? =some o→listed.getD i false=true→ ∀e∈o.after.toList,Region.binds .any e=true→listed.getD e.on false=true):
  ∀j oj,ops[j]? =some oj→(listed.setIfInBounds i true).getD j false=true→ ∀e∈oj.after.toList,Region.binds .any e=true→(listed.setIfInBounds i true).getD e.on false=true:=by
 intro j oj hoj hl e he hb;have hset: ∀k,listed.getD k false=true→(listed.setIfInBounds i true).getD k false=true:=by
  intro k hk;by_cases hki:i=k
  ·subst hki;have:i<listed.size:=by omega
   simp[this]
  ·rw[getD_set_ne false hki];exact hk
 by_cases hji:i=j
 ·subst hji;have:o=oj:=by rw[ho]at hoj;exact Option.some.inj hoj
  subst this;exact hset _ (hedges e he hb)
 ·rw[getD_set_ne false hji]at hl;exact hset _ (hcl j oj hoj hl e he hb)
theorem og {listed:Array Bool} {i m:Nat} {L M:List Nat}(hsz:listed.size=ops.size)(him:i<m)(hun: ∀i,i<ops.size→(listed.getD i true=false↔i∈M∨m≤i))(hL: ∀j,j∈L↔j∈M∧j≠i):
  ∀j,j<ops.size→((listed.setIfInBounds i true).getD j true=false↔j∈L∨m≤j):=by
 intro j hj;by_cases hji:i=j
 ·subst hji;have:i<listed.size:=by omega
  simp only[hL,ne_eq,not_true_eq_false,and_false,false_or];constructor
  ·intro hf;simp[this]at hf
  ·intro hf;omega
 ·rw[getD_set_ne true hji,hun j hj,hL];constructor
  ·rintro(h1|h1)
   ·exact .inl ⟨h1,fun e=>hji e.symm⟩
   ·exact .inr h1
  ·rintro(h1|h1)
   ·exact .inl h1.1
   ·exact .inr h1
theorem sW {L1 L2 M:List Nat} {i:Nat}(hnd:((L1++i::L2)++M).Nodup)(j:Nat):j∈(L1++L2)++M↔j∈(L1++i::L2)++M∧j≠i:=by
 rw[List.append_assoc,List.nodup_append]at hnd;obtain⟨_,hn2,hn3⟩:=hnd;rw[List.cons_append,List.nodup_cons]at hn2;constructor
 ·intro hj;have hj':j∈L1∨j∈L2++M:=by simpa[or_assoc]using hj
  refine⟨?_,fun e=> ?_⟩
  ·simp only[List.append_assoc,List.mem_append,List.cons_append,List.mem_cons]at hj'⊢;rcases hj' with h1|h1|h1
   ·exact .inl h1
   ·exact .inr (.inr (.inl h1))
   ·exact .inr (.inr (.inr h1))
  ·subst e;rcases hj' with h1|h1
   ·exact hn3 j h1 j (by simp) rfl
   ·exact hn2.1 h1
 ·rintro⟨h1,h2⟩;simp only[List.append_assoc,List.mem_append,List.cons_append,List.mem_cons]at h1⊢;rcases h1 with h1|h1|h1
  ·exact .inl h1
  ·exact absurd h1 h2
  ·exact .inr h1
theorem vZ {L1 L2 M:List Nat} {i:Nat}(hnd:(M++(L1++i::L2)).Nodup)(j:Nat):j∈M++(L1++L2)↔j∈M++(L1++i::L2)∧j≠i:=by
 have:=sW (L1:=M++L1) (L2:=L2) (M:=[]) (i:=i) (by simpa using hnd) j;simpa using this
theorem ru {m N:Nat} {al:List Nat} {ks:List Nat} {K:Act→World→Prop} {Q:Exit→Act→World→Prop}(ob:Nat→Obj)(hok:oe ops m al ks=true)(hal: ∀i∈al,∀o,ops[i]? =some o→yx P o (ob i))
  (hC: ∀w w',C w→Below w.heap.size w w'→C w') (hN: ∀w,C w→N≤w.heap.size) (hK: ∀a w,K a w→Q .normal a w):
  ∀(n:Nat) (Lq La:List Nat) (D:World→Prop) (listed:Array Bool) (a:Act) (w:World),Lq.length+La.length=n→Lq.Pairwise (· < ·)→(Lq++La).Nodup→(∀i∈La,i∈al)→(∀i∈Lq,i∉al)→(∀i∈Lq++La,i<m)→listed.size=ops.size→
   (∀i,i<ops.size→(listed.getD i true=false↔i∈Lq++La∨m≤i))→(∀i o,ops[i]? =some o→listed.getD i false=true→ ∀e∈o.after.toList,Region.binds .any e=true→listed.getD e.on false=true)→
   (∀w w',D w→Below w.heap.size w w'→D w')→C w→D w→
   wpB P ops C (fun j=>ks.getD j 2) (fin C N (wpT P ops (fun j=>ks.getD j 2) K (List.range' m (ops.size-m))) (La.map fun i=>((ops[i]?).bind (·.dst),ob i)) D) Lq a→
   wpAny P .any ops Q (n+(ops.size-m)) listed a w:=by
 unfold oe at hok;simp only[Bool.and_eq_true,decide_eq_true_eq,List.all_eq_true,List.mem_range]at hok;obtain⟨⟨⟨⟨⟨hs,hm⟩,hback⟩,hpre⟩,hmid⟩,hsuf⟩:=hok;have hbk: ∀i o,ops[i]? =some o→ ∀e∈o.after.toList,Region.binds .any e=true→e.on<i:=by
  intro i o ho e he hb;have h1:=hback i (Array.getElem?_eq_some_iff.1 ho).1;rw[ho]at h1;have h2:=List.all_eq_true.1 h1 e he;simp only[Bool.or_eq_true,Bool.not_eq_true',decide_eq_true_eq]at h2;rcases h2 with h2|h2
  ·rw[hb]at h2;cases h2
  ·exact h2
 have hap: ∀x i ox oi,x<i→i<m→ops[x]? =some ox→ops[i]? =some oi→(x∈al∨i∈al∨((aR ops.toList []).getD i 0).testBit x≠true)→ox.apart ops oi=true:=by
  intro x i ox oi hxi him hx hi hc;have:=hpre i him x hxi;rw[hx,hi]at this;simp only[Bool.or_eq_true,Bool.and_eq_true,Bool.not_eq_true',List.contains_eq_mem,decide_eq_false_iff_not]at this;rcases this with⟨⟨h1,h2⟩,h3⟩|h
  ·rcases hc with hc|hc|hc
   ·exact absurd hc h2
   ·exact absurd hc h1
   ·exact absurd h3 hc
  ·exact h
 have over: ∀(Lq:List Nat) (D:World→Prop) (listed:Array Bool) (a:Act) (w:World),Lq.Pairwise (· < ·)→(∀i∈Lq,ks.getD i 2=0)→(∀i∈Lq,i<m)→listed.size=ops.size→
   (∀i,i<ops.size→(listed.getD i true=false↔i∈Lq∨m≤i))→(∀i o,ops[i]? =some o→listed.getD i false=true→ ∀e∈o.after.toList,Region.binds .any e=true→listed.getD e.on false=true)→C w→D w→
   wpB P ops C (fun j=>ks.getD j 2) (fin C N (wpT P ops (fun j=>ks.getD j 2) K (List.range' m (ops.size-m))) [] D) Lq a→wpAny P .any ops Q (Lq.length+(ops.size-m)) listed a w:=by
  intro Lq D listed a w hsort h0 hlt hsz hun hcl hCw hDw h;have h':wpT P ops (fun j=>ks.getD j 2) K (Lq++List.range' m (ops.size-m)) a w:=jW Lq a h0 (fQ (fun a h=>h w hCw hDw) Lq a h);refine gO (fun i=>m≤i∨ks.getD i 2=0) (kd:=fun j=>ks.getD j 2) hs hK hbk (fun i x hi hx hii hxi=> ?_) _ _ listed a w (by simp) (fun i hi=> ?_) (List.pairwise_append.2 ⟨hsort,List.pairwise_lt_range',fun x hx y hy=> ?_⟩) hsz (fun i=> ?_) hcl h'
  ·have:=hsuf i hi;simp only[Bool.or_eq_true,Bool.and_eq_true,decide_eq_true_eq,List.all_eq_true,List.mem_range]at this;rcases this with⟨h1,h2⟩|h1
   ·rcases hii with h3|h3
    ·omega
    ·exact absurd h3 h2
   ·rcases h1 x hxi with(⟨h2,h3⟩|h2)|h2
    ·rcases hx with h4|h4
     ·omega
     ·exact absurd h4 h3
    ·exact .inl h2
    ·exact .inr h2
  ·rcases List.mem_append.1 hi with hi|hi
   ·exact .inr (h0 i hi)
   ·exact .inl (List.mem_range'_1.1 hi).1
  ·have:=hlt x hx;have:=(List.mem_range'_1.1 hy).1;omega
  ·rw[List.mem_append,List.mem_range'_1];constructor
   ·rintro(h1|h1)
    ·have:=hlt i h1;exact⟨by omega,(hun i (by omega)).2 (.inl h1)⟩
    ·exact⟨by omega,(hun i (by omega)).2 (.inr h1.1)⟩
   ·rintro⟨h1,h2⟩;rcases(hun i h1).1 h2 with h3|h3
    ·exact .inl h3
    ·exact .inr ⟨h3,by omega⟩
 intro n
 induction n with
 |zero=>
  intro Lq La D listed a w hlen hsort hnd hLa hLq hlt hsz hun hcl hD hCw hDw h;have e1:Lq=[]:=List.eq_nil_of_length_eq_zero (by omega);have e2:La=[]:=List.eq_nil_of_length_eq_zero (by omega);subst e1 e2;exact over [] D listed a w List.Pairwise.nil (by simp) (by simp) hsz hun hcl hCw hDw h
 |succ n ih=>
  intro Lq La D listed a w hlen hsort hnd hLa hLq hlt hsz hun hcl hD hCw hDw h;by_cases hov:La=[]∧ ∀i∈Lq,ks.getD i 2=0
  ·obtain⟨rfl,h0⟩:=hov;have:=over Lq D listed a w hsort h0 (fun i hi=>hlt i (by simp[hi])) hsz (fun i hi=>by simpa using hun i hi) hcl hCw hDw h;rw[←hlen];simpa using this
  obtain⟨u,hu,huk⟩: ∃u,u∈Lq++La∧(u∈al∨ks.getD u 2≠0):=by
   cases hq:La with
   |cons u r=>exact⟨u,by simp,.inl (hLa u (by simp[hq]))⟩
   |nil=>
    apply Classical.byContradiction;intro hno;refine hov ⟨hq,fun i hi=>Classical.byContradiction fun hne=>hno ⟨i,by simp[hi],.inr hne⟩⟩
  have hum:=hlt u hu;have huun:=(hun u (by omega)).2 (.inl hu);rw[show n+1+(ops.size-m)=(n+(ops.size-m))+1 by omega];refine⟨fun hr=>absurd hr (iL hbk hsz u (by omega) huun),fun i hi=> ?_⟩;obtain⟨hiun,o,ho,hedges⟩:=mem_ready.1 hi;have hilt:=(Array.getElem?_eq_some_iff.1 ho).1;have hlisted: ∀x,((aR ops.toList []).getD i 0).testBit x=true→listed.getD x false=true:=fun x hx=>
   cl (ops:=ops) (listed:=listed) hcl ops.toList [] (by simp) (fun i o hi=>by simp at hi) i o (by rw[cn];simpa using hilt) ho (fun e he hb=>hedges e (by simpa using he) hb) x hx
  have him:i<m:=by
   apply Classical.byContradiction;intro hge;have:=hmid i hilt;simp only[Bool.or_eq_true,Bool.and_eq_true,Bool.not_eq_true',List.contains_eq_mem,decide_eq_true_eq,decide_eq_false_iff_not,List.all_eq_true,List.mem_range]at this;rcases this with h1|h1
   ·exact hge h1
   ·rcases h1 u hum with h1|h1;rotate_left
    ·rcases huk with h4|h4
     ·exact absurd h4 h1.2
     ·exact absurd h1.1 h4
    have h2:=hlisted u h1;have h3:u<listed.size:=by omega
    simp[h3]at h2 huun;rw[h2]at huun;cases huun
  have hcl':=rt (i:=i) hilt hsz ho (fun e he hb=>hedges e (by simpa using he) hb) hcl;have hun':=fun(L:List Nat) hL=>og (m:=m) (L:=L) (M:=Lq++La) hsz him hun hL;have hsel:=Region.noSelect_spec hs;rcases(hun i hilt).1 hiun with hin|hin;rotate_left
  ·omega
  rcases List.mem_append.1 hin with hiq|hia
  ·
   obtain⟨L1,L2,rfl⟩:=List.append_of_mem hiq;have hb:=sV ho (fun cs b=>hsel i o cs b ho) L1 a (fun x hx ox hox=>⟨?_,fun cs b=>hsel x ox cs b hox⟩) h
   ·have hL:=sW hnd;have go: ∀a' w',C w'→D w'→wpB P ops C (fun j=>ks.getD j 2) (fin C N (wpT P ops (fun j=>ks.getD j 2) K (List.range' m (ops.size-m))) (La.map fun i=>((ops[i]?).bind (·.dst),ob i)) D) (L1++L2) a'→
      wpAny P .any ops Q (n+(ops.size-m)) (listed.setIfInBounds i true) a' w':=fun a' w' hc hd h' =>
     ih (L1++L2) La D _ a' w' (by simp at hlen⊢;omega) (hsort.sublist (List.Sublist.append (List.Sublist.refl _) (List.sublist_cons_self _ _)))
      (hnd.sublist (List.Sublist.append (List.Sublist.append (List.Sublist.refl _) (List.sublist_cons_self _ _)) (List.Sublist.refl _))) hLa (fun j hj=>hLq j (by rcases List.mem_append.1 hj with h|h<;>simp[h])) (fun j hj=>hlt j ((hL j).1 hj).1) (by simpa using hsz) (hun' _ hL) hcl' hD hc hd h'
    obtain⟨v,hy,hk⟩:=hb;have hy:=vY hy;unfold wpOp;simp only[ho];rcases hy with⟨hw,hq⟩|⟨hw,rfl⟩
    ·rw[if_pos hw];refine .inl ?_;unfold Oper.wp;rcases hq w hCw with hr|⟨f,args,hr,hc⟩
     ·rw[hr];exact go _ _ hCw hDw hk
     ·rw[hr];refine Calls.mono hc fun e w' he=> ?_;obtain⟨rfl,hbel⟩:=he;exact go _ _ (hC _ _ hCw hbel) (hD _ _ hDw hbel) hk
    ·rw[if_neg (by rw[hw];simp)];exact go _ _ hCw hDw hk
   ·have hxi:x<i:=(List.pairwise_append.1 hsort).2.2 x hx i (by simp);refine hap x i ox o hxi him hox ho (.inr (.inr fun hbit=> ?_));have h1:=hlisted x hbit;have h2:=(hun x (by omega)).2 (.inl (by simp[hx]));have h3:x<listed.size:=by omega
    simp[h3]at h1 h2;rw[h1]at h2;cases h2
  ·
   obtain⟨A1,A2,rfl⟩:=List.append_of_mem hia;obtain⟨hg,hrun⟩:=hal i (hLa i (by simp)) o ho;have hL:=vZ hnd;have apartA: ∀x∈Lq++(A1++A2),∀ox,ops[x]? =some ox→ox.apart ops o=true:=by
    intro x hx ox hox;have hx':=(hL x).1 hx;have hxm:=hlt x hx'.1;rcases Nat.lt_or_gt_of_ne hx'.2 with h1|h1
    ·exact hap x i ox o h1 him hox ho (.inr (.inl (hLa i (by simp))))
    ·exact ud (hap i x o ox h1 hxm ho hox (.inl (hLa i (by simp))))
   have hw:Region.wanted o (yielded ops a.tmps)=true:=by simp[Region.wanted,hg]
   unfold wpOp;simp only[ho,hw,if_true];refine .inl ?_;unfold Oper.wp;rw[hrun];have hbel:Below w.heap.size w (w.alloc (ob i)):=(Below.refl _ _).alloc (Nat.le_refl _) _;show wpAny P .any ops Q (n+(ops.size-m)) (listed.setIfInBounds i true) (a.put o.dst _) _;refine ih Lq (A1++A2) (fun w1=>D w1∧w1.heap[w.heap.size]? =some (ob i)) _ _ _ (by simp at hlen⊢;omega) hsort
    (hnd.sublist (List.Sublist.append (List.Sublist.refl _) (List.Sublist.append (List.Sublist.refl _) (List.sublist_cons_self _ _)))) (fun j hj=>hLa j (by rcases List.mem_append.1 hj with h|h<;>simp[h])) hLq (fun j hj=>hlt j ((hL j).1 hj).1) (by simpa using hsz) (hun' _ hL) hcl'
    (fun w1 w2 ⟨h1,h2⟩ hb=>⟨hD _ _ h1 hb,by rw[hb.block _ (Array.getElem?_eq_some_iff.1 h2).1];exact h2⟩) (hC _ _ hCw hbel) ⟨hD _ _ hDw hbel,heap_alloc_new w _⟩ ?_
   refine od o.dst _ Lq a (fun j hj oj hoj=> ?_) (fQ (fun a' h' => ?_) Lq a h)
   ·obtain⟨h1,h2,h3⟩:=Oper.apart_spec (apartA j (by simp[hj]) oj hoj);exact⟨fun cs b=>hsel j oj cs b hoj,h3,fun t ht he=>h2 t he ht⟩
   ·rw[List.map_append,List.map_cons,ho]at h';have:=pu (o.dst,ob i) _ _ D a' (fun y hy t ht he=> ?_) h' w.heap.size (hN _ hCw)
    ·rw[List.map_append];exact this
    ·obtain⟨j,hj,rfl⟩:=List.mem_map.1 hy;have hjm:=hlt j ((hL j).1 (by simp[hj])).1;have hjo:ops[j]? =some ops[j]:=Array.getElem?_eq_getElem (by omega);rw[hjo]at ht;obtain⟨_,h2,_⟩:=Oper.apart_spec (apartA j (by simp[hj]) _ hjo);exact h2 t ht he
end
open Go.RowKit
section
variable {P:Program} {ops:Array Oper} {C:World→Prop}
def idxq:Nat→List Nat→List Nat
 |_,[]=>[]
 |n,k::ks=>if k=9 then idxq (n+1) ks else n::idxq (n+1) ks
def idx9:Nat→List Nat→List Nat
 |_,[]=>[]
 |n,k::ks=>if k=9 then n::idx9 (n+1) ks else idx9 (n+1) ks
theorem kI: ∀(ks:List Nat) (n i:Nat),i∈idxq n ks→n≤i∧i<n+ks.length
 | [],_,_,h=>by cases h
 |k::ks,n,i,h=>by
  unfold idxq at h;have ih:=kI ks (n+1) i;simp only[List.length_cons]
  split at h
  ·have:=ih h;omega
  ·rcases List.mem_cons.1 h with h|h
   ·omega
   ·have:=ih h;omega
theorem oh: ∀(ks:List Nat) (n i:Nat),i∈idx9 n ks→n≤i∧i<n+ks.length
 | [],_,_,h=>by cases h
 |k::ks,n,i,h=>by
  unfold idx9 at h;have ih:=oh ks (n+1) i;simp only[List.length_cons]
  split at h
  ·rcases List.mem_cons.1 h with h|h
   ·omega
   ·have:=ih h;omega
  ·have:=ih h;omega
theorem fR: ∀(ks:List Nat) (n:Nat),(idxq n ks).Pairwise (· < ·)
 | [],_=>List.Pairwise.nil
 |k::ks,n=>by
  unfold idxq
  split
  ·exact fR ks (n+1)
  ·exact List.pairwise_cons.2 ⟨fun i hi=>by have:=kI ks (n+1) i hi;omega,fR ks (n+1)⟩
theorem gy: ∀(ks:List Nat) (n:Nat),(idxq n ks++idx9 n ks).Nodup
 | [],_=>List.nodup_nil
 |k::ks,n=>by
  have ih:=gy ks (n+1);have hq:n∉idxq (n+1) ks:=fun h=>by have:=kI ks (n+1) n h;omega
  have h9:n∉idx9 (n+1) ks:=fun h=>by have:=oh ks (n+1) n h;omega
  unfold idxq idx9
  split
  ·rw[List.nodup_append]at ih⊢;refine⟨ih.1,List.nodup_cons.2 ⟨h9,ih.2.1⟩,fun a ha b hb=> ?_⟩;rcases List.mem_cons.1 hb with rfl|hb
   ·intro e;subst e;exact hq ha
   ·exact ih.2.2 a ha b hb
  ·rw[List.cons_append];exact List.nodup_cons.2 ⟨fun h=>by rcases List.mem_append.1 h with h|h;exact hq h;exact h9 h,ih⟩
theorem sX: ∀(ks:List Nat) (n i:Nat),n≤i→i<n+ks.length→i∈idxq n ks++idx9 n ks
 | [],n,i,h1,h2=>by simp at h2;omega
 |k::ks,n,i,h1,h2=>by
  simp only[List.length_cons]at h2;unfold idxq idx9;by_cases e:n=i
  ·subst e;split<;>simp
  ·have ih:=sX ks (n+1) i (by omega) (by omega);rcases List.mem_append.1 ih with h|h
   ·split<;>simp[h]
   ·split<;>simp[h]
theorem ue(ks:List Nat)(n i:Nat)(h:i∈idxq n ks):i∉idx9 n ks:=fun h9=>(List.nodup_append.1 (gy ks n)).2.2 i h i h9 rfl
def wpY(P:Program)(ops:Array Oper)(C:World→Prop)(J:List Oper→Act→Prop):List Nat→List Oper→Act→Prop
 | [],l,a=>J l a
 |k::ks,o::l,a=>if k=9 then wpY P ops C J ks l a else opB P ops C k o (wpY P ops C J ks l) a
 |_,[],a=>J [] a
theorem lC {kd:Nat→Nat} {J:List Oper→Act→Prop}: ∀(ks:List Nat) (l:List Oper) (n:Nat) (a:Act),ks.length≤l.length→(∀j,l[j]? =ops[n+j]?)→(∀j,j<ks.length→kd (n+j)=ks.getD j 2)→wpY P ops C J ks l a→wpB P ops C kd (fun a=>J (l.drop ks.length) a) (idxq n ks) a
 | [],l,n,a,_,_,_,h=>by simpa[wpB,idxq,wpY]using h
 |k::ks,[],n,a,hl,_,_,_=>by simp at hl
 |k::ks,o::l,n,a,hl,ho,hkd,h=>by
  have h0:=ho 0;simp at h0;have hn: ∀j,l[j]? =ops[n+1+j]?:=fun j=>by have:=ho (j+1);simp at this;rw[this];congr 1;omega
  have ih:=fun a=>lC (kd:=kd) (J:=J) ks l (n+1) a (by simpa using hl) hn (fun j hj=>by have:=hkd (j+1) (by simpa using hj);rw[Nat.add_assoc,Nat.add_comm 1 j,this];simp);have k0:kd n=k:=by have:=hkd 0 (by simp);simpa using this
  unfold wpY at h;unfold idxq
  split at h
  ·rename_i hk;rw[if_pos hk];simpa using ih a h
  ·rename_i hk;rw[if_neg hk];simp only[wpB,←h0];rw[k0];exact eS (fun a h=>by simpa using ih a h) h
theorem lD {id:Nat} {Q:Exit→Act→World→Prop} {a:Act} {w:World} {l:List Oper}(k1 k2:List Nat)(al:List (Nat×Obj))(hm:P.follows .mixedOrders=true)(hok:oe l.toArray k1.length (idx9 0 k1) (k1++k2)=true)(hal0:al.map (·.1)=idx9 0 k1)(hlen:k1.length+k2.length=l.length)
  (hal: ∀p∈al,∀o,l[p.1]? =some o→yx P o p.2)
  (h: ∀C:World→Prop,C w.drew→(∀w1,C w1→Below w.drew.heap.size w.drew w1)→(∀w1 w2,C w1→Below w1.heap.size w1 w2→C w2)→ ∀K:Act→World→Prop,(∀a w,Q .normal a w→K a w)→
   wpY P l.toArray C (fun l' =>fin C w.heap.size (wpZ P l.toArray K k2 l') (al.map fun p=>((l[p.1]?).bind (·.dst),p.2)) (fun _=>True)) k1 l a):
  (Code.region id l.toArray true).wp P Q a w:=by
 refine wp_region_any hm ?_;have hh:=h (fun w1=>Below w.drew.heap.size w.drew w1) (Below.refl _ w.drew) (fun _ h=>h) (fun w1 w2 h1 h2=>h1.trans (h2.mono h1.size)) (Q .normal) (fun _ _ h=>h);have h1:=lC (kd:=fun j=>(k1++k2).getD j 2) k1 l 0 a (by omega) (fun j=>by simp) (fun j hj=>by rw[Nat.zero_add,List.getD_eq_getElem?_getD,List.getD_eq_getElem?_getD,List.getElem?_append_left hj]) hh
 let ob:Nat→Obj:=fun i=>match al.find? (fun p=>p.1==i)with|some p=>p.2|none=> .cells #[] 0
 have hnd:(idx9 0 k1).Nodup:=(List.nodup_append.1 (gy k1 0)).2.1;have hob: ∀p∈al,ob p.1=p.2:=by
  intro p hp;have key: ∀(al:List (Nat×Obj)),(al.map (·.1)).Nodup→p∈al→(match al.find? (fun q=>q.1==p.1)with|some q=>q.2|none=>Obj.cells #[] 0)=p.2:=by
   intro al
   induction al with
   |nil=>intro _ hp;cases hp
   |cons q al ih=>
    intro hnd hp;rw[List.map_cons,List.nodup_cons]at hnd;rcases List.mem_cons.1 hp with rfl|hp
    ·simp
    ·by_cases e:q.1=p.1
     ·exact absurd (List.mem_map.2 ⟨p,hp,e.symm⟩) hnd.1
     ·rw[List.find?_cons_of_neg (by simpa using e)];exact ih hnd.2 hp
  exact key al (by rw[hal0];exact hnd) hp
 have hmap:(al.map fun p=>((l[p.1]?).bind (·.dst),p.2))=(idx9 0 k1).map fun i=>((l.toArray[i]?).bind (·.dst),ob i):=by
  rw[←hal0,List.map_map];refine List.map_congr_left fun p hp=> ?_;simp only[Function.comp,List.getElem?_toArray];rw[hob p hp]
 rw[hmap]at h1;have hsz:l.toArray.size=(idxq 0 k1).length+(idx9 0 k1).length+(l.toArray.size-k1.length):=by
  have: ∀(ks:List Nat) (n:Nat),(idxq n ks).length+(idx9 n ks).length=ks.length:=by
   intro ks
   induction ks with
   |nil=>intro n;rfl
   |cons k ks ih=>
    intro n;have:=ih (n+1);unfold idxq idx9
    split<;>simp<;>omega
  rw[this];simp;omega
 have hmain:=ru (P:=P) (ops:=l.toArray) (C:=fun w1=>Below w.drew.heap.size w.drew w1) (m:=k1.length) (N:=w.heap.size) (al:=idx9 0 k1) (ks:=k1++k2) (K:=Q .normal) (Q:=Q) ob hok (fun i hi o ho=>by
   rw[←hal0]at hi;obtain⟨p,hp,rfl⟩:=List.mem_map.1 hi;rw[hob p hp];exact hal p hp o (by simpa using ho)) (fun w1 w2 h1 h2=>h1.trans (h2.mono h1.size)) (fun w1 h1=>h1.size) (fun _ _ h=>h)
  _ (idxq 0 k1) (idx9 0 k1) (fun _=>True) (Array.replicate l.toArray.size false) a w.drew rfl (fR k1 0) (gy k1 0) (fun _ h=>h) (fun i hi=>ue k1 0 i hi) (fun i hi=>by
   rcases List.mem_append.1 hi with hi|hi
   ·have:=kI k1 0 i hi;omega
   ·have:=oh k1 0 i hi;omega) (by simp) (fun i hi=>by
   have hf:(Array.replicate l.toArray.size false).getD i true=false:=by simp at hi;simp[hi]
   rw[hf];refine⟨fun _=> ?_,fun _=>rfl⟩;by_cases hik:i<k1.length
   ·exact .inl (sX k1 0 i (Nat.zero_le _) (by omega))
   ·exact .inr (by omega)) (fun i o _ hl=>by
   exfalso;have hf:(Array.replicate l.toArray.size false).getD i false=false:=by
    by_cases hi:i<l.toArray.size
    ·simp at hi;simp[hi]
    ·simp at hi;simp[hi]
   rw[hf]at hl;cases hl) (fun _ _ _ _=>trivial) (Below.refl _ w.drew) trivial (fQ (fun a' h' => ?_) _ _ h1)
 ·rw[←hsz]at hmain;exact hmain
 ·have conv: ∀(A:List (Option Tmp×Obj)) (D:World→Prop) (a:Act),fin (fun w1=>Below w.drew.heap.size w.drew w1) w.heap.size (wpZ P l.toArray (Q .normal) k2 (l.drop k1.length)) A D a→
    fin (fun w1=>Below w.drew.heap.size w.drew w1) w.heap.size (wpT P l.toArray (fun j=>(k1++k2).getD j 2) (Q .normal) (List.range' k1.length (l.toArray.size-k1.length))) A D a:=by
   intro A
   induction A with
   |nil=>
    intro D a h w1 hc hd;have:=ib (P:=P) (ops:=l.toArray) (K:=Q .normal) (fun j=>(k1++k2).getD j 2) k2 (l.drop k1.length) k1.length a w1 (by simp;omega) (fun j=>by simp) (fun j hj=>by rw[List.getD_eq_getElem?_getD,List.getD_eq_getElem?_getD,List.getElem?_append_right (by omega),Nat.add_sub_cancel_left]) (h w1 hc hd);rw[List.length_drop]at this;simpa using this
   |cons x A ih=>intro D a h g hg;exact ih _ _ (h g hg)
  exact conv _ _ _ h'
variable {J:List Oper→Act→Prop} {k:Nat} {ks:List Nat} {l:List Oper} {o:Oper} {a a':Act} {v:Value}
theorem yy(hg:Region.wanted o (yielded ops a.tmps)=true)(hr: ∀w,(execOp a.eval o).run P w= .ok (.value v) w)(ha:a.put o.dst v=a')(h:wpY P ops C J ks l a'):wpY P ops C J (0::ks) (o::l) a:=by
 subst ha;unfold wpY;rw[if_neg (by omega)];exact⟨v,.inl ⟨hg,hr⟩,h⟩
theorem wa(hg:Region.wanted o (yielded ops a.tmps)=true)(hr: ∀w,C w→(execOp a.eval o).run P w= .ok (.value v) w)(ha:a.put o.dst v=a')(h:wpY P ops C J ks l a'):wpY P ops C J (1::ks) (o::l) a:=by
 subst ha;unfold wpY;rw[if_neg (by omega)];exact⟨v,.inl ⟨hg,fun w hw=> .inl (hr w hw)⟩,h⟩
theorem we(hw:Region.wanted o (yielded ops a.tmps)=false)(ha:a.put o.dst undef=a')(h:wpY P ops C J ks l a'):wpY P ops C J (0::ks) (o::l) a:=by
 subst ha;unfold wpY;rw[if_neg (by omega)];exact⟨undef,.inr ⟨hw,rfl⟩,h⟩
theorem sY(hw:Region.wanted o (yielded ops a.tmps)=false)(ha:a.put o.dst undef=a')(h:wpY P ops C J ks l a'):wpY P ops C J (1::ks) (o::l) a:=by
 subst ha;unfold wpY;rw[if_neg (by omega)];exact⟨undef,.inr ⟨hw,rfl⟩,h⟩
theorem zE(hg:Region.wanted o (yielded ops a.tmps)=true)(hr: ∀w,C w→nZ P ((execOp a.eval o).run P w) w v)(ha:a.put o.dst v=a')(h:wpY P ops C J ks l a'):wpY P ops C J (1::ks) (o::l) a:=by
 subst ha;unfold wpY;rw[if_neg (by omega)];exact⟨v,.inl ⟨hg,fun w hw=> .inr (hr w hw)⟩,h⟩
theorem wg(h:wpY P ops C J ks l a):wpY P ops C J (9::ks) (o::l) a:=by
 unfold wpY;rw[if_pos rfl];exact h
theorem Bw(h:J l a):wpY P ops C J [] l a:=by unfold wpY;exact h
theorem xE {N:Nat} {K:Act→World→Prop} {d:Option Tmp} {ob:Obj}(h: ∀g w,N≤g→C w→w.heap[g]? =some ob→K (a.put d (.pointer (some ⟨g,0,none⟩))) w):fin C N K [(d,ob)] (fun _=>True) a:=fun g hg w hc hd=>h g w hg hc hd.2
theorem am {K:Act→World→Prop} {w:World} {e:TypeId} {p x:Operand} {ty:TypeId} {pos:String} {after:Array Edge} {g:Nat} {t:TypeId} {old cs:Array Value}(hb:Blk w g t old)(hp:a.eval p= .pointer (some ⟨g,0,none⟩))(hv:a.eval x= .agg cs)(hn:old.size=cs.size)
  (h1:ones cs=true) (hsz:(sizeOf e).run P w= .ok cs.size w) (h: ∀w1,Blk w1 g t cs→w.grownBy w1 (some g)→w1.heap.size=w.heap.size→wpZ P ops K ks l a w1):wpZ P ops K (2::ks) (⟨none,.store e p x,ty,pos,after,none⟩::l) a w:=by
 have hr:(execOp a.eval ⟨none,.store e p x,ty,pos,after,none⟩).run P w= .ok .skip (w.setRow g cs):=by
  rw[bD,hp,hv,aV w e g cs hsz (by rw[hb.row];exact hn) h1 hb.whole];simp
 refine yw rfl (fun K' hK' => ?_);unfold Oper.wp;rw[hr];exact hK' _ _ (h _ (hb.put _) (aP w g _) (by simp))
end
attribute [irreducible] wpY
end Go.Proofs.YtlpkfdkhlffmlaaGreatDoor
