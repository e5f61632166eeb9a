/-
  A region that draws its order and holds two operations,side by side in the text,that both make new memory and are not ordered among themselves:it is walked in both orders. No program in sight.
-/
import Derived.Test.YtlpkfdkhlffmlaaGreatDoorMGn
namespace Go.Proofs.YtlpkfdkhlffmlaaGreatDoor
set_option linter.unusedSimpArgs false
set_option linter.unusedVariables false
set_option maxRecDepth 100000
set_option maxHeartbeats 1600000
open Go.RowKit
section
variable {P:Program} {ops:Array Oper} {C:World→Prop}
theorem dt {kd:Nat→Nat} {K:Act→World→Prop}: ∀(M N:List Nat) (a:Act) (w:World),wpHT P ops C kd K (M++N) a w↔wpHT P ops C kd (wpHT P ops C kd K N) M a w
 | [],N,a,w=>by simp only[List.nil_append,wpHT]
 |i::M,N,a,w=>by
  rw[List.cons_append];unfold wpHT
  split
  ·exact dt M N a w
  ·exact⟨fun h=>aK (fun a w h=>(dt M N a w).1 h) h,fun h=>aK (fun a w h=>(dt M N a w).2 h) h⟩
theorem lk {n i:Nat} {L1 L2:List Nat} {listed:Array Bool}(hnd:(L1++i::L2).Nodup)(hsz:listed.size=n)(hin:i<n)(hmem: ∀j,j∈L1++i::L2↔j<n∧listed.getD j true=false)(j:Nat):
  j∈L1++L2↔j<n∧(listed.setIfInBounds i true).getD j true=false:=by
 by_cases hji:i=j
 ·subst hji;constructor
  ·intro hm;exfalso;rw[List.nodup_append]at hnd;obtain⟨_,h2,h3⟩:=hnd;rcases List.mem_append.1 hm with hm|hm
   ·exact h3 i hm i (by simp) rfl
   ·exact(List.nodup_cons.1 h2).1 hm
  ·rintro⟨_,hf⟩;have his:i<listed.size:=by omega
   simp[his]at hf
 ·rw[getD_set_ne true hji,←hmem j];simp only[List.mem_append,List.mem_cons];constructor
  ·rintro(h|h)
   ·exact .inl h
   ·exact .inr (.inr h)
  ·rintro(h|h|h)
   ·exact .inl h
   ·exact absurd h.symm hji
   ·exact .inr h
theorem fN {i:Nat} {o:Oper} {listed:Array Bool}(hcl: ∀i o,ops[i]? =some o→listed.getD i false=true→ ∀e∈o.after.toList,Region.binds .any e=true→listed.getD e.on false=true)(ho:ops[i]? =some o)
  (hedges: ∀e∈o.after,Region.binds .any e=true→listed.getD e.on false=true):
  ∀j oj,ops[j]? =some oj→(listed.setIfInBounds i true).getD j false=true→ ∀e∈oj.after.toList,Region.binds .any e=true→(listed.setIfInBounds i true).getD e.on false=true:=by
 intro j oj hoj hl e he hb;by_cases hji:i=j
 ·subst hji;have:oj=o:=Option.some.inj (hoj.symm.trans ho);subst this;exact getD_set_true (hedges e (by simpa using he) hb)
 ·rw[getD_set_ne false hji]at hl;exact getD_set_true (hcl j oj hoj hl e he hb)
theorem fg(kd:Nat→Nat) {K:Act→World→Prop}: ∀(J ks:List Nat) (l:List Oper) (a:Act) (w:World),ks=J.map kd→l.map some=J.map (fun j=>ops[j]?)→wpH P ops C K ks l a w→wpHT P ops C kd K J a w
 | [],ks,l,a,w,hk,hl,h=>by
  subst hk;have:l=[]:=by simpa using hl
  subst this;simpa[wpHT,wpH]using h
 |i::J,ks,l,a,w,hk,hl,h=>by
  subst hk;cases l with
  |nil=>simp at hl
  |cons o l=>
   simp only[List.map_cons,List.cons.injEq]at hl;simp only[List.map_cons,wpH]at h;simp only[wpHT,←hl.1];exact aK (fun a w h=>fg kd J (J.map kd) l a w rfl hl.2 h) h
end
open Go.RowKit
section
variable {P:Program} {ops:Array Oper} {C:World→Prop}
def iH(P:Program)(ops:Array Oper)(C:World→Prop)(kd:Nat→Nat)(R:Act→World→Prop):Nat→List Nat→Act→World→Prop
 |0,_,a,w=>R a w
 |n+1,B,a,w=> ∀i∈B,(∀x∈B,((aR ops.toList []).getD i 0).testBit x=false)→ ∀o,ops[i]? =some o→opH P ops C (kd i) o (iH P ops C kd R n (B.erase i)) a w
theorem qY(hback: ∀i o,ops[i]? =some o→ ∀e∈o.after.toList,Region.binds .any e=true→e.on<i) {listed:Array Bool}(hsz:listed.size=ops.size): ∀j,j<ops.size→listed.getD j true=false→Region.ready .any ops listed≠ []:=by
 intro j
 induction j using Nat.strongRecOn with
 |ind j ih=>
  intro hj hun hr;by_cases hall: ∀e∈(ops[j]).after.toList,Region.binds .any e=true→listed.getD e.on false=true
  ·have hrd:j∈Region.ready .any ops listed:=mem_ready.2 ⟨hun,ops[j],Array.getElem?_eq_getElem hj,fun e he hb=>hall e (by simpa using he) hb⟩;rw[hr]at hrd;cases hrd
  ·apply hall;intro e he hb;have hlt:=hback j _ (Array.getElem?_eq_getElem hj) e he hb;have hlt':e.on<listed.size:=by omega
   cases hv:listed.getD e.on true with
   |false=>exact absurd hr (ih e.on hlt (by omega) hv)
   |true=>simp[hlt']at hv⊢;exact hv
theorem zy {kx ki:Nat} {x i:Oper}(hap:x.apart ops i=true)(hk:kx=0∨kx=5)(hsx: ∀cs b,x.op≠ .select cs b)(hsi: ∀cs b,i.op≠ .select cs b) {K:Act→World→Prop} {a:Act} {w:World}
  (h:opH P ops C kx x (fun a w=>opH P ops C ki i K a w) a w):opH P ops C ki i (fun a w=>opH P ops C kx x K a w) a w:=by
 obtain⟨h1,h2,h3⟩:=Oper.apart_spec hap;have xsame: ∀(a:Act) u,execOp (a.put i.dst u).eval x=execOp a.eval x:=fun a u=>execOp_put x hsx a i.dst u h3;have xwant: ∀(a:Act) u,Region.wanted x (yielded ops (a.put i.dst u).tmps)=Region.wanted x (yielded ops a.tmps):=fun a u=>wanted_put x a i.dst u h3;have isame: ∀(a:Act) u,execOp (a.put x.dst u).eval i=execOp a.eval i:=fun a u=>execOp_put i hsi a x.dst u h1;have iwant: ∀(a:Act) u,Region.wanted i (yielded ops (a.put x.dst u).tmps)=Region.wanted i (yielded ops a.tmps):=fun a u=>wanted_put i a x.dst u h1;have iY: ∀ {C':World→Prop} {u v},yldC P ops C' i u (a.put x.dst v)→yldC P ops C' i u a:=fun h=>h.same (isame a _).symm (iwant a _).symm;have xY: ∀ {C':World→Prop} {u v} {a:Act},yldC P ops C' x v a→yldC P ops C' x v (a.put i.dst u):=fun h=>h.same (xsame _ _) (xwant _ _);have any: ∀(v:Value) (Y:Act→Prop) (K':Act→World→Prop),(∀a u,Y a→Y (a.put i.dst u))→(∀a d,Y a→Y {a with defers:=d::a.defers})→Y a→
   i.wp P (a.put x.dst v) w K' noQ→i.wp P a w (fun a' w' =>Y a'∧K' (a'.put x.dst v) w') noQ:=fun v Y K' hY hYd hy h=>ri hap hsi Y hY hYd hy h
 have key: ∀(Cx:World→Prop) (v:Value),yldC P ops Cx x v a→(∀w' a',yldC P ops Cx x v a'→K (a'.put x.dst v) w'→opH P ops C kx x K a' w')→opH P ops C ki i K (a.put x.dst v) w→opH P ops C ki i (fun a w=>opH P ops C kx x K a w) a w:=by
  intro Cx v hy re h;have qq: ∀(u:Value),K ((a.put x.dst v).put i.dst u) w→opH P ops C kx x K (a.put i.dst u) w:=fun u h=>re w _ (xY hy) (by rw[←Act.put_comm a v u h2];exact h);unfold opH at h
  conv=>unfold opH
  split at h
  ·obtain⟨u,hu,h⟩:=h;exact⟨u,iY hu,qq u h⟩
  ·obtain⟨u,hu,h⟩:=h;exact⟨u,iY hu,qq u h⟩
  ·obtain⟨u,hu,h⟩:=h;exact⟨u,iY hu,qq u h⟩
  ·rw[iwant]at h
   split
   ·rename_i hw;rw[if_pos hw]at h;exact cr (fun a' w' ⟨hy',he,hk⟩=>⟨he,re w' a' hy' hk⟩) (any v (fun a=>yldC P ops Cx x v a) _ (fun a u h=>xY h) (fun a d h=>h.same rfl rfl) hy h)
   ·rename_i hw;rw[if_neg hw]at h;exact qq _ h
  ·rw[iwant]at h
   split
   ·rename_i hw;rw[if_pos hw]at h;exact cr (fun a' w' ⟨hy',hk⟩=>re w' a' hy' hk) (any v (fun a=>yldC P ops Cx x v a) _ (fun a u h=>xY h) (fun a d h=>h.same rfl rfl) hy h)
   ·rename_i hw;rw[if_neg hw]at h;exact qq _ h
 rcases hk with rfl|rfl
 ·obtain⟨v,hy,h⟩:=h;exact key _ v hy (fun w' a' ha hK=>⟨v,ha,hK⟩) h
 ·obtain⟨v,hy,h⟩:=h;exact key _ v hy (fun w' a' ha hK=>⟨v,ha,hK⟩) h
def gZ(ops:Array Oper)(x i:Nat):Bool:=
 match ops[x]?,ops[i]? with
 |some ox,some oi=>ox.apart ops oi
 |_,_=>false
theorem iI {kd:Nat→Nat}(hs:Region.noSelect ops=true) {i:Nat} {o:Oper}(ho:ops[i]? =some o) {K:Act→World→Prop}:
  ∀(M:List Nat),(∀x∈M,x<ops.size∧gZ ops x i=true∧(kd x=0∨kd x=5))→ ∀(a:Act) (w:World),wpHT P ops C kd (opH P ops C (kd i) o K) M a w→opH P ops C (kd i) o (wpHT P ops C kd K M) a w
 | [],_,a,w,h=>h
 |x::M,hM,a,w,h=>by
  obtain⟨hx,hp,hk⟩:=hM x (by simp);have hox:ops[x]? =some ops[x]:=Array.getElem?_eq_getElem hx;unfold gZ at hp;rw[hox,ho]at hp;have h1:opH P ops C (kd x) ops[x] (fun a w=>opH P ops C (kd i) o (wpHT P ops C kd K M) a w) a w:=by
   have h':opH P ops C (kd x) ops[x] (wpHT P ops C kd (opH P ops C (kd i) o K) M) a w:=by simpa only[wpHT,hox]using h
   exact aK (fun a' w' h=>iI hs ho M (fun y hy=>hM y (by simp[hy])) a' w' h) h'
  have h2:=zy hp hk (fun cs b=>Region.noSelect_spec hs x _ cs b hox) (fun cs b=>Region.noSelect_spec hs i _ cs b ho) h1;refine aK (fun a w h=> ?_) h2;simpa only[wpHT,hox]using h
theorem ia {kd:Nat→Nat} {R:Act→World→Prop}: ∀(M:List Nat),(∀x∈M,kd x=0∨kd x=5)→ ∀(a:Act) (w:World),wpHT P ops C kd (fun a w=>C w∧R a w) M a w→C w∧wpHT P ops C kd R M a w
 | [],_,a,w,h=>by simpa[wpHT]using h
 |x::M,hM,a,w,h=>by
  unfold wpHT at h
  conv=>unfold wpHT
  split at h
  ·exact ia M (fun y hy=>hM y (by simp[hy])) a w h
  ·have:=hM x (by simp);have key: ∀C':World→Prop,∀o:Oper,(∃v,yldC P ops C' o v a∧wpHT P ops C kd (fun a w=>C w∧R a w) M (a.put o.dst v) w)→C w∧ ∃v,yldC P ops C' o v a∧wpHT P ops C kd R M (a.put o.dst v) w:=by
    rintro C' o ⟨v,hv,hh⟩;obtain⟨h1,h2⟩:=ia M (fun y hy=>hM y (by simp[hy])) _ w hh;exact⟨h1,v,hv,h2⟩
   rcases this with hk|hk
   ·rw[hk]at h⊢;exact key _ _ h
   ·rw[hk]at h⊢;exact key _ _ h
def wpCT(P:Program)(ops:Array Oper)(C:World→Prop)(kd:Nat→Nat)(K:Act→World→Prop):List Nat→Act→World→Prop
 | [],a,w=>K a w
 |i::r,a,w=> ∀o,ops[i]? =some o→opH P ops C (kd i) o (fun a w=>C w∧wpCT P ops C kd K r a w) a w
theorem gN(hC: ∀w w',C w→ext w w'→C w') {kd:Nat→Nat} {K:Act→World→Prop} {Q:Exit→Act→World→Prop}(hs:Region.noSelect ops=true)(hQ: ∀a w,K a w→Q .normal a w)
  (hback: ∀i o,ops[i]? =some o→ ∀e∈o.after.toList,Region.binds .any e=true→e.on<i)
  (Jp0 B0 Jr0:List Nat) (hwp: ∀x∈Jp0,kd x=0∨kd x=5) (hwb: ∀x∈B0,et (kd x)=false) (hwr: ∀x∈Jr0,¬kd x=5) (hdis: ∀x,x∈B0++Jr0→ ¬x∈Jp0)
  (hpp: ∀i x,i∈Jp0++(B0++Jr0)→x∈Jp0→x<i∨ ¬i∈Jp0→((aR ops.toList []).getD i 0).testBit x=true∨gZ ops x i=true)
  (hrr: ∀i x,i∈Jr0→x∈B0→((aR ops.toList []).getD i 0).testBit x=true)
  (hpr: ∀i x,x∈Jr0→i∈Jr0→x<i→((aR ops.toList []).getD i 0).testBit x=true):
  ∀(m:Nat) (Jp B Jr:List Nat) (listed:Array Bool) (a:Act) (w:World),Jp.length+B.length+Jr.length=m→(∀i∈Jp,i∈Jp0)→(∀i∈B,i∈B0)→(∀i∈Jr,i∈Jr0)→Jp.Pairwise (· < ·)→Jr.Pairwise (· < ·)→(Jp++(B++Jr)).Nodup→listed.size=ops.size→
   (∀i,i∈Jp++(B++Jr)↔i<ops.size∧listed.getD i true=false)→
   (∀i o,ops[i]? =some o→listed.getD i false=true→ ∀e∈o.after.toList,Region.binds .any e=true→listed.getD e.on false=true)→
   C w→wpHT P ops C kd (iH P ops C kd (wpCT P ops C kd K Jr) B.length B) Jp a w→wpAny P .any ops Q m listed a w:=by
 intro m
 induction m with
 |zero=>
  intro Jp B Jr listed a w hm _ _ _ _ _ _ hsz hmem hcl hw h;have e1:Jp=[]:=List.eq_nil_of_length_eq_zero (by omega);have e2:B=[]:=List.eq_nil_of_length_eq_zero (by omega);have e3:Jr=[]:=List.eq_nil_of_length_eq_zero (by omega);subst e1 e2 e3;refine⟨?_,hQ _ _ (by simpa[wpHT,iH,wpCT]using h)⟩;apply List.eq_nil_iff_forall_not_mem.2;intro i hi;obtain⟨h0,o,ho,_⟩:=mem_ready.1 hi;have:=(hmem i).2 ⟨(Array.getElem?_eq_some_iff.1 ho).1,h0⟩;cases this
 |succ m ih=>
  intro Jp B Jr listed a w hm hJ hB hR hsort hsortr hnd hsz hmem hcl hw h;have hall: ∀j∈Jp++(B++Jr),j<ops.size:=fun j hj=>((hmem j).1 hj).1;have hJk: ∀x∈Jp,kd x=0∨kd x=5:=fun x hx=>hwp x (hJ x hx);refine⟨fun hr=> ?_,fun i hi=> ?_⟩
  ·exfalso;have: ∃j,j∈Jp++(B++Jr):=by
    cases Jp with
    |cons j _=>exact⟨j,by simp⟩
    |nil=>
     cases B with
     |cons j _=>exact⟨j,by simp⟩
     |nil=>
      cases Jr with
      |cons j _=>exact⟨j,by simp⟩
      |nil=>simp at hm
   obtain⟨j,hj⟩:=this;obtain⟨h1,h2⟩:=(hmem j).1 hj;exact qY hback hsz j h1 h2 hr
  ·obtain⟨hun,o,ho,hedges⟩:=mem_ready.1 hi;have hilt:=(Array.getElem?_eq_some_iff.1 ho).1;have hiL:=(hmem i).2 ⟨hilt,hun⟩;have hnb: ∀x,listed.getD x true=false→x<ops.size→((aR ops.toList []).getD i 0).testBit x≠true:=by
    intro x hxun hxs hb;have hx:=cl (ops:=ops) (listed:=listed) hcl ops.toList [] (by simp) (fun i o hi=>by simp at hi) i o (by rw[cn];simpa using hilt) ho (fun e he hb=>hedges e (by simpa using he) hb) x hb;have hxs:x<listed.size:=by omega
    simp[hxs]at hx hxun;rw[hx]at hxun;cases hxun
   have free: ∀x∈Jp++(B++Jr),((aR ops.toList []).getD i 0).testBit x≠true:=fun x hx=>hnb x ((hmem x).1 hx).2 ((hmem x).1 hx).1;have go: ∀(wb:et (kd i)=false) {R:Act→World→Prop},opH P ops C (kd i) o R a w→(∀a' w',C w'→R a' w'→wpAny P .any ops Q m (listed.setIfInBounds i true) a' w')→wpOp P ops Q i (wpAny P .any ops Q m (listed.setIfInBounds i true)) a w:=by
    intro wb R h1 h2;exact wpOp_mono (fun a' w' hh=>h2 a' w' (hh.1 hw wb) hh.2) (lh hC ho (fun _=>hw) h1)
   rcases List.mem_append.1 hiL with hiJ|hiR
   ·obtain⟨L1,L2,rfl⟩:=List.append_of_mem hiJ;have hx1: ∀x∈L1,x<ops.size∧gZ ops x i=true∧(kd x=0∨kd x=5):=by
     intro x hx;have hxi:x<i:=(List.pairwise_append.1 hsort).2.2 x hx i (by simp);exact⟨hall x (by simp[hx]),(hpp i x (List.mem_append_left _ (hJ i (by simp))) (hJ x (by simp[hx])) (.inl hxi)).resolve_left (free x (by simp[hx])),hJk x (by simp[hx])⟩
    have h1:=(dt L1 (i::L2) a w).1 h;have h2:=iI hs ho L1 hx1 a w (cZ (fun a w h=>by simpa only[wpHT,ho]using h) L1 a w h1);refine go (by rcases hJk i (by simp)with e|e<;>rw[e]<;>rfl) h2 fun a' w' hc' h' => ?_;have e2:L1++L2++(B++Jr)=L1++(L2++(B++Jr)):=by simp
    have e1:L1++i::L2++(B++Jr)=L1++i::(L2++(B++Jr)):=by simp
    rw[e1]at hnd hmem;refine ih (L1++L2) B Jr _ a' w' (by simp at hm⊢;omega) (fun x hx=>hJ x (by simp at hx⊢;rcases hx with hx|hx<;>simp[hx])) hB hR (List.Pairwise.sublist (List.Sublist.append (List.Sublist.refl _) (List.sublist_cons_self _ _)) hsort) hsortr ?_ (by simpa using hsz) (fun j=> ?_) (fN hcl ho hedges) hc' ((dt L1 L2 a' w').2 h')
    ·rw[e2];exact List.Nodup.sublist (List.Sublist.append (List.Sublist.refl _) (List.sublist_cons_self _ _)) hnd
    ·rw[e2];exact lk hnd hsz hilt hmem j
   ·have hinJ: ¬i∈Jp:=fun hm1=>(List.nodup_append.1 hnd).2.2 i hm1 i hiR rfl;rcases List.mem_append.1 hiR with hiB|hiRr
    ·obtain⟨B1,B2,hBe⟩:=List.append_of_mem hiB;have hBn:B.Nodup:=(List.nodup_append.1 (List.nodup_append.1 hnd).2.1).1;have hni:i∉B1:=by
      intro hm1;rw[hBe,List.nodup_append]at hBn;exact hBn.2.2 i hm1 i (by simp) rfl
     have her:B.erase i=B1++B2:=by
      rw[hBe,List.erase_append_right _ hni,List.erase_cons_head]
     obtain⟨n,hn⟩: ∃n,B.length=n+1:=⟨B.length-1,by rw[hBe];simp;omega⟩;have hx1: ∀x∈Jp,x<ops.size∧gZ ops x i=true∧(kd x=0∨kd x=5):=by
      intro x hx;have hij:=hdis i (List.mem_append_left _ (hB i hiB));exact⟨hall x (by simp[hx]),(hpp i x (List.mem_append_right _ (List.mem_append_left _ (hB i hiB))) (hJ x hx) (.inr hij)).resolve_left (free x (by simp[hx])),hJk x hx⟩
     have h1:wpHT P ops C kd (opH P ops C (kd i) o (iH P ops C kd (wpCT P ops C kd K Jr) n (B.erase i))) Jp a w:=by
      refine cZ (fun a w h=> ?_) Jp a w h;rw[hn]at h;exact h i hiB (fun x hx=>by have:=free x (by simp[hx]);simpa using this) o ho
     have h2:=iI hs ho Jp hx1 a w h1;refine go (hwb i (hB i hiB)) h2 fun a' w' hc' h' => ?_;have e1:Jp++(B++Jr)=(Jp++B1)++i::(B2++Jr):=by rw[hBe];simp
     have e2:Jp++(B1++B2++Jr)=(Jp++B1)++(B2++Jr):=by simp
     rw[e1]at hnd hmem;have hlen:(B1++B2).length=n:=by rw[hBe]at hn;simp at hn⊢;omega
     refine ih Jp (B1++B2) Jr _ a' w' (by rw[hlen];omega) hJ (fun x hx=>hB x (by rw[hBe];simp at hx⊢;rcases hx with hx|hx<;>simp[hx])) hR hsort hsortr ?_ (by simpa using hsz) (fun j=> ?_) (fN hcl ho hedges) hc' (by rw[hlen,←her];exact h')
     ·rw[e2];exact List.Nodup.sublist (List.Sublist.append (List.Sublist.refl _) (List.sublist_cons_self _ _)) hnd
     ·rw[e2];exact lk hnd hsz hilt hmem j
    ·have hB0:B=[]:=by
      cases B with
      |nil=>rfl
      |cons b _=>exact absurd (hrr i b (hR i hiRr) (hB b (by simp))) (free b (by simp))
     subst hB0;obtain⟨r,Jr',rfl⟩: ∃r Jr',Jr=r::Jr':=by
      cases Jr with
      |nil=>cases hiRr
      |cons r Jr' =>exact⟨r,Jr',rfl⟩
     have hir:i=r:=by
      rcases List.mem_cons.1 hiRr with e|e
      ·exact e
      ·have hlt:=(List.pairwise_cons.1 hsortr).1 i e;exact absurd (hpr i r (hR r (by simp)) (hR i (by simp[e])) hlt) (free r (by simp))
     subst hir;have hx1: ∀x∈Jp,x<ops.size∧gZ ops x i=true∧(kd x=0∨kd x=5):=by
      intro x hx;have hij:=hdis i (List.mem_append_right _ (hR i (by simp)));exact⟨hall x (by simp[hx]),(hpp i x (List.mem_append_right _ (List.mem_append_right _ (hR i (by simp)))) (hJ x hx) (.inr hij)).resolve_left (free x (by simp[hx])),hJk x hx⟩
     have h1:wpHT P ops C kd (opH P ops C (kd i) o (fun a w=>C w∧wpCT P ops C kd K Jr' a w)) Jp a w:=by
      refine cZ (fun a w h=> ?_) Jp a w h;exact h o ho
     have h2:=iI hs ho Jp hx1 a w h1;refine wpOp_mono (fun a' w' hh=> ?_) (lh hC ho (fun e=>absurd e (hwr i (hR i (by simp)))) h2);obtain⟨hc',h'⟩:=ia Jp hJk a' w' hh.2;have e1:Jp++([]++i::Jr')=Jp++i::Jr':=by simp
     rw[e1]at hnd hmem;refine ih Jp [] Jr' _ a' w' (by simp at hm⊢;omega) hJ hB (fun x hx=>hR x (by simp[hx])) hsort (List.pairwise_cons.1 hsortr).2 ?_ (by simpa using hsz) (fun j=> ?_) (fN hcl ho hedges) hc' (by simpa[iH]using h')
     ·exact List.Nodup.sublist (List.Sublist.append (List.Sublist.refl _) (List.sublist_cons_self _ _)) hnd
     ·exact lk hnd hsz hilt hmem j
def eu(ops:Array Oper)(ks:List Nat)(Jp B Jr:List Nat):Bool:=
 Region.noSelect ops&&decide (ks.length=ops.size)&&
 (List.range ops.size).all (fun i=>match ops[i]? with|some o=>o.after.toList.all fun e=> !Region.binds .any e||decide (e.on<i)|none=>true)&&
 Jp.all (fun x=>ks.getD x 2==0||ks.getD x 2==5)&&B.all (fun x=> !et (ks.getD x 2))&&Jr.all (fun x=>ks.getD x 2 !=5)&&decide (Jp.Pairwise (· < ·))&&decide (Jr.Pairwise (· < ·))&&decide ((Jp++(B++Jr)).Nodup)&&
 (List.range ops.size).all (fun i=>(Jp++(B++Jr)).contains i)&&(Jp++(B++Jr)).all (fun i=>decide (i<ops.size))&&
 mP ops.toList [] fun ms=>
  (Jp++(B++Jr)).all (fun i=>lj (ms.getD i 0) fun m=>Jp.all fun x=> !(decide (x<i)|| !Jp.contains i)||(m.testBit x||gZ ops x i))&&
  Jr.all (fun i=>lj (ms.getD i 0) fun m=>B.all (fun x=>m.testBit x)&&Jr.all fun x=> !decide (x<i)||m.testBit x)
def yv(P:Program)(ops:Array Oper)(C:World→Prop)(R:Act→World→Prop):Nat→List (Nat×Nat×Oper)→Act→World→Prop
 |0,_,a,w=>R a w
 |n+1,B,a,w=> ∀p∈B,opH P ops C p.2.1 p.2.2 (yv P ops C R n (B.filter fun q=>q.1 !=p.1)) a w
theorem ll {kd:Nat→Nat} {R R':Act→World→Prop}(hR: ∀a w,R a w→R' a w): ∀(n:Nat) (B:List (Nat×Nat×Oper)),B.length=n→(B.map (·.1)).Nodup→(∀p∈B,p.2.1=kd p.1∧ops[p.1]? =some p.2.2)→ ∀(a:Act) (w:World),yv P ops C R n B a w→iH P ops C kd R' n (B.map (·.1)) a w
 |0,_,_,_,_,a,w,h=>hR a w h
 |n+1,B,hn,hnd,hB,a,w,h=>by
  intro i hi _ o ho;obtain⟨p,hp,rfl⟩:=List.mem_map.1 hi;obtain⟨hk,hop⟩:=hB p hp;have hoo:o=p.2.2:=Option.some.inj (ho.symm.trans hop);subst hoo;have e:(B.map (·.1)).erase p.1=(B.filter fun q=>q.1 !=p.1).map (·.1):=by
   rw[List.Nodup.erase_eq_filter hnd,List.filter_map];rfl
  rw[←hk,e];have hl:(B.filter fun q=>q.1 !=p.1).length=n:=by
   have h1:((B.map (·.1)).erase p.1).length=(B.map (·.1)).length-1:=List.length_erase_of_mem hi;rw[e]at h1;simp at h1;omega
  refine aK (fun a w h=>ll hR n _ hl ?_ (fun q hq=>hB q (List.mem_filter.1 hq).1) a w h) (h p hp);exact List.Nodup.sublist ((List.filter_sublist).map _) hnd
end
section
variable {P:Program}
def wpCH(P:Program)(ops:Array Oper)(C:World→Prop)(K:Act→World→Prop):List Nat→List Oper→Act→World→Prop
 |k::ks,o::l,a,w=>opH P ops C k o (fun a w=>C w∧wpCH P ops C K ks l a w) a w
 |_,_,a,w=>K a w
theorem fi {ops:Array Oper} {C:World→Prop}(kd:Nat→Nat) {K:Act→World→Prop}: ∀(J ks:List Nat) (l:List Oper) (a:Act) (w:World),ks=J.map kd→l.map some=J.map (fun j=>ops[j]?)→wpCH P ops C K ks l a w→wpCT P ops C kd K J a w
 | [],ks,l,a,w,hk,hl,h=>by
  subst hk;have:l=[]:=by simpa using hl
  subst this;simpa[wpCT,wpCH]using h
 |i::J,ks,l,a,w,hk,hl,h=>by
  subst hk;cases l with
  |nil=>simp at hl
  |cons o l=>
   simp only[List.map_cons,List.cons.injEq]at hl;simp only[List.map_cons,wpCH]at h;simp only[wpCT];intro o' ho';have e:o' =o:=Option.some.inj (ho'.symm.trans hl.1.symm);subst e;exact aK (fun a w h=>⟨h.1,fi kd J (J.map kd) l a w rfl hl.2 h.2⟩) h
theorem cQ {ops:Array Oper} {C:World→Prop} {K:Act→World→Prop} {a:Act} {w:World}(h:K a w):wpCH P ops C K [] [] a w:=by unfold wpCH;exact h
theorem ax {ops:Array Oper} {C:World→Prop} {K:Act→World→Prop} {a:Act} {w:World}(h:K a w):wpH P ops C K [] [] a w:=by unfold wpH;exact h
theorem nV {ops:Array Oper} {C:World→Prop} {K:Act→World→Prop} {a a':Act} {w:World} {o:Oper} {ks:List Nat} {l:List Oper} {v:Value}(hc:C w)(hg:Region.wanted o (yielded ops a.tmps)=true)(hr: ∀w,(execOp a.eval o).run P w= .ok (.value v) w)(ha:a.put o.dst v=a')(h:wpCH P ops C K ks l a' w):wpCH P ops C K (0::ks) (o::l) a w:=
 ⟨v,.inl ⟨hg,fun w _=>hr w⟩,hc,by rw[ha];exact h⟩
theorem bE {ops:Array Oper} {C:World→Prop} {K:Act→World→Prop} {a:Act} {w:World} {o:Oper} {ks:List Nat} {l:List Oper}(h:wpZ P ops (fun a w=>C w∧wpCH P ops C K ks l a w) [2] [o] a w):wpCH P ops C K (3::ks) (o::l) a w:=by
 have:=bJ (C:=C) (ks:=[3]) (l:=[o]) [2] rfl (by simp) h;simp only[wpH]at this;unfold wpCH;exact this
theorem kC {id:Nat} {Q:Exit→Act→World→Prop} {a:Act} {w:World} {l:List Oper}(ks Jp B Jr:List Nat)(lp lr:List Oper)(ksp ksr:List Nat)(hkp:Jp.map (fun j=>ks.getD j 2)=ksp)(hkr:Jr.map (fun j=>ks.getD j 2)=ksr)(hm:P.follows .mixedOrders=true)(hok:eu l.toArray ks Jp B Jr=true)
  (hlp:lp.map some=Jp.map (fun j=>l[j]?)) (hlr:lr.map some=Jr.map (fun j=>l[j]?))
  (R:(World→Prop)→(Act→World→Prop)→Act→World→Prop) (hR: ∀(C:World→Prop) (K R':Act→World→Prop),(∀a w,wpCH P l.toArray C K ksr lr a w→R' a w)→ ∀a w,R C K a w→iH P l.toArray C (fun j=>ks.getD j 2) R' B.length B a w)
  (h: ∀C:World→Prop,C w.drew→(∀w1,C w1→Below w.drew.heap.size w.drew w1)→(∀w1,Below w.drew.heap.size w.drew w1→C w1)→ ∀K:Act→World→Prop,(∀a w,Q .normal a w→K a w)→
   wpH P l.toArray C (R C K) ksp lp a w.drew):
  (Code.region id l.toArray true).wp P Q a w:=by
 subst hkp hkr;unfold eu at hok;rw[fM]at hok;simp only[eN,Bool.and_eq_true,decide_eq_true_eq,List.all_eq_true,List.mem_range,Bool.or_eq_true,Bool.not_eq_true',Bool.or_eq_false_iff,decide_eq_false_iff_not,beq_iff_eq,bne_iff_ne,ne_eq,Bool.not_eq_false',List.elem_eq_mem]at hok;obtain⟨⟨⟨⟨⟨⟨⟨⟨⟨⟨⟨hs,hlen⟩,hback⟩,hwp⟩,hwb⟩,hwr⟩,hsp⟩,hsr⟩,hnd⟩,hcov⟩,hin⟩,hpp,hpr⟩:=hok;refine wp_region_any hm ?_;have hw:=h (ext w.drew) (eK _) (fun _ h=>h) (fun _ h=>h) _ (fun _ _ h=>h);clear h;obtain⟨kd,hkd⟩: ∃kd:Nat→Nat,kd=fun j=>ks.getD j 2:=⟨_,rfl⟩;have hkd': ∀j,ks.getD j 2=kd j:=fun j=>by rw[hkd]
 simp only[hkd']at hw hwp hwb hwr;simp only[hkd']at hR;have hperm:=hR (ext w.drew) (Q .normal) (wpCT P l.toArray (ext w.drew) kd (Q .normal) Jr) (fun a w h=>fi kd Jr _ lr a w rfl (by simpa using hlr) h);have ht:=cZ (fun a w h=>hperm a w h) Jp a w.drew (fg kd Jp _ lp a w.drew rfl (by simpa using hlp) hw);have hbk: ∀i o,l.toArray[i]? =some o→ ∀e∈o.after.toList,Region.binds .any e=true→e.on<i:=by
  intro i o ho e he hb;have h1:=hback i (Array.getElem?_eq_some_iff.1 ho).1;rw[ho]at h1;have h2:=List.all_eq_true.1 h1 e he;simp only[Bool.or_eq_true,Bool.not_eq_true',decide_eq_true_eq]at h2;rcases h2 with h2|h2
  ·rw[hb]at h2;cases h2
  ·exact h2
 have hdis: ∀x,x∈B++Jr→ ¬x∈Jp:=fun x hx hj=>(List.nodup_append.1 hnd).2.2 x hj x hx rfl;refine gN (C:=ext w.drew) (fun _ _ h k=>jt h k) (kd:=kd) hs (fun _ _ h=>h) hbk Jp B Jr hwp hwb hwr hdis (fun i x hi hx hc=> ?_)
  (fun i x hi hx=>(hpr i hi).1 x hx) (fun i x hx hi hlt=>((hpr i hi).2 x hx).resolve_left (fun h=>h hlt)) l.toArray.size Jp B Jr _ a _ ?_ (fun _ h=>h) (fun _ h=>h) (fun _ h=>h) hsp hsr hnd (by simp) (fun i=> ?_) (fun i o _ hl=> ?_) (eK _) (by simpa using ht)
 ·have:=hpp i hi x hx;rcases this with h|h
  ·rcases hc with hc|hc
   ·exact absurd hc h.1
   ·exact absurd (by simpa using h.2) hc
  ·exact h
 ·have h1:(Jp++(B++Jr)).length≤(List.range l.toArray.size).length:=List.Nodup.length_le_of_subset hnd (fun x hx=>by simpa using hin x hx);have h2:(List.range l.toArray.size).length≤(Jp++(B++Jr)).length:=List.Nodup.length_le_of_subset List.nodup_range (fun x hx=>by simpa using hcov x (by simpa using hx));simp at h1 h2⊢;omega
 ·constructor
  ·intro hi;have:=hin i hi;exact⟨this,by simp at this;simp[this]⟩
  ·intro hi;simpa using hcov i hi.1
 ·exfalso;have hf:(Array.replicate l.toArray.size false).getD i false=false:=by
   by_cases hi:i<l.toArray.size
   ·simp at hi;simp[hi]
   ·simp at hi;simp[hi]
  rw[hf]at hl;cases hl
def da(P:Program)(ops:Array Oper)(C:World→Prop)(dep:Nat→List Nat)(R:Act→World→Prop):Nat→List (Nat×Nat×Oper)→Act→World→Prop
 |0,_,a,w=>R a w
 |n+1,B,a,w=> ∀p∈B,(B.all fun q=> !(dep p.1).contains q.1)=true→opH P ops C p.2.1 p.2.2 (da P ops C dep R n (B.filter fun q=>q.1 !=p.1)) a w
theorem dx {ops:Array Oper} {C:World→Prop} {kd:Nat→Nat} {dep:Nat→List Nat} {R R':Act→World→Prop}(hR: ∀a w,R a w→R' a w): ∀(n:Nat) (B:List (Nat×Nat×Oper)),B.length=n→(B.map (·.1)).Nodup→(∀p∈B,p.2.1=kd p.1∧ops[p.1]? =some p.2.2)→(∀p∈B,∀x∈dep p.1,((aR ops.toList []).getD p.1 0).testBit x=true)→ ∀(a:Act) (w:World),da P ops C dep R n B a w→iH P ops C kd R' n (B.map (·.1)) a w
 |0,_,_,_,_,_,a,w,h=>hR a w h
 |n+1,B,hn,hnd,hB,hd,a,w,h=>by
  intro i hi hfree o ho;obtain⟨p,hp,rfl⟩:=List.mem_map.1 hi;obtain⟨hk,hop⟩:=hB p hp;have hoo:o=p.2.2:=Option.some.inj (ho.symm.trans hop);subst hoo;have e:(B.map (·.1)).erase p.1=(B.filter fun q=>q.1 !=p.1).map (·.1):=by
   rw[List.Nodup.erase_eq_filter hnd,List.filter_map];rfl
  rw[←hk,e];have hl:(B.filter fun q=>q.1 !=p.1).length=n:=by
   have h1:((B.map (·.1)).erase p.1).length=(B.map (·.1)).length-1:=List.length_erase_of_mem hi;rw[e]at h1;simp at h1;omega
  have hgo:(B.all fun q=> !(dep p.1).contains q.1)=true:=by
   rw[List.all_eq_true];intro q hq;rw[Bool.not_eq_true',←Bool.not_eq_true];intro hc;have h1:=hd p hp q.1 (by simpa using hc);have h2:=hfree q.1 (List.mem_map_of_mem hq);rw[h1]at h2;cases h2
  refine aK (fun a w h=>dx hR n _ hl ?_ (fun q hq=>hB q (List.mem_filter.1 hq).1) (fun q hq=>hd q (List.mem_filter.1 hq).1) a w h) (h p hp hgo);exact List.Nodup.sublist ((List.filter_sublist).map _) hnd
theorem cq {id:Nat} {Q:Exit→Act→World→Prop} {a:Act} {w:World} {l:List Oper}(ks Jp:List Nat)(B:List (Nat×Nat×Oper))(dep:Nat→List Nat)(Jr:List Nat)(lp lr:List Oper)(ksp ksr:List Nat)(n:Nat)(hkp:Jp.map (fun j=>ks.getD j 2)=ksp)(hkr:Jr.map (fun j=>ks.getD j 2)=ksr)(hn:B.length=n)(hm:P.follows .mixedOrders=true)(hok:eu l.toArray ks Jp (B.map (·.1)) Jr=true)
  (hdep:(B.all fun p=>(dep p.1).all fun x=>((aR l []).getD p.1 0).testBit x)=true)
  (hlp:lp.map some=Jp.map (fun j=>l[j]?)) (hlr:lr.map some=Jr.map (fun j=>l[j]?)) (hB:B.map (fun p=>(p.2.1,some p.2.2))=B.map (fun p=>(ks.getD p.1 2,l[p.1]?)))
  (h: ∀C:World→Prop,C w.drew→(∀w1,C w1→Below w.drew.heap.size w.drew w1)→(∀w1,Below w.drew.heap.size w.drew w1→C w1)→ ∀K:Act→World→Prop,(∀a w,Q .normal a w→K a w)→
   wpH P l.toArray C (da P l.toArray C dep (wpCH P l.toArray C K ksr lr) n B) ksp lp a w.drew):
  (Code.region id l.toArray true).wp P Q a w:=by
 subst hn;have hnd:(B.map (·.1)).Nodup:=by
  unfold eu at hok;simp only[Bool.and_eq_true,decide_eq_true_eq]at hok;exact(List.nodup_append.1 (List.nodup_append.1 hok.1.1.1.2).2.1).1
 refine kC ks Jp (B.map (·.1)) Jr lp lr ksp ksr hkp hkr hm hok hlp hlr (fun C K=>da P l.toArray C dep (wpCH P l.toArray C K ksr lr) B.length B) (fun C K R' hR' a w hp=> ?_) h;rw[List.length_map];refine dx (kd:=fun j=>ks.getD j 2) (dep:=dep) hR' B.length B rfl hnd (fun p hp=> ?_) (fun p hp x hx=> ?_) a w hp
 ·have:=List.map_inj_left.1 hB p hp;simp only[Prod.mk.injEq]at this;exact⟨this.1,by rw[List.getElem?_toArray];exact this.2.symm⟩
 ·simp only[List.all_eq_true]at hdep;exact hdep p hp x hx
end
open Go.RowKit
section
variable {P:Program} {ops:Array Oper} {C:World→Prop} {dep:Nat→List Nat} {R:Act→World→Prop} {St:Nat→Bool→Act→World→Prop}
def iJ(dep:Nat→List Nat):List (Nat×Nat×Oper)→Prop
 | []=>True
 | [_]=>True
 |p::q::r=>p.1∈dep q.1∧iJ dep (q::r)
def lm(P:Program)(ops:Array Oper)(C:World→Prop)(St:Nat→Bool→Act→World→Prop):Nat→List (Nat×Nat×Oper)→Prop
 |_,[]=>True
 |k,p::r=>(∀b a w,St k b a w→opH P ops C p.2.1 p.2.2 (St (k+1) b) a w)∧lm P ops C St (k+1) r
theorem fj(r:List (Nat×Nat×Oper)): ∀(p q:Nat×Nat×Oper),iJ dep (p::r)→q∈r→ ∃x∈p::r,x.1∈dep q.1:=by
 induction r with
 |nil=>intro p q _ hq;cases hq
 |cons s t ih=>
  intro p q h hq;rcases List.mem_cons.1 hq with e|hq
  ·subst e;exact⟨p,List.mem_cons_self,h.1⟩
  ·obtain⟨x,hx,hd⟩:=ih s q h.2 hq;exact⟨x,List.mem_cons_of_mem _ hx,hd⟩
theorem fO(p:Nat×Nat×Oper)(r:List (Nat×Nat×Oper))(h:((p::r).map (·.1)).Nodup):(p::r).filter (fun q=>q.1 !=p.1)=r:=by
 rw[List.map_cons,List.nodup_cons]at h;rw[List.filter_cons,if_neg (by simp),List.filter_eq_self.2];intro x hx;simp only[bne_iff_ne,ne_eq];intro e;exact h.1 (e▸List.mem_map.2 ⟨x,hx,rfl⟩)
theorem jT(r:List (Nat×Nat×Oper))(f:Nat×Nat×Oper)(h:((r++ [f]).map (·.1)).Nodup):(r++ [f]).filter (fun q=>q.1 !=f.1)=r:=by
 rw[List.map_append,List.nodup_append]at h;rw[List.filter_append,List.filter_eq_self.2]
 ·simp
 ·intro x hx;simp only[bne_iff_ne,ne_eq];exact h.2.2 x.1 (List.mem_map.2 ⟨x,hx,rfl⟩) f.1 (by simp)
theorem jU: ∀(Y:List (Nat×Nat×Oper)) (k:Nat),lm P ops C St k Y→iJ dep Y→(Y.map (·.1)).Nodup→(∀a w,St (k+Y.length) true a w→R a w)→ ∀a w,St k true a w→da P ops C dep R Y.length Y a w
 | [],k,_,_,_,hR,a,w,h=>hR a w h
 |p::r,k,hs,hc,hn,hR,a,w,h=>by
  intro q hq hfree;have hqp:q=p:=by
   rcases List.mem_cons.1 hq with rfl|hq'
   ·rfl
   ·obtain⟨x,hx,hd⟩:=fj r p q hc hq';have:=List.all_eq_true.1 hfree x hx;simp at this;exact absurd hd this
  subst hqp;rw[fO q r hn];refine aK (fun a w h=>jU r (k+1) hs.2 (by cases r with|nil=>trivial|cons s t=>exact hc.2) (by rw[List.map_cons,List.nodup_cons]at hn;exact hn.2) (fun a w h=>hR a w (by rw[List.length_cons];rwa [Nat.add_assoc,Nat.add_comm 1]at h)) a w h) (hs.1 true a w h)
theorem bP: ∀(Y:List (Nat×Nat×Oper)) (f:Nat×Nat×Oper) (k:Nat),lm P ops C St k Y→(∀j,j≤Y.length→ ∀a w,St (k+j) false a w→opH P ops C f.2.1 f.2.2 (St (k+j) true) a w)→iJ dep Y→((Y++ [f]).map (·.1)).Nodup→(∀a w,St (k+Y.length) true a w→R a w)→ ∀a w,St k false a w→da P ops C dep R (Y.length+1) (Y++ [f]) a w
 | [],f,k,_,hf,_,hn,hR,a,w,h=>by
  intro q hq _;obtain rfl:q=f:=by simpa using hq
  have e:=jT [] q hn;rw[e];exact aK (fun a w h=>hR a w h) (hf 0 (Nat.zero_le _) a w h)
 |p::r,f,k,hs,hf,hc,hn,hR,a,w,h=>by
  intro q hq hfree;have hq':q=p∨q∈r∨q=f:=by simpa using hq
  rcases hq' with rfl|hq'|rfl
  ·rw[show(q::r++ [f]).filter (fun x=>x.1 !=q.1)=r++ [f] from fO q (r++ [f]) hn];refine aK (fun a w h=>bP r f (k+1) hs.2 (fun j hj a w h=> ?_) (by cases r with|nil=>trivial|cons s t=>exact hc.2) (by rw[List.cons_append,List.map_cons,List.nodup_cons]at hn;exact hn.2) (fun a w h=>hR a w (by rw[List.length_cons];rwa [Nat.add_assoc,Nat.add_comm 1]at h)) a w h) (hs.1 false a w h);have:=hf (j+1) (by simpa using hj) a w (by rwa [Nat.add_assoc,Nat.add_comm 1]at h)
   rwa [Nat.add_assoc,Nat.add_comm 1]
  ·obtain⟨x,hx,hd⟩:=fj r p q hc hq';have:=List.all_eq_true.1 hfree x (by simp only[List.mem_append];exact .inl hx);simp at this;exact absurd hd this
  ·rw[jT (p::r) q hn];refine aK (fun a w h=>jU (p::r) k hs hc (by rw[List.map_append,List.nodup_append]at hn;exact hn.1) hR a w h) (hf 0 (Nat.zero_le _) a w h)
end
end Go.Proofs.YtlpkfdkhlffmlaaGreatDoor
