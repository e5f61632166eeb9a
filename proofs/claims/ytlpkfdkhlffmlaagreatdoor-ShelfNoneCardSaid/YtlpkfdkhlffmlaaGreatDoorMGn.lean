/-
  A region that draws its order,walked once,in the order of the text,where all its operations only make new memory at most. No program in sight.
  Kinds:0:one value in every world of the class;1:one value from now on,whatever more is made;2:a call or another operation that makes new memory at most.
  Where two operations are not ordered by the region's edges the first one in the text must be of kind 0,or the second one,or the first one of kind 1 (and both look at none of each other's slots).
-/
import Derived.Test.YtlpkfdkhlffmlaaGreatDoorMGo
import Derived.Test.YtlpkfdkhlffmlaaGreatDoorMGu
namespace Go.Proofs.YtlpkfdkhlffmlaaGreatDoor
set_option linter.unusedSimpArgs false
set_option linter.unusedVariables false
set_option maxRecDepth 100000
set_option maxHeartbeats 1600000
open Go.RowKit
section
variable {P:Program} {ops:Array Oper} {C:World→Prop}
def yldC(P:Program)(ops:Array Oper)(C:World→Prop)(o:Oper)(v:Value)(a:Act):Prop:=
 (Region.wanted o (yielded ops a.tmps)=true∧ ∀w,C w→(execOp a.eval o).run P w= .ok (.value v) w)∨(Region.wanted o (yielded ops a.tmps)=false∧v=undef)
theorem yldC.same {o:Oper} {v:Value} {a a':Act}(h:yldC P ops C o v a)(he:execOp a'.eval o=execOp a.eval o)(hw:Region.wanted o (yielded ops a'.tmps)=Region.wanted o (yielded ops a.tmps)):yldC P ops C o v a':=by
 rcases h with⟨h1,h2⟩|⟨h1,h2⟩
 ·exact .inl ⟨by rw[hw];exact h1,fun w hc=>by rw[he];exact h2 w hc⟩
 ·exact .inr ⟨by rw[hw];exact h1,h2⟩
theorem yldC.less {C':World→Prop} {o:Oper} {v:Value} {a:Act}(h:yldC P ops C o v a)(hc: ∀w,C' w→C w):yldC P ops C' o v a:=
 h.imp (fun⟨h1,h2⟩=>⟨h1,fun w h=>h2 w (hc w h)⟩) id
theorem yldC.unique {o:Oper} {a:Act} {u v:Value} {w:World}(hw:C w)(h:yldC P ops C o u a)(k:yldC P ops C o v a):u=v:=by
 rcases h with⟨h1,h2⟩|⟨h1,h2⟩<;>rcases k with⟨k1,k2⟩|⟨k1,k2⟩
 ·have:=(h2 w hw).symm.trans (k2 w hw);injection this with this;injection this
 ·rw[h1]at k1;cases k1
 ·rw[h1]at k1;cases k1
 ·rw[h2,k2]
def ext(w:World):World→Prop:=fun w1=>Below w.heap.size w w1
theorem eK(w:World):ext w w:=Below.refl _ w
theorem jt {w w1 w2:World}(h:ext w w1)(k:ext w1 w2):ext w w2:=Below.trans h (Below.mono k h.size)
end
section
variable {P:Program}
variable {ops:Array Oper} {C:World→Prop} {K:Act→World→Prop} {k:Nat} {ks:List Nat} {l:List Oper} {o:Oper} {a a':Act} {w:World} {v:Value}
end
open Go.RowKit
section
variable {P:Program} {ops:Array Oper} {C:World→Prop}
def eL(k:Nat):Bool:=k !=5&&k !=1&&k !=2
def et(k:Nat):Bool:=k !=0&&eL k
def opH(P:Program)(ops:Array Oper)(C:World→Prop)(k:Nat)(o:Oper)(K:Act→World→Prop)(a:Act)(w:World):Prop:=
 match k with
 |0=> ∃v,yldC P ops (fun _=>True) o v a∧K (a.put o.dst v) w
 |5=> ∃v,yldC P ops C o v a∧K (a.put o.dst v) w
 |1=> ∃v,yldC P ops (ext w) o v a∧K (a.put o.dst v) w
 |2=>if Region.wanted o (yielded ops a.tmps)then o.wp P a w (fun a' w' =>ext w w'∧K a' w') noQ else K (a.put o.dst undef) w
 |_=>if Region.wanted o (yielded ops a.tmps)then o.wp P a w K noQ else K (a.put o.dst undef) w
theorem sO {k:Nat}(h0:k=0→False)(h5:k=5→False)(h1:k=1→False)(h2:k=2→False):et k=true:=by
 simp[et,eL];exact⟨h0,⟨h5,h1⟩,h2⟩
theorem uc(hC: ∀w w',C w→ext w w'→C w') {k:Nat} {o:Oper} {K K':Act→World→Prop} {a:Act} {w:World}(hk: ∀a' w',(C w→et k=false→C w')→K a' w'→K' a' w')(h:opH P ops C k o K a w):opH P ops C k o K' a w:=by
 unfold opH at*
 split at h
 ·obtain⟨v,h1,h2⟩:=h;exact⟨v,h1,hk _ _ (fun h _=>h) h2⟩
 ·obtain⟨v,h1,h2⟩:=h;exact⟨v,h1,hk _ _ (fun h _=>h) h2⟩
 ·obtain⟨v,h1,h2⟩:=h;exact⟨v,h1,hk _ _ (fun h _=>h) h2⟩
 ·split at h
  ·rename_i hw;rw[if_pos hw];exact cr (fun a w h=>⟨h.1,hk _ _ (fun hc _=>hC _ _ hc h.1) h.2⟩) h
  ·rename_i hw;rw[if_neg hw];exact hk _ _ (fun h _=>h) h
 ·rename_i h0 h5 h1 h2;have hwild:=sO h0 h5 h1 h2
  split at h
  ·rename_i hw;rw[if_pos hw];exact cr (fun a w h=>hk _ _ (fun _ hn=>by rw[hwild]at hn;cases hn) h) h
  ·rename_i hw;rw[if_neg hw];exact hk _ _ (fun h _=>h) h
theorem aK {k:Nat} {o:Oper} {K K':Act→World→Prop} {a:Act} {w:World}(hk: ∀a w,K a w→K' a w)(h:opH P ops C k o K a w):opH P ops C k o K' a w:=by
 unfold opH at*
 split at h
 ·obtain⟨v,h1,h2⟩:=h;exact⟨v,h1,hk _ _ h2⟩
 ·obtain⟨v,h1,h2⟩:=h;exact⟨v,h1,hk _ _ h2⟩
 ·obtain⟨v,h1,h2⟩:=h;exact⟨v,h1,hk _ _ h2⟩
 ·split at h
  ·rename_i hw;rw[if_pos hw];exact cr (fun a w h=>⟨h.1,hk _ _ h.2⟩) h
  ·rename_i hw;rw[if_neg hw];exact hk _ _ h
 ·split at h
  ·rename_i hw;rw[if_pos hw];exact cr hk h
  ·rename_i hw;rw[if_neg hw];exact hk _ _ h
theorem lh(hC: ∀w w',C w→ext w w'→C w') {k i:Nat} {o:Oper} {K:Act→World→Prop} {Q:Exit→Act→World→Prop} {a:Act} {w:World}(hi:ops[i]? =some o)(hw0:k=5→C w)(h:opH P ops C k o K a w):wpOp P ops Q i (fun a' w' =>(C w→et k=false→C w')∧K a' w') a w:=by
 unfold opH at h;have quiet: ∀v (C':World→Prop),C' w→yldC P ops C' o v a→K (a.put o.dst v) w→wpOp P ops Q i (fun a' w' =>(C w→et k=false→C w')∧K a' w') a w:=by
  intro v C' hc hy hK;unfold wpOp;simp only[hi];rcases hy with⟨hw,hv⟩|⟨hw,rfl⟩
  ·simp only[hw,if_true,Oper.wp,hv w hc,Oper.upon];exact .inl ⟨fun h _=>h,hK⟩
  ·simp only[hw,Bool.false_eq_true,if_false];exact⟨fun h _=>h,hK⟩
 split at h
 ·obtain⟨v,h1,h2⟩:=h;exact quiet v _ trivial h1 h2
 ·obtain⟨v,h1,h2⟩:=h;exact quiet v C (hw0 rfl) h1 h2
 ·obtain⟨v,h1,h2⟩:=h;exact quiet v _ (eK w) h1 h2
 ·unfold wpOp;simp only[hi]
  split at h
  ·rename_i hw;rw[if_pos hw];exact .inl (cr (fun _ _ h=>⟨fun hc _=>hC _ _ hc h.1,h.2⟩) h)
  ·rename_i hw;rw[if_neg hw];exact⟨fun h _=>h,h⟩
 ·rename_i h0 h5 h1 h2;have hwild:=sO h0 h5 h1 h2;unfold wpOp;simp only[hi]
  split at h
  ·rename_i hw;rw[if_pos hw];exact .inl (cr (fun _ _ h=>⟨fun _ hn=>(by rw[hwild]at hn;cases hn),h⟩) h)
  ·rename_i hw;rw[if_neg hw];exact⟨fun h _=>h,h⟩
def li(x i:Nat):Bool:=x==0||i==0||((x==5||x==1||x==2)&&i==5)||((x==5||x==1)&&(i==1||i==2))
theorem Bk {kx ki:Nat} {x i:Oper}(hap:x.apart ops i=true)(hk:li kx ki=true)(hsx: ∀cs b,x.op≠ .select cs b)(hsi: ∀cs b,i.op≠ .select cs b) {K:Act→World→Prop} {a:Act} {w:World}
  (hw0:C w∨(eL kx=true∧eL ki=true))
  (h:opH P ops C kx x (fun a w=>opH P ops C ki i K a w) a w):opH P ops C ki i (fun a w=>opH P ops C kx x K a w) a w:=by
 obtain⟨h1,h2,h3⟩:=Oper.apart_spec hap;have xsame: ∀(a:Act) u,execOp (a.put i.dst u).eval x=execOp a.eval x:=fun a u=>execOp_put x hsx a i.dst u h3;have xwant: ∀(a:Act) u,Region.wanted x (yielded ops (a.put i.dst u).tmps)=Region.wanted x (yielded ops a.tmps):=fun a u=>wanted_put x a i.dst u h3;have isame: ∀(a:Act) u,execOp (a.put x.dst u).eval i=execOp a.eval i:=fun a u=>execOp_put i hsi a x.dst u h1;have iwant: ∀(a:Act) u,Region.wanted i (yielded ops (a.put x.dst u).tmps)=Region.wanted i (yielded ops a.tmps):=fun a u=>wanted_put i a x.dst u h1;have quiet2: ∀(u v:Value),K ((a.put x.dst v).put i.dst u) w→K ((a.put i.dst u).put x.dst v) w:=fun u v h=>by rw[←Act.put_comm a v u h2];exact h
 have iY: ∀ {C':World→Prop} {u v},yldC P ops C' i u (a.put x.dst v)→yldC P ops C' i u a:=fun h=>h.same (isame a _).symm (iwant a _).symm;have xY: ∀ {C':World→Prop} {u v} {a:Act},yldC P ops C' x v a→yldC P ops C' x v (a.put i.dst u):=fun h=>h.same (xsame _ _) (xwant _ _);have any: ∀(v:Value) (Y:Act→Prop) (K':Act→World→Prop),(∀a u,Y a→Y (a.put i.dst u))→(∀a d,Y a→Y {a with defers:=d::a.defers})→Y a→
   i.wp P (a.put x.dst v) w K' noQ→i.wp P a w (fun a' w' =>Y a'∧K' (a'.put x.dst v) w') noQ:=fun v Y K' hY hYd hy h=>ri hap hsi Y hY hYd hy h
 have first: ∀(v:Value) (Cx:World→Prop),yldC P ops Cx x v a→(∀w',ext w w'→ ∀a',yldC P ops Cx x v a'→K (a'.put x.dst v) w'→opH P ops C kx x K a' w')→
   opH P ops C ki i K (a.put x.dst v) w→(kx=0→ ∀w' a',yldC P ops Cx x v a'→K (a'.put x.dst v) w'→opH P ops C kx x K a' w')→kx=0∨(ki=0∨ki=5∨ki=1∨ki=2)→
   opH P ops C ki i (fun a w=>opH P ops C kx x K a w) a w:=by
  intro v Cx hy hre h hre0 hki;have re: ∀a',yldC P ops Cx x v a'→K (a'.put x.dst v) w→opH P ops C kx x K a' w:=fun a' ha hK=>hre w (eK w) a' ha hK;unfold opH at h
  conv=>unfold opH
  split at h
  ·obtain⟨u,hu,h⟩:=h;exact⟨u,iY hu,re _ (xY hy) (quiet2 _ _ h)⟩
  ·obtain⟨u,hu,h⟩:=h;exact⟨u,iY hu,re _ (xY hy) (quiet2 _ _ h)⟩
  ·obtain⟨u,hu,h⟩:=h;exact⟨u,iY hu,re _ (xY hy) (quiet2 _ _ h)⟩
  ·rw[iwant]at h
   split
   ·rename_i hw;rw[if_pos hw]at h;exact cr (fun a' w' ⟨hy',he,hk⟩=>⟨he,hre w' he a' hy' hk⟩) (any v (fun a=>yldC P ops Cx x v a) _ (fun a u h=>xY h) (fun a d h=>h.same rfl rfl) hy h)
   ·rename_i hw;rw[if_neg hw]at h;exact re _ (xY hy) (by rw[←Act.put_comm a v undef h2];exact h)
  ·rename_i g0 g5 g1 g2;have hk0:kx=0:=hki.resolve_right (fun h=>by rcases h with h|h|h|h;exact g0 h;exact g5 h;exact g1 h;exact g2 h);rw[iwant]at h
   split
   ·rename_i hw;rw[if_pos hw]at h;exact cr (fun a' w' ⟨hy',hk⟩=>hre0 hk0 w' a' hy' hk) (any v (fun a=>yldC P ops Cx x v a) _ (fun a u h=>xY h) (fun a d h=>h.same rfl rfl) hy h)
   ·rename_i hw;rw[if_neg hw]at h;exact re _ (xY hy) (by rw[←Act.put_comm a v undef h2];exact h)
 have second: ∀(Ci:World→Prop),Ci w→ ∀(R:World→Prop),x.wp P a w (fun a' w' =>R w'∧ ∃v,yldC P ops Ci i v a'∧K (a'.put i.dst v) w') noQ→ ∃v,yldC P ops Ci i v a∧x.wp P (a.put i.dst v) w (fun a' w' =>R w'∧K a' w') noQ:=by
  intro Ci hCi R h;obtain⟨a',w',u,⟨_,v,hy,_⟩,ht⟩:=ln h;have hy':yldC P ops Ci i v a:=by
   refine iY (v:=u) (hy.same ?_ ?_)
   ·rw[iK ht]
   ·rw[ht]
  refine⟨v,hy',?_⟩;refine sU hap hsx ?_;have key: ∀(a'':Act) (w'':World),(∃d:List Deferred,∃u',a'' ={a with defers:=d}.put x.dst u')→(R w''∧ ∃v',yldC P ops Ci i v' a''∧K (a''.put i.dst v') w'')→(R w''∧K (a''.put i.dst v) w''):=by
   rintro a'' w'' ⟨d,u',rfl⟩ ⟨he,v',hv',hK⟩;have:v' =v:=by
    refine yldC.unique (a:=a) hCi (hv'.same ?_ ?_) hy'
    ·exact(execOp_put i hsi {a with defers:=d} x.dst u' h1).symm
    ·exact(wanted_put i {a with defers:=d} x.dst u' h1).symm
   rw[this]at hK;exact⟨he,hK⟩
  unfold Oper.wp at h⊢;generalize (execOp a.eval x).run P w=r at h⊢;cases r with
  |ok n w' =>
   cases n<;>simp only[Oper.upon]at h⊢
   case value u=>exact key _ _ ⟨a.defers,u,rfl⟩ h
   case skip=>exact key _ _ ⟨a.defers,undef,rfl⟩ h
   case defer d=>exact key _ _ ⟨_,undef,rfl⟩ h
   case enter f args=>
    refine Calls.mono h fun e w'' he=> ?_;cases e with
    |returned u=>exact key _ _ ⟨a.defers,u,rfl⟩ he
    |panicked c=>exact he.elim
    |outgrown=>exact he
   case row row args=>exact Rows.mono h fun u w'' he=>key _ _ ⟨a.defers,u,rfl⟩ he
  |halt y w' =>cases y<;>simp only[Oper.upon]at h⊢ <;>exact h.elim
 have skipped: ∀(Ci:World→Prop),(∃v,yldC P ops Ci i v (a.put x.dst undef)∧K ((a.put x.dst undef).put i.dst v) w)→ ∃v,yldC P ops Ci i v a∧K ((a.put i.dst v).put x.dst undef) w:=by
  rintro Ci ⟨v,hy,hK⟩;exact⟨v,iY hy,by rw[←Act.put_comm a undef v h2];exact hK⟩
 by_cases k0:kx=0
 ·subst k0;obtain⟨v,hy,h⟩:=h;exact first v _ hy (fun w' _ a' ha hK=>⟨v,ha,hK⟩) h (fun _ w' a' ha hK=>⟨v,ha,hK⟩) (.inl rfl)
 have hki:(kx=5∨kx=1)→ki=0∨ki=5∨ki=1∨ki=2:=by
  intro hx;simp[li]at hk;rcases hk with((hk|hk)|hk)|hk
  ·exact absurd hk k0
  ·exact .inl hk
  ·exact .inr (.inl hk.2)
  ·rcases hk.2 with h|h
   ·exact .inr (.inr (.inl h))
   ·exact .inr (.inr (.inr h))
 by_cases k5:kx=5
 ·subst k5;obtain⟨v,hy,h⟩:=h;exact first v _ hy (fun w' _ a' ha hK=>⟨v,ha,hK⟩) h (fun h0=>by cases h0) (.inr (hki (.inl rfl)))
 by_cases k1:kx=1
 ·subst k1;obtain⟨v,hy,h⟩:=h;exact first v _ hy (fun w' he a' ha hK=>⟨v,ha.less (fun w2 h2=>jt he h2),hK⟩) h (fun h0=>by cases h0) (.inr (hki (.inr rfl)))
 have hi05:ki=0∨(ki=5∧kx=2):=by
  simp[li]at hk;rcases hk with((hk|hk)|hk)|hk
  ·exact absurd hk k0
  ·exact .inl hk
  ·rcases hk.1 with(h|h)|h
   ·exact absurd h k5
   ·exact absurd h k1
   ·exact .inr ⟨hk.2,h⟩
  ·rcases hk.1 with h|h
   ·exact absurd h k5
   ·exact absurd h k1
 have hop: ∀K' a' w',opH P ops C kx x K' a' w' =(if Region.wanted x (yielded ops a'.tmps)then x.wp P a' w' (fun a'' w'' =>(kx=2→ext w' w'')∧K' a'' w'') noQ else K' (a'.put x.dst undef) w'):=by
  intro K' a' w';unfold opH
  split
  ·exact absurd rfl k0
  ·exact absurd rfl k5
  ·exact absurd rfl k1
  ·simp
  ·rename_i g2;simp[show¬kx=2 from fun h=>g2 h]
 rw[hop]at h;rcases hi05 with rfl|⟨rfl,rfl⟩
 ·by_cases hw:Region.wanted x (yielded ops a.tmps)=true
  ·rw[if_pos hw]at h;obtain⟨v,hy,hK⟩:=second (fun _=>True) trivial (fun w' =>kx=2→ext w w') h;refine⟨v,hy,?_⟩;show opH P ops C kx x K _ _;rw[hop,xwant,if_pos hw];exact hK
  ·rw[if_neg hw]at h;obtain⟨v,hy,hK⟩:=skipped _ h;refine⟨v,hy,?_⟩;show opH P ops C kx x K _ _;rw[hop,xwant,if_neg hw];exact hK
 ·have hc:C w:=hw0.resolve_right (fun h=>by simp[eL]at h);by_cases hw:Region.wanted x (yielded ops a.tmps)=true
  ·rw[if_pos hw]at h;obtain⟨v,hy,hK⟩:=second C hc (fun w' =>(2:Nat)=2→ext w w') h;refine⟨v,hy,?_⟩;show opH P ops C 2 x K _ _;rw[hop,xwant,if_pos hw];exact hK
  ·rw[if_neg hw]at h;obtain⟨v,hy,hK⟩:=skipped _ h;refine⟨v,hy,?_⟩;show opH P ops C 2 x K _ _;rw[hop,xwant,if_neg hw];exact hK
def wpH(P:Program)(ops:Array Oper)(C:World→Prop)(K:Act→World→Prop):List Nat→List Oper→Act→World→Prop
 |k::ks,o::l,a,w=>opH P ops C k o (wpH P ops C K ks l) a w
 |_,_,a,w=>K a w
def wpHT(P:Program)(ops:Array Oper)(C:World→Prop)(kd:Nat→Nat)(K:Act→World→Prop):List Nat→Act→World→Prop
 | [],a,w=>K a w
 |i::r,a,w=>match ops[i]? with
  |none=>wpHT P ops C kd K r a w
  |some o=>opH P ops C (kd i) o (wpHT P ops C kd K r) a w
theorem jS {K:Act→World→Prop}(kd:Nat→Nat): ∀(ks:List Nat) (l:List Oper) (m:Nat) (a:Act) (w:World),ks.length=l.length→(∀j,l[j]? =ops[m+j]?)→(∀j,j<ks.length→ks.getD j 2=kd (m+j))→
  wpH P ops C K ks l a w→wpHT P ops C kd K (List.range' m l.length) a w
 | [],[],m,a,w,_,_,_,h=>by simpa[wpHT,wpH]using h
 | [],o::l,m,a,w,hl,_,_,_=>by simp at hl
 |k::ks,[],m,a,w,hl,_,_,_=>by simp at hl
 |k::ks,o::l,m,a,w,hl,ho,hk,h=>by
  have h0:=ho 0;have k0:=hk 0 (by simp);simp at h0 k0;simp only[List.length_cons,List.range'_succ,wpHT,←h0];simp only[wpH]at h;rw[←k0];refine aK (fun a w h=>jS kd ks l (m+1) a w (by simpa using hl) (fun j=> ?_) (fun j hj=> ?_) h) h
  ·have:=ho (j+1);simp at this;rw[this];congr 1;omega
  ·have:=hk (j+1) (by simpa using hj);simp at this;rw[Nat.add_assoc,Nat.add_comm 1 j,←this];simp
theorem cZ {kd:Nat→Nat} {K K':Act→World→Prop}(hk: ∀a w,K a w→K' a w): ∀(L:List Nat) (a:Act) (w:World),wpHT P ops C kd K L a w→wpHT P ops C kd K' L a w
 | [],a,w,h=>hk a w h
 |i::r,a,w,h=>by
  unfold wpHT at*
  split at h
  ·exact cZ hk r a w h
  ·exact aK (fun a w=>cZ hk r a w) h
def mO(ops:Array Oper)(kd:Nat→Nat)(x i:Nat):Bool:=
 match ops[x]?,ops[i]? with
 |some ox,some oi=>li (kd x) (kd i)&&ox.apart ops oi
 |_,_=>false
def nQ(ops:Array Oper)(ks:List Nat):Bool:=
 Region.noSelect ops&&decide (ks.length=ops.size)&&
 (List.range ops.size).all (fun i=>match ops[i]? with|some o=>o.after.toList.all fun e=> !Region.binds .any e||decide (e.on<i)|none=>true)&&
 (List.range ops.size).all fun i=>(List.range i).all fun x=>(!et (ks.getD x 2)||eL (ks.getD i 2))&&(((aR ops.toList []).getD i 0).testBit x||mO ops (fun j=>ks.getD j 2) x i)
theorem mt(hC: ∀w w',C w→ext w w'→C w')(ok:Nat→Prop) {kd:Nat→Nat} {K:Act→World→Prop} {Q:Exit→Act→World→Prop}(hs:Region.noSelect ops=true)(hQ: ∀a w,K a w→Q .normal a w)
  (hback: ∀i o,ops[i]? =some o→ ∀e∈o.after.toList,Region.binds .any e=true→e.on<i)
  (htail: ∀i x,i<ops.size→x<i→et (kd x)=true→eL (kd i)=true)
  (hpair: ∀i x,i<ops.size→ok x→ok i→x<i→((aR ops.toList []).getD i 0).testBit x=true∨mO ops kd x i=true):
  ∀(m:Nat) (L:List Nat) (listed:Array Bool) (a:Act) (w:World),L.length=m→(∀i∈L,ok i)→L.Pairwise (· < ·)→listed.size=ops.size→(∀i,i∈L↔i<ops.size∧listed.getD i true=false)→
   (∀i o,ops[i]? =some o→listed.getD i false=true→ ∀e∈o.after.toList,Region.binds .any e=true→listed.getD e.on false=true)→
   (C w∨ ∀j∈L,eL (kd j)=true)→wpHT P ops C kd K L a w→wpAny P .any ops Q m listed a w:=by
 intro m
 induction m with
 |zero=>
  intro L listed a w hL _ _ _ hmem _ _ h;have:L=[]:=List.eq_nil_of_length_eq_zero hL;subst this;refine⟨?_,hQ _ _ h⟩;apply List.eq_nil_iff_forall_not_mem.2;intro i hi;obtain⟨h0,o,ho,_⟩:=mem_ready.1 hi;have:=(hmem i).2 ⟨(Array.getElem?_eq_some_iff.1 ho).1,h0⟩;cases this
 |succ m ih=>
  intro L listed a w hL hge hsort hsz hmem hcl hw0 h;refine⟨fun hr=> ?_,fun i hi=> ?_⟩
  ·
   exfalso;cases L with
   |nil=>cases hL
   |cons i0 L' =>
    obtain⟨hlt,hun⟩:=(hmem i0).1 (by simp);have hrd:i0∈Region.ready .any ops listed:=by
     refine mem_ready.2 ⟨hun,ops[i0],Array.getElem?_eq_getElem hlt,fun e he hb=> ?_⟩;have hel:=hback i0 _ (Array.getElem?_eq_getElem hlt) e (by simpa using he) hb;have hnot:e.on∉i0::L':=by
      intro hm;rcases List.mem_cons.1 hm with hm|hm
      ·omega
      ·have:=(List.pairwise_cons.1 hsort).1 _ hm;omega
     have hlt':e.on<listed.size:=by omega
     cases hv:listed.getD e.on true with
     |false=>exact absurd ((hmem e.on).2 ⟨by omega,hv⟩) hnot
     |true=>simp[hlt']at hv⊢;exact hv
    rw[hr]at hrd;cases hrd
  ·obtain⟨hun,o,ho,hedges⟩:=mem_ready.1 hi;have hilt:=(Array.getElem?_eq_some_iff.1 ho).1;have hiL:=(hmem i).2 ⟨hilt,hun⟩;obtain⟨L1,L2,rfl⟩:=List.append_of_mem hiL;have hun1: ∀x∈L1,x<i∧mO ops kd x i=true:=by
    intro x hxL1;have hxi:x<i:=by
     have:=List.pairwise_append.1 hsort;exact this.2.2 x hxL1 i (by simp)
    have hxun:listed.getD x true=false:=((hmem x).1 (List.mem_append_left _ hxL1)).2;have hnb:((aR ops.toList []).getD i 0).testBit x≠true:=by
     intro hb;have hx:=cl (ops:=ops) (listed:=listed) hcl ops.toList [] (by simp) (fun i o hi=>by simp at hi) i o (by rw[cn];simpa using hilt) ho (fun e he hb=>hedges e (by simpa using he) hb) x hb;have hxs:x<listed.size:=by omega
     simp[hxs]at hx hxun;rw[hx]at hxun;cases hxun
    exact⟨hxi,(hpair i x hilt (hge x (List.mem_append_left _ hxL1)) (hge i (by simp)) hxi).resolve_left hnb⟩
   have hall: ∀j∈L1++i::L2,j<ops.size:=fun j hj=>((hmem j).1 hj).1;have bubble: ∀(M:List Nat),(∀x∈M,x∈L1)→(M++i::L2).Pairwise (· < ·)→ ∀(a:Act) (w:World),(C w∨ ∀j∈M++i::L2,eL (kd j)=true)→wpHT P ops C kd K (M++i::L2) a w→wpHT P ops C kd K (i::(M++L2)) a w:=by
    intro M
    induction M with
    |nil=>intro _ _ a w _ h;exact h
    |cons x M ihM=>
     intro hM hMs a w hwa h;have hxL1:=hM x (by simp);obtain⟨hxi,hp⟩:=hun1 x hxL1;unfold mO at hp;have hox:ops[x]? =some ops[x]:=Array.getElem?_eq_getElem (by omega);rw[hox,ho]at hp;simp only[Bool.and_eq_true]at hp;have h1:opH P ops C (kd x) ops[x] (fun a w=>opH P ops C (kd i) o (wpHT P ops C kd K (M++L2)) a w) a w:=by
      have h':opH P ops C (kd x) ops[x] (wpHT P ops C kd K (M++i::L2)) a w:=by
       simpa only[List.cons_append,wpHT,hox]using h
      refine uc hC (fun a' w' hcw h=> ?_) h';have hrest:C w'∨ ∀j∈M++i::L2,eL (kd j)=true:=by
       rcases hwa with hwa|hwa
       ·cases hwx:et (kd x)with
        |false=>exact .inl (hcw hwa hwx)
        |true=>
         refine .inr fun j hj=>htail j x ?_ ((List.pairwise_cons.1 hMs).1 j hj) hwx;refine hall j ?_;rcases List.mem_append.1 hj with hj|hj
         ·exact List.mem_append_left _ (hM j (by simp[hj]))
         ·exact List.mem_append_right _ hj
       ·exact .inr fun j hj=>hwa j (List.mem_cons_of_mem _ hj)
      have:=ihM (fun y hy=>hM y (by simp[hy])) (List.pairwise_cons.1 hMs).2 a' w' hrest h;simpa only[wpHT,ho]using this
     have h2:=Bk hp.2 hp.1 (fun cs b=>Region.noSelect_spec hs x _ cs b hox) (fun cs b=>Region.noSelect_spec hs i _ cs b ho) (hwa.imp id fun h=>⟨h x (by simp),h i (by simp)⟩) h1;simp only[wpHT,ho,List.cons_append];refine aK (fun a w h=> ?_) h2;simpa only[wpHT,hox]using h
   have hb:=bubble L1 (fun x hx=>hx) hsort a w hw0 h;have hb':opH P ops C (kd i) o (wpHT P ops C kd K (L1++L2)) a w:=by simpa only[wpHT,ho]using hb
   refine wpOp_mono (fun a' w' ⟨hw',h'⟩=> ?_) (lh hC (Q:=Q) ho (fun h5=>hw0.resolve_right (fun h=>by have:=h i (by simp);rw[h5]at this;cases this)) hb');have hgood:C w'∨ ∀j∈L1++L2,eL (kd j)=true:=by
    rcases hw0 with hw0|hw0
    ·cases hwi:et (kd i)with
     |false=>exact .inl (hw' hw0 hwi)
     |true=>
      refine .inr fun j hj=> ?_;rcases List.mem_append.1 hj with hj|hj
      ·obtain⟨hji,hp⟩:=hun1 j hj;unfold mO at hp;rw[show ops[j]? =some ops[j] from Array.getElem?_eq_getElem (by omega),ho]at hp;simp only[Bool.and_eq_true]at hp;have hk:=hp.1;simp[et,eL]at hwi;simp[li]at hk;rcases hk with((hk|hk)|hk)|hk
       ·rw[hk];rfl
       ·exact absurd hk hwi.1
       ·exact absurd hk.2 hwi.2.1.1
       ·rcases hk.2 with h|h
        ·exact absurd h hwi.2.1.2
        ·exact absurd h hwi.2.2
      ·have hpw:=(List.pairwise_append.1 hsort).2.1;exact htail j i (hall j (by simp[hj])) ((List.pairwise_cons.1 hpw).1 j hj) hwi
    ·exact .inr fun j hj=>hw0 j (by rcases List.mem_append.1 hj with h|h<;>simp[h])
   have hnd:(L1++i::L2).Nodup:=hsort.imp (fun h=>Nat.ne_of_lt h);refine ih (L1++L2) (listed.setIfInBounds i true) a' w' (by simp at hL⊢;omega) (fun j hj=>hge j (by rcases List.mem_append.1 hj with hj|hj<;>simp[hj])) ?_ (by simpa using hsz) (fun j=> ?_) ?_ hgood h'
   ·exact List.Pairwise.sublist (List.Sublist.append (List.Sublist.refl _) (List.sublist_cons_self _ _)) hsort
   ·by_cases hji:i=j
    ·subst hji;constructor
     ·intro hm;exfalso;rw[List.nodup_append]at hnd;obtain⟨_,h2,h3⟩:=hnd;rcases List.mem_append.1 hm with hm|hm
      ·exact h3 i hm i (by simp) rfl
      ·exact(List.nodup_cons.1 h2).1 hm
     ·rintro⟨_,hf⟩;have his:i<listed.size:=by omega
      simp[his]at hf
    ·rw[getD_set_ne true hji,←hmem j];simp only[List.mem_append,List.mem_cons];constructor
     ·rintro(h|h)
      ·exact .inl h
      ·exact .inr (.inr h)
     ·rintro(h|h|h)
      ·exact .inl h
      ·exact absurd h.symm hji
      ·exact .inr h
   ·intro j oj hoj hl e he hb;by_cases hji:i=j
    ·subst hji;have:oj=o:=Option.some.inj (hoj.symm.trans ho);subst this;exact getD_set_true (hedges e (by simpa using he) hb)
    ·rw[getD_set_ne false hji]at hl;exact getD_set_true (hcl j oj hoj hl e he hb)
theorem kB {id:Nat} {Q:Exit→Act→World→Prop} {a:Act} {w:World} {l:List Oper}(ks:List Nat)(hm:P.follows .mixedOrders=true)(hok:nQ l.toArray ks=true)(hC: ∀w w',C w→ext w w'→C w')(hw0:C w.drew)
  (h:wpH P l.toArray C (Q .normal) ks l a w.drew):(Code.region id l.toArray true).wp P Q a w:=by
 unfold nQ at hok;simp only[Bool.and_eq_true,decide_eq_true_eq,List.all_eq_true,List.mem_range]at hok;obtain⟨⟨⟨hs,hlen⟩,hback⟩,hpair⟩:=hok;refine wp_region_any hm ?_;have ht:=jS (P:=P) (ops:=l.toArray) (K:=Q .normal) (fun j=>ks.getD j 2) ks l 0 a w.drew (by simpa using hlen) (by simp) (fun j _=>by simp) h;refine mt hC (fun _=>True) (kd:=fun j=>ks.getD j 2) hs (fun _ _ h=>h) (fun i o ho e he hb=> ?_) (fun i x hi hx hwx=> ?_) (fun i x hi _ _ hx=> ?_) l.toArray.size (List.range' 0 l.length) _ a _ (by simp) (fun _ _=>trivial) List.pairwise_lt_range' (by simp) (fun i=> ?_) (fun i o _ hl=> ?_) (.inl hw0) ht
 ·have h1:=hback i (Array.getElem?_eq_some_iff.1 ho).1;rw[ho]at h1;have h2:=List.all_eq_true.1 h1 e he;simp only[Bool.or_eq_true,Bool.not_eq_true',decide_eq_true_eq]at h2;rcases h2 with h2|h2
  ·rw[hb]at h2;cases h2
  ·exact h2
 ·have:=(hpair i hi x hx).1;rw[Bool.or_eq_true,Bool.not_eq_true']at this;rcases this with h|h
  ·rw[hwx]at h;cases h
  ·exact h
 ·have:=(hpair i hi x hx).2;simpa only[Bool.or_eq_true]using this
 ·simp only[List.mem_range'_1,Nat.zero_le,true_and,Nat.zero_add,List.size_toArray];constructor
  ·intro hi;exact⟨hi,by simp[hi]⟩
  ·exact fun h=>h.1
 ·exfalso;have hf:(Array.replicate l.toArray.size false).getD i false=false:=by
   by_cases hi:i<l.toArray.size
   ·simp at hi;simp[hi]
   ·simp at hi;simp[hi]
  rw[hf]at hl;cases hl
def nR(ops:Array Oper)(ks:List Nat):Bool:=
 Region.noSelect ops&&decide (ks.length=ops.size)&&
 (List.range ops.size).all (fun i=>match ops[i]? with|some o=>o.after.toList.all fun e=> !Region.binds .any e||decide (e.on<i)|none=>true)&&
 mP ops.toList [] fun ms=>(List.range ops.size).all fun i=>lj (ms.getD i 0) fun m=>(List.range i).all fun x=>(!et (ks.getD x 2)||eL (ks.getD i 2))&&(m.testBit x||mO ops (fun j=>ks.getD j 2) x i)
theorem qV(ops:Array Oper)(ks:List Nat):nR ops ks=nQ ops ks:=by
 unfold nR nQ;rw[fM];simp only[eN]
end
section
variable {P:Program}
theorem an {id:Nat} {Q:Exit→Act→World→Prop} {a:Act} {w:World} {l:List Oper}(ks:List Nat)(hm:P.follows .mixedOrders=true)(hok:nR l.toArray ks=true)
  (h: ∀C:World→Prop,C w.drew→(∀w1,C w1→Below w.drew.heap.size w.drew w1)→ ∀K:Act→World→Prop,(∀a w,Q .normal a w→K a w)→wpH P l.toArray C K ks l a w.drew):
  (Code.region id l.toArray true).wp P Q a w:=
 kB (C:=ext w.drew) ks hm (by rw[←qV];exact hok) (fun _ _ h k=>jt h k) (eK _) (h _ (eK _) (fun _ h=>h) _ (fun _ _ h=>h))
variable {ops:Array Oper} {C:World→Prop} {K:Act→World→Prop} {k:Nat} {ks:List Nat} {l:List Oper} {o:Oper} {a a':Act} {w:World} {v:Value}
theorem zv(hg:Region.wanted o (yielded ops a.tmps)=true)(hr: ∀w,(execOp a.eval o).run P w= .ok (.value v) w)(ha:a.put o.dst v=a')(h:wpH P ops C K ks l a' w):wpH P ops C K (0::ks) (o::l) a w:=by
 subst ha;exact⟨v,.inl ⟨hg,fun w _=>hr w⟩,h⟩
theorem Bl(hg:Region.wanted o (yielded ops a.tmps)=true)(hr: ∀w,C w→(execOp a.eval o).run P w= .ok (.value v) w)(ha:a.put o.dst v=a')(h:wpH P ops C K ks l a' w):wpH P ops C K (5::ks) (o::l) a w:=by
 subst ha;exact⟨v,.inl ⟨hg,hr⟩,h⟩
theorem zx(hg:Region.wanted o (yielded ops a.tmps)=true)(hr: ∀w1,Below w.heap.size w w1→(execOp a.eval o).run P w1= .ok (.value v) w1)(ha:a.put o.dst v=a')(h:wpH P ops C K ks l a' w):wpH P ops C K (1::ks) (o::l) a w:=by
 subst ha;exact⟨v,.inl ⟨hg,hr⟩,h⟩
theorem ff(hg:Region.wanted o (yielded ops a.tmps)=true)(hr:kH P ((execOp a.eval o).run P w) w fun e w' => ∃v,e= .returned v∧Below w.heap.size w w'∧wpH P ops C K ks l (a.put o.dst v) w'):wpH P ops C K (2::ks) (o::l) a w:=by
 obtain⟨f,args,hr,hc⟩:=hr;unfold wpH opH;simp only[hg,if_true];unfold Oper.wp;rw[hr];refine Calls.mono hc fun e w' he=> ?_;obtain⟨v,rfl,hb,hk⟩:=he;exact⟨hb,hk⟩
theorem aX {w':World}(hg:Region.wanted o (yielded ops a.tmps)=true)(hr:(execOp a.eval o).run P w= .ok (.value v) w')(hb:Below w.heap.size w w')(h:wpH P ops C K ks l (a.put o.dst v) w'):wpH P ops C K (2::ks) (o::l) a w:=by
 unfold wpH opH;simp only[hg,if_true];unfold Oper.wp;rw[hr];exact⟨hb,h⟩
theorem bJ(ks':List Nat)(hks:ks=ks'.map fun k=>if k=0 then 0 else 3)(h0: ∀k∈ks',k=0∨k=2)(h:wpZ P ops K ks' l a w):wpH P ops C K ks l a w:=by
 subst hks
 induction ks' generalizing l a w with
 |nil=>cases l<;>simpa[wpZ,wpH]using h
 |cons k ks' ih=>
  cases l with
  |nil=>simpa[wpZ,wpH]using h
  |cons o l=>
   have ih':=fun(a:Act) (w:World)=>ih (l:=l) (a:=a) (w:=w) (fun k hk=>h0 k (by simp[hk]));rcases h0 k (by simp)with rfl|rfl
   ·have h': ∃v,Yields P ops o v a∧wpZ P ops K ks' l (a.put o.dst v) w:=by simpa[wpZ,opT]using h
    obtain⟨v,hy,hk⟩:=h';rw[List.map_cons,if_pos rfl];unfold wpH;show∃v,yldC P ops (fun _=>True) o v a∧_;refine⟨v,?_,ih' _ _ hk⟩;rcases hy with⟨h1,h2⟩|⟨h1,h2⟩
    ·exact .inl ⟨h1,fun w _=>h2 w⟩
    ·exact .inr ⟨h1,h2⟩
   ·rw[List.map_cons,if_neg (by omega)];unfold wpH;unfold wpZ opT at h;unfold opH;simp only[]at h⊢
    split at h
    ·rename_i hw;rw[if_pos hw];exact cr (fun a w h=>ih' a w h) h
    ·rename_i hw;rw[if_neg hw];exact ih' _ _ h
end
section
variable {P:Program} {ops:Array Oper} {C:World→Prop} {K:Act→World→Prop} {ks:List Nat} {l:List Oper} {o:Oper} {a a':Act} {w:World} {v:Value}
def Hs(P:Program)(ops:Array Oper)(C:World→Prop)(K:Act→World→Prop)(k:Nat)(ks:List Nat)(l:List Oper)(o:Oper)(a:Act)(w:World):Prop:=wpH P ops C K (k::ks) (o::l) a w
theorem hq0(h:Hs P ops C K 0 ks l o a w):wpH P ops C K (0::ks) (o::l) a w:=h
theorem hq1(h:Hs P ops C K 1 ks l o a w):wpH P ops C K (1::ks) (o::l) a w:=h
theorem hq5(h:Hs P ops C K 5 ks l o a w):wpH P ops C K (5::ks) (o::l) a w:=h
theorem hq0a(h:wpH P ops C K ks l a' w)(hr: ∀w,(execOp a.eval o).run P w= .ok (.value v) w:=by intro _;go_simp;(try go_bits);exact rfl)(ha:a.put o.dst v=a':=by simp only[Act.put,zz1,zz2,zz3,Act.eval,zz4,zz5,zz6,zz7,zz8];exact rfl)(hg:Region.wanted o (yielded ops a.tmps)=true:=by exact rfl):Hs P ops C K 0 ks l o a w:=zv hg hr ha h
theorem hq1a(h:wpH P ops C K ks l a' w)(hr: ∀w1,Below w.heap.size w w1→(execOp a.eval o).run P w1= .ok (.value v) w1:=by intro _ hbw;go_simp;(try go_bits);exact rfl)(ha:a.put o.dst v=a':=by simp only[Act.put,zz1,zz2,zz3,Act.eval,zz4,zz5,zz6,zz7,zz8];exact rfl)(hg:Region.wanted o (yielded ops a.tmps)=true:=by exact rfl):Hs P ops C K 1 ks l o a w:=zx hg hr ha h
theorem hq5a(h:wpH P ops C K ks l a' w)(hr: ∀w,C w→(execOp a.eval o).run P w= .ok (.value v) w:=by intro _ hcw;go_simp;(try go_bits);exact rfl)(ha:a.put o.dst v=a':=by simp only[Act.put,zz1,zz2,zz3,Act.eval,zz4,zz5,zz6,zz7,zz8];exact rfl)(hg:Region.wanted o (yielded ops a.tmps)=true:=by exact rfl):Hs P ops C K 5 ks l o a w:=Bl hg hr ha h
theorem hqc(hr:kH P ((execOp a.eval o).run P w) w fun e w' => ∃v,e= .returned v∧Below w.heap.size w w'∧wpH P ops C K ks l (a.put o.dst v) w')(hg:Region.wanted o (yielded ops a.tmps)=true:=by exact rfl):wpH P ops C K (2::ks) (o::l) a w:=ff hg hr
end
end Go.Proofs.YtlpkfdkhlffmlaaGreatDoor
