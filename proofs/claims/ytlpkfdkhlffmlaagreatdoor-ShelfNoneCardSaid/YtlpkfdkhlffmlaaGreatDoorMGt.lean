/-
  A region that draws its order of evaluation,walked once,in the order of the text. No program in sight.
  Each operation has a kind:0:its value hangs on no memory;1:it reads memory,and changes none (a call that does so,too);2:anything that ends normally;3:a call whose value hangs on no memory.
  Where two operations are not ordered by the region's edges they must look at none of each other's slots,and be of kinds that do not meet:then every order comes to the same end ('wp_region_text').
-/
import Derived.WalkKit
import Derived.Still
import Derived.StillTactics
import Derived.Test.YtlpkfdkhlffmlaaGreatDoorMGa
namespace Go.Proofs.YtlpkfdkhlffmlaaGreatDoor
set_option linter.unusedSimpArgs false
set_option linter.unusedVariables false
set_option maxRecDepth 100000
set_option maxHeartbeats 1600000
def noQ:Exit→Act→World→Prop:=fun _ _ _=>False
section
variable {P:Program} {ops:Array Oper}
theorem cr {o:Oper} {a:Act} {w:World} {K K':Act→World→Prop} {Q:Exit→Act→World→Prop}(hk: ∀a w,K a w→K' a w)(h:o.wp P a w K noQ):o.wp P a w K' Q:=by
 unfold Oper.wp at*;generalize (execOp a.eval o).run P w=r at*;cases r with
 |ok n w' =>
  cases n<;>simp only[Oper.upon]at h⊢ <;>
   first
    |exact hk _ _ h
    |exact Calls.mono h (fun e w'' he=>by
      cases e with
      |returned v=>exact hk _ _ he
      |panicked c=>exact he.elim
      |outgrown=>obtain⟨_,_,hh⟩:=he;exact hh.elim)
    |exact Rows.mono h (fun _ _ he=>hk _ _ he)
 |halt x w' =>cases x<;>simp only[Oper.upon]at h⊢ <;>exact h.elim
theorem ln {o:Oper} {a:Act} {w:World} {K:Act→World→Prop}(h:o.wp P a w K noQ): ∃a' w' u,K a' w'∧a'.tmps=(a.put o.dst u).tmps:=by
 unfold Oper.wp at*;generalize (execOp a.eval o).run P w=r at*;cases r with
 |ok n w' =>
  cases n<;>simp only[Oper.upon]at h
  case value v=>exact⟨_,_,v,h,rfl⟩
  case skip=>exact⟨_,_,undef,h,rfl⟩
  case defer d=>exact⟨_,_,undef,h,by cases o.dst<;>rfl⟩
  case enter f args=>
   obtain⟨e,w'',fr,hr,_⟩:=h [];cases e with
   |returned v=>exact⟨_,_,v,hr,rfl⟩
   |panicked c=>exact hr.elim
   |outgrown=>obtain⟨_,_,hh⟩:=hr;exact hh.elim
  case row row args=>
   obtain⟨v,w'',hr,_⟩:=h (Frame.ofRow P row args .normal) [];exact⟨_,_,v,hr,rfl⟩
 |halt x w' =>cases x<;>simp only[Oper.upon]at h<;>exact h.elim
theorem iK {a a':Act}(h:a'.tmps=a.tmps):a'.eval=a.eval:=by
 funext x;cases x<;>simp[Act.eval,h]
theorem mu {o:Oper} {a:Act} {u v:Value}(w:World)(h:Yields P ops o u a)(k:Yields P ops o v a):u=v:=by
 rcases h with⟨h1,h2⟩|⟨h1,h2⟩<;>rcases k with⟨k1,k2⟩|⟨k1,k2⟩
 ·have:=(h2 w).symm.trans (k2 w);injection this with this;injection this
 ·rw[h1]at k1;cases k1
 ·rw[h1]at k1;cases k1
 ·rw[h2,k2]
theorem mQ {o:Oper} {a:Act} {v:Value}(h:Yields P ops o v a)(w:World):YieldsAt P ops w o v a:=by
 rcases h with⟨h1,h2⟩|⟨h1,h2⟩
 ·exact .inl ⟨h1,.inl (h2 w)⟩
 ·exact .inr ⟨h1,h2⟩
def opT(P:Program)(ops:Array Oper)(k:Nat)(o:Oper)(K:Act→World→Prop)(a:Act)(w:World):Prop:=
 match k with
 |0=> ∃v,Yields P ops o v a∧K (a.put o.dst v) w
 |1=> ∃v,YieldsAt P ops w o v a∧K (a.put o.dst v) w
 |3=> ∃v,(∀w,YieldsAt P ops w o v a)∧K (a.put o.dst v) w
 |_=>if Region.wanted o (yielded ops a.tmps)then o.wp P a w K noQ else K (a.put o.dst undef) w
theorem lq {k:Nat} {o:Oper} {K K':Act→World→Prop} {a:Act} {w:World}(hk: ∀a w,K a w→K' a w)(h:opT P ops k o K a w):opT P ops k o K' a w:=by
 unfold opT at*
 split at h
 ·obtain⟨v,h1,h2⟩:=h;exact⟨v,h1,hk _ _ h2⟩
 ·obtain⟨v,h1,h2⟩:=h;exact⟨v,h1,hk _ _ h2⟩
 ·obtain⟨v,h1,h2⟩:=h;exact⟨v,h1,hk _ _ h2⟩
 ·split at h
  ·rename_i hw;rw[if_pos hw];exact cr hk h
  ·rename_i hw;rw[if_neg hw];exact hk _ _ h
theorem vW {k i:Nat} {o:Oper} {K:Act→World→Prop} {Q:Exit→Act→World→Prop} {a:Act} {w:World}(hi:ops[i]? =some o)(h:opT P ops k o K a w):wpOp P ops Q i K a w:=by
 unfold opT at h;have quiet: ∀v,YieldsAt P ops w o v a→K (a.put o.dst v) w→wpOp P ops Q i K a w:=by
  intro v hy hK;unfold wpOp;simp only[hi];rcases hy with⟨hw,hv|⟨hv,rfl⟩|⟨f,args,hv,hc⟩⟩|⟨hw,rfl⟩
  ·simp only[hw,if_true,Oper.wp,hv,Oper.upon];exact .inl hK
  ·simp only[hw,if_true,Oper.wp,hv,Oper.upon];exact .inl hK
  ·simp only[hw,if_true,Oper.wp,hv,Oper.upon];refine .inl (Calls.mono hc fun e w'' he=> ?_);obtain⟨rfl,rfl⟩:=he;exact hK
  ·simp only[hw,Bool.false_eq_true,if_false];exact hK
 split at h
 ·obtain⟨v,h1,h2⟩:=h;exact quiet v (mQ h1 w) h2
 ·obtain⟨v,h1,h2⟩:=h;exact quiet v h1 h2
 ·obtain⟨v,h1,h2⟩:=h;exact quiet v (h1 w) h2
 ·unfold wpOp;simp only[hi]
  split at h
  ·rename_i hw;rw[if_pos hw];exact .inl (cr (fun _ _ h=>h) h)
  ·rename_i hw;rw[if_neg hw];exact h
def nX(x i:Nat):Bool:=x==0||i==0||((x==1||x==3)&&(i==1||i==3))||(x==3&&i==2)
theorem ri {x i:Oper} {v:Value}(hap:x.apart ops i=true)(hsi: ∀cs b,i.op≠ .select cs b)(Y:Act→Prop)(hY: ∀a u,Y a→Y (a.put i.dst u))(hYd: ∀a d,Y a→Y {a with defers:=d::a.defers})
  {K:Act→World→Prop} {a:Act} {w:World} (hy:Y a) (h:i.wp P (a.put x.dst v) w K noQ):i.wp P a w (fun a' w' =>Y a'∧K (a'.put x.dst v) w') noQ:=by
 obtain⟨h1,h2,h3⟩:=Oper.apart_spec hap;unfold Oper.wp at*;rw[execOp_put i hsi a x.dst v h1]at h;generalize (execOp a.eval i).run P w=r at*;cases r with
 |ok n w' =>
  cases n<;>simp only[Oper.upon]at h⊢
  case value u=>exact⟨hY _ _ hy,by rw[←Act.put_comm a v u h2];exact h⟩
  case skip=>exact⟨hY _ _ hy,by rw[←Act.put_comm a v undef h2];exact h⟩
  case defer d=>
   refine⟨hY _ _ (hYd _ _ hy),?_⟩;rw[←Act.put_comm _ v undef h2,←Act.put_defers];exact h
  case enter f args=>
   refine Calls.mono h fun e w'' he=> ?_;cases e with
   |returned u=>exact⟨hY _ _ hy,by rw[←Act.put_comm a v u h2];exact he⟩
   |panicked c=>exact he.elim
   |outgrown=>exact he
  case row row args=>exact Rows.mono h fun u w'' he=>⟨hY _ _ hy,by rw[←Act.put_comm a v u h2];exact he⟩
 |halt y w' =>cases y<;>simp only[Oper.upon]at h⊢ <;>exact h.elim
theorem sU {x i:Oper} {v:Value}(hap:x.apart ops i=true)(hsx: ∀cs b,x.op≠ .select cs b) {K:Act→World→Prop} {a:Act} {w:World}
  (h:x.wp P a w (fun a' w' =>K (a'.put i.dst v) w') noQ):x.wp P (a.put i.dst v) w K noQ:=by
 obtain⟨h1,h2,h3⟩:=Oper.apart_spec hap;have h2': ∀d,i.dst=some d→x.dst≠some d:=fun d hd hx=>h2 d hx hd;unfold Oper.wp at*;rw[execOp_put x hsx a i.dst v h3];generalize (execOp a.eval x).run P w=r at*;cases r with
 |ok n w' =>
  cases n<;>simp only[Oper.upon]at h⊢
  case value u=>rw[Act.put_comm a v u h2'];exact h
  case skip=>rw[Act.put_comm a v undef h2'];exact h
  case defer d=>
   rw[Act.put_defers,Act.put_comm _ v undef h2'];exact h
  case enter f args=>
   refine Calls.mono h fun e w'' he=> ?_;cases e with
   |returned u=>show K _ _;rw[Act.put_comm a v u h2'];exact he
   |panicked c=>exact he.elim
   |outgrown=>exact he
  case row row args=>exact Rows.mono h fun u w'' he=>(by rw[Act.put_comm a v u h2'];exact he)
 |halt y w' =>cases y<;>simp only[Oper.upon]at h⊢ <;>exact h.elim
theorem Bt {kx ki:Nat} {x i:Oper}(hap:x.apart ops i=true)(hk:nX kx ki=true)(hsx: ∀cs b,x.op≠ .select cs b)(hsi: ∀cs b,i.op≠ .select cs b) {K:Act→World→Prop} {a:Act} {w:World}
  (h:opT P ops kx x (fun a w=>opT P ops ki i K a w) a w):opT P ops ki i (fun a w=>opT P ops kx x K a w) a w:=by
 obtain⟨h1,h2,h3⟩:=Oper.apart_spec hap;have xsame: ∀(a:Act) u,execOp (a.put i.dst u).eval x=execOp a.eval x:=fun a u=>execOp_put x hsx a i.dst u h3;have xwant: ∀(a:Act) u,Region.wanted x (yielded ops (a.put i.dst u).tmps)=Region.wanted x (yielded ops a.tmps):=fun a u=>wanted_put x a i.dst u h3;have isame: ∀(a:Act) u,execOp (a.put x.dst u).eval i=execOp a.eval i:=fun a u=>execOp_put i hsi a x.dst u h1;have iwant: ∀(a:Act) u,Region.wanted i (yielded ops (a.put x.dst u).tmps)=Region.wanted i (yielded ops a.tmps):=fun a u=>wanted_put i a x.dst u h1;have quiet2: ∀(u v:Value) (Yx Yi:Act→Prop),K ((a.put x.dst v).put i.dst u) w→K ((a.put i.dst u).put x.dst v) w:=fun u v _ _ h=>by rw[←Act.put_comm a v u h2];exact h
 have iAt: ∀ {w u v},YieldsAt P ops w i u (a.put x.dst v)→YieldsAt P ops w i u a:=fun h=>h.of_same (isame a _).symm (iwant a _).symm;have iY: ∀ {u v},Yields P ops i u (a.put x.dst v)→Yields P ops i u a:=fun h=>h.of_same (isame a _).symm (iwant a _).symm;have xAt: ∀ {w u v},YieldsAt P ops w x v a→YieldsAt P ops w x v (a.put i.dst u):=fun h=>h.of_same (xsame a _) (xwant a _);have xY: ∀ {u v},Yields P ops x v a→Yields P ops x v (a.put i.dst u):=fun h=>h.of_same (xsame a _) (xwant a _);have any: ∀(v:Value) (Y:Act→Prop),(∀a u,Y a→Y (a.put i.dst u))→(∀a d,Y a→Y {a with defers:=d::a.defers})→Y a→
   (if Region.wanted i (yielded ops (a.put x.dst v).tmps)then i.wp P (a.put x.dst v) w K noQ else K ((a.put x.dst v).put i.dst undef) w)→
   (if Region.wanted i (yielded ops a.tmps)then i.wp P a w (fun a' w' =>Y a'∧K (a'.put x.dst v) w') noQ else(Y (a.put i.dst undef)∧K ((a.put i.dst undef).put x.dst v) w)):=by
  intro v Y hY hYd hy h;rw[iwant]at h
  split
  ·rename_i hw;rw[if_pos hw]at h;exact ri hap hsi Y hY hYd hy h
  ·rename_i hw;rw[if_neg hw]at h;exact⟨hY _ _ hy,by rw[←Act.put_comm a v undef h2];exact h⟩
 have back: ∀(R:Act→World→Prop) (Y:Act→Prop) (v:Value),(∀a w,Y a∧K (a.put x.dst v) w→R a w)→
   (if Region.wanted i (yielded ops a.tmps)then i.wp P a w (fun a' w' =>Y a'∧K (a'.put x.dst v) w') noQ else(Y (a.put i.dst undef)∧K ((a.put i.dst undef).put x.dst v) w))→
   (if Region.wanted i (yielded ops a.tmps)then i.wp P a w R noQ else R (a.put i.dst undef) w):=by
  intro R Y v hR h
  split
  ·rename_i hw;rw[if_pos hw]at h;exact cr hR h
  ·rename_i hw;rw[if_neg hw]at h;exact hR _ _ h
 unfold opT at h⊢;unfold nX at hk
 split at h
 ·
  obtain⟨v,hy,h⟩:=h
  split
  ·simp only[]at h;obtain⟨u,hu,h⟩:=h;exact⟨u,iY hu,v,xY hy,quiet2 _ _ (fun _=>True) (fun _=>True) h⟩
  ·simp only[]at h;obtain⟨u,hu,h⟩:=h;exact⟨u,iAt hu,v,xY hy,quiet2 _ _ (fun _=>True) (fun _=>True) h⟩
  ·simp only[]at h;obtain⟨u,hu,h⟩:=h;exact⟨u,fun w=>iAt (hu w),v,xY hy,quiet2 _ _ (fun _=>True) (fun _=>True) h⟩
  ·simp only[]at h;exact back _ (fun a=>Yields P ops x v a) v (fun a w ⟨h1,h2⟩=>⟨v,h1,h2⟩) (any v (fun a=>Yields P ops x v a) (fun a u h=>h.of_same (xsame a _) (xwant a _)) (fun a d h=>h.of_same rfl rfl) hy h)
 ·
  obtain⟨v,hy,h⟩:=h
  split
  ·simp only[]at h;obtain⟨u,hu,h⟩:=h;exact⟨u,iY hu,v,xAt hy,quiet2 _ _ (fun _=>True) (fun _=>True) h⟩
  ·simp only[]at h;obtain⟨u,hu,h⟩:=h;exact⟨u,iAt hu,v,xAt hy,quiet2 _ _ (fun _=>True) (fun _=>True) h⟩
  ·simp only[]at h;obtain⟨u,hu,h⟩:=h;exact⟨u,fun w=>iAt (hu w),v,xAt hy,quiet2 _ _ (fun _=>True) (fun _=>True) h⟩
  ·rename_i h0 h1' h3';exfalso;simp at hk;rcases hk with hk|hk|hk
   ·exact h0 hk
   ·exact h1' hk
   ·exact h3' hk
 ·
  obtain⟨v,hy,h⟩:=h
  split
  ·simp only[]at h;obtain⟨u,hu,h⟩:=h;exact⟨u,iY hu,v,fun w=>xAt (hy w),quiet2 _ _ (fun _=>True) (fun _=>True) h⟩
  ·simp only[]at h;obtain⟨u,hu,h⟩:=h;exact⟨u,iAt hu,v,fun w=>xAt (hy w),quiet2 _ _ (fun _=>True) (fun _=>True) h⟩
  ·simp only[]at h;obtain⟨u,hu,h⟩:=h;exact⟨u,fun w=>iAt (hu w),v,fun w=>xAt (hy w),quiet2 _ _ (fun _=>True) (fun _=>True) h⟩
  ·simp only[]at h;exact back _ (fun a=> ∀w,YieldsAt P ops w x v a) v (fun a w ⟨h1,h2⟩=>⟨v,h1,h2⟩) (any v (fun a=> ∀w,YieldsAt P ops w x v a) (fun a u h w=>(h w).of_same (xsame a _) (xwant a _)) (fun a d h w=>(h w).of_same rfl rfl) hy h)
 ·
  rename_i h0 h1' h3';have hi0:ki=0:=by
   simp at hk;rcases hk with((hk|hk)|hk)|hk
   ·exact absurd hk h0
   ·exact hk
   ·rcases hk.1 with h|h
    ·exact absurd h h1'
    ·exact absurd h h3'
   ·exact absurd hk.1 h3'
  subst hi0;simp only[]at h⊢;by_cases hw:Region.wanted x (yielded ops a.tmps)=true
  ·rw[if_pos hw]at h;obtain⟨a',w',u,⟨v,hy,_⟩,ht⟩:=ln h;have hy':Yields P ops i v a:=by
    refine iY (v:=u) (hy.of_same ?_ ?_)
    ·rw[iK ht]
    ·rw[ht]
   refine⟨v,hy',?_⟩;rw[xwant,if_pos hw];refine sU hap hsx ?_;have key: ∀(a'':Act) (w'':World),(∃d:List Deferred,∃u',a'' ={a with defers:=d}.put x.dst u')→(∃v',Yields P ops i v' a''∧K (a''.put i.dst v') w'')→K (a''.put i.dst v) w'':=by
    rintro a'' w'' ⟨d,u',rfl⟩ ⟨v',hv',hK⟩;have:v' =v:=by
     refine mu w'' (a:=a) (hv'.of_same ?_ ?_) hy'
     ·exact(execOp_put i hsi {a with defers:=d} x.dst u' h1).symm
     ·exact(wanted_put i {a with defers:=d} x.dst u' h1).symm
    rw[this]at hK;exact hK
   unfold Oper.wp at h⊢;generalize (execOp a.eval x).run P w=r at h⊢;cases r with
   |ok n w' =>
    cases n<;>simp only[Oper.upon]at h⊢
    case value u=>exact key _ _ ⟨a.defers,u,rfl⟩ h
    case skip=>exact key _ _ ⟨a.defers,undef,rfl⟩ h
    case defer d=>exact key _ _ ⟨_,undef,rfl⟩ h
    case enter f args=>
     refine Calls.mono h fun e w'' he=> ?_;cases e with
     |returned u=>exact key _ _ ⟨a.defers,u,rfl⟩ he
     |panicked c=>exact he.elim
     |outgrown=>exact he
    case row row args=>exact Rows.mono h fun u w'' he=>key _ _ ⟨a.defers,u,rfl⟩ he
   |halt y w' =>cases y<;>simp only[Oper.upon]at h⊢ <;>exact h.elim
  ·rw[if_neg hw]at h;obtain⟨v,hy,hK⟩:=h;refine⟨v,iY hy,?_⟩;rw[xwant,if_neg hw,←Act.put_comm a undef v h2];exact hK
def wpZ(P:Program)(ops:Array Oper)(K:Act→World→Prop):List Nat→List Oper→Act→World→Prop
 |k::ks,o::l,a,w=>opT P ops k o (wpZ P ops K ks l) a w
 |_,_,a,w=>K a w
def wpT(P:Program)(ops:Array Oper)(kd:Nat→Nat)(K:Act→World→Prop):List Nat→Act→World→Prop
 | [],a,w=>K a w
 |i::r,a,w=>match ops[i]? with
  |none=>wpT P ops kd K r a w
  |some o=>opT P ops (kd i) o (wpT P ops kd K r) a w
theorem ib {K:Act→World→Prop}(kd:Nat→Nat): ∀(ks:List Nat) (l:List Oper) (m:Nat) (a:Act) (w:World),ks.length=l.length→(∀j,l[j]? =ops[m+j]?)→(∀j,j<ks.length→ks.getD j 2=kd (m+j))→
  wpZ P ops K ks l a w→wpT P ops kd K (List.range' m l.length) a w
 | [],[],m,a,w,_,_,_,h=>by simpa[wpT,wpZ]using h
 | [],o::l,m,a,w,hl,_,_,_=>by simp at hl
 |k::ks,[],m,a,w,hl,_,_,_=>by simp at hl
 |k::ks,o::l,m,a,w,hl,ho,hk,h=>by
  have h0:=ho 0;have k0:=hk 0 (by simp);simp at h0 k0;simp only[List.length_cons,List.range'_succ,wpT,←h0];simp only[wpZ]at h;rw[←k0];refine lq (fun a w h=>ib kd ks l (m+1) a w (by simpa using hl) (fun j=> ?_) (fun j hj=> ?_) h) h
  ·have:=ho (j+1);simp at this;rw[this];congr 1;omega
  ·have:=hk (j+1) (by simpa using hj);simp at this;rw[Nat.add_assoc,Nat.add_comm 1 j,←this];simp
def ls(ops:Array Oper)(kd:Nat→Nat)(x i:Nat):Bool:=
 match ops[x]?,ops[i]? with
 |some ox,some oi=>nX (kd x) (kd i)&&ox.apart ops oi
 |_,_=>false
def lu(acc:List Nat)(o:Oper):Nat:=o.after.toList.foldl (fun s e=>if Region.binds .any e then s|||2^e.on|||acc.getD e.on 0 else s) 0
def aR:List Oper→List Nat→List Nat
 | [],acc=>acc
 |o::r,acc=>aR r (acc++ [lu acc o])
theorem rj {acc:List Nat} {o:Oper} {j:Nat}(h:(lu acc o).testBit j=true): ∃e∈o.after.toList,Region.binds .any e=true∧(e.on=j∨(acc.getD e.on 0).testBit j=true):=by
 have key: ∀(es:List Edge) (s:Nat),(es.foldl (fun s e=>if Region.binds .any e then s|||2^e.on|||acc.getD e.on 0 else s) s).testBit j=true→
   s.testBit j=true∨ ∃e∈es,Region.binds .any e=true∧(e.on=j∨(acc.getD e.on 0).testBit j=true):=by
  intro es
  induction es with
  |nil=>intro s h;exact .inl h
  |cons e es ih=>
   intro s h;simp only[List.foldl_cons]at h;rcases ih _ h with h|⟨e',he',hb⟩
   ·split at h
    ·rename_i hbe;simp only[Nat.testBit_or,Bool.or_eq_true,Nat.testBit_two_pow,decide_eq_true_eq]at h;rcases h with(h|h)|h
     ·exact .inl h
     ·exact .inr ⟨e,by simp,hbe,.inl h⟩
     ·exact .inr ⟨e,by simp,hbe,.inr h⟩
    ·exact .inl h
   ·exact .inr ⟨e',by simp[he'],hb⟩
 rcases key _ 0 h with h|h
 ·simp at h
 ·exact h
theorem cl {listed:Array Bool}(hcl: ∀i o,ops[i]? =some o→listed.getD i false=true→ ∀e∈o.after.toList,Region.binds .any e=true→listed.getD e.on false=true):
  ∀(l:List Oper) (acc:List Nat),(∀j,l[j]? =ops[acc.length+j]?)→(∀i o,i<acc.length→ops[i]? =some o→(∀e∈o.after.toList,Region.binds .any e=true→listed.getD e.on false=true)→ ∀j,(acc.getD i 0).testBit j=true→listed.getD j false=true)→
  ∀i o,i<(aR l acc).length→ops[i]? =some o→(∀e∈o.after.toList,Region.binds .any e=true→listed.getD e.on false=true)→ ∀j,((aR l acc).getD i 0).testBit j=true→listed.getD j false=true
 | [],acc,_,h=>h
 |o::r,acc,hl,h=>by
  unfold aR;refine cl hcl r _ (fun j=> ?_) ?_
  ·have:=hl (j+1);simp at this⊢;rw[this];congr 1;omega
  ·intro i o' hi ho' he j hb;by_cases hlt:i<acc.length
   ·refine h i o' hlt ho' he j ?_;simpa[List.getElem?_append,hlt]using hb
   ·have hie:i=acc.length:=by simp at hi;omega
    subst hie;have ho:o=o':=by have:=hl 0;simp[ho']at this;exact this
    subst ho;have hb':(lu acc o).testBit j=true:=by simpa[List.getElem?_append]using hb
    obtain⟨e,hem,hbe,hj⟩:=rj hb';have hon:=he e hem hbe;rcases hj with rfl|hj
    ·exact hon
    ·by_cases hel:e.on<acc.length
     ·have hop: ∃p,ops[e.on]? =some p:=by
       have h1:ops.size>acc.length:=(Array.getElem?_eq_some_iff.1 ho').1;exact⟨ops[e.on],Array.getElem?_eq_getElem (by omega)⟩
      obtain⟨p,hp⟩:=hop;exact h e.on p hel hp (hcl e.on p hp hon) j hj
     ·rw[List.getD_eq_getElem?_getD,List.getElem?_eq_none (by omega)]at hj;simp at hj
theorem cn: ∀(l:List Oper) (acc:List Nat),(aR l acc).length=acc.length+l.length
 | [],acc=>by simp[aR]
 |o::r,acc=>by unfold aR;rw[cn r];simp;omega
def lw(ops:Array Oper)(ks:List Nat):Bool:=
 Region.noSelect ops&&decide (ks.length=ops.size)&&
 (List.range ops.size).all (fun i=>match ops[i]? with|some o=>o.after.toList.all fun e=> !Region.binds .any e||decide (e.on<i)|none=>true)&&
 (List.range ops.size).all fun i=>(List.range i).all fun x=>((aR ops.toList []).getD i 0).testBit x||ls ops (fun j=>ks.getD j 2) x i
theorem gO(ok:Nat→Prop) {kd:Nat→Nat} {K:Act→World→Prop} {Q:Exit→Act→World→Prop}(hs:Region.noSelect ops=true)(hQ: ∀a w,K a w→Q .normal a w)
  (hback: ∀i o,ops[i]? =some o→ ∀e∈o.after.toList,Region.binds .any e=true→e.on<i)
  (hpair: ∀i x,i<ops.size→ok x→ok i→x<i→((aR ops.toList []).getD i 0).testBit x=true∨ls ops kd x i=true):
  ∀(m:Nat) (L:List Nat) (listed:Array Bool) (a:Act) (w:World),L.length=m→(∀i∈L,ok i)→L.Pairwise (· < ·)→listed.size=ops.size→(∀i,i∈L↔i<ops.size∧listed.getD i true=false)→
   (∀i o,ops[i]? =some o→listed.getD i false=true→ ∀e∈o.after.toList,Region.binds .any e=true→listed.getD e.on false=true)→
   wpT P ops kd K L a w→wpAny P .any ops Q m listed a w:=by
 intro m
 induction m with
 |zero=>
  intro L listed a w hL _ _ _ hmem _ h;have:L=[]:=List.eq_nil_of_length_eq_zero hL;subst this;refine⟨?_,hQ _ _ h⟩;apply List.eq_nil_iff_forall_not_mem.2;intro i hi;obtain⟨h0,o,ho,_⟩:=mem_ready.1 hi;have:=(hmem i).2 ⟨(Array.getElem?_eq_some_iff.1 ho).1,h0⟩;cases this
 |succ m ih=>
  intro L listed a w hL hge hsort hsz hmem hcl h;refine⟨fun hr=> ?_,fun i hi=> ?_⟩
  ·
   exfalso;cases L with
   |nil=>cases hL
   |cons i0 L' =>
    obtain⟨hlt,hun⟩:=(hmem i0).1 (by simp);have hrd:i0∈Region.ready .any ops listed:=by
     refine mem_ready.2 ⟨hun,ops[i0],Array.getElem?_eq_getElem hlt,fun e he hb=> ?_⟩;have hel:=hback i0 _ (Array.getElem?_eq_getElem hlt) e (by simpa using he) hb;have hnot:e.on∉i0::L':=by
      intro hm;rcases List.mem_cons.1 hm with hm|hm
      ·omega
      ·have:=(List.pairwise_cons.1 hsort).1 _ hm;omega
     have hlt':e.on<listed.size:=by omega
     cases hv:listed.getD e.on true with
     |false=>exact absurd ((hmem e.on).2 ⟨by omega,hv⟩) hnot
     |true=>simp[hlt']at hv⊢;exact hv
    rw[hr]at hrd;cases hrd
  ·obtain⟨hun,o,ho,hedges⟩:=mem_ready.1 hi;have hilt:=(Array.getElem?_eq_some_iff.1 ho).1;have hiL:=(hmem i).2 ⟨hilt,hun⟩;obtain⟨L1,L2,rfl⟩:=List.append_of_mem hiL;have bubble: ∀(M:List Nat),(∀x∈M,x∈L1)→ ∀(a:Act) (w:World),wpT P ops kd K (M++i::L2) a w→wpT P ops kd K (i::(M++L2)) a w:=by
    intro M
    induction M with
    |nil=>intro _ a w h;exact h
    |cons x M ihM=>
     intro hM a w h;have hxL1:=hM x (by simp);have hxi:x<i:=by
      have:=List.pairwise_append.1 hsort;exact this.2.2 x hxL1 i (by simp)
     have hxun:listed.getD x true=false:=((hmem x).1 (List.mem_append_left _ hxL1)).2;have hnb:((aR ops.toList []).getD i 0).testBit x≠true:=by
      intro hb;have hx:=cl (ops:=ops) (listed:=listed) hcl ops.toList [] (by simp) (fun i o hi=>by simp at hi) i o (by rw[cn];simpa using hilt) ho (fun e he hb=>hedges e (by simpa using he) hb) x hb;have hxs:x<listed.size:=by omega
      simp[hxs]at hx hxun;rw[hx]at hxun;cases hxun
     have hp:=(hpair i x hilt (hge x (List.mem_append_left _ hxL1)) (hge i (by simp)) hxi).resolve_left hnb;unfold ls at hp;have hox:ops[x]? =some ops[x]:=Array.getElem?_eq_getElem (by omega);rw[hox,ho]at hp;simp only[Bool.and_eq_true]at hp;have h1:opT P ops (kd x) ops[x] (fun a w=>opT P ops (kd i) o (wpT P ops kd K (M++L2)) a w) a w:=by
      have h':opT P ops (kd x) ops[x] (wpT P ops kd K (M++i::L2)) a w:=by
       simpa only[List.cons_append,wpT,hox]using h
      refine lq (fun a w h=> ?_) h';have:=ihM (fun y hy=>hM y (by simp[hy])) a w h;simpa only[wpT,ho]using this
     have h2:=Bt hp.2 hp.1 (fun cs b=>Region.noSelect_spec hs x _ cs b hox) (fun cs b=>Region.noSelect_spec hs i _ cs b ho) h1;simp only[wpT,ho,List.cons_append];refine lq (fun a w h=> ?_) h2;simpa only[wpT,hox]using h
   have hb:=bubble L1 (fun x hx=>hx) a w h;have hb':opT P ops (kd i) o (wpT P ops kd K (L1++L2)) a w:=by simpa only[wpT,ho]using hb
   refine wpOp_mono (fun a' w' h' => ?_) (vW (Q:=Q) ho hb');have hnd:(L1++i::L2).Nodup:=hsort.imp (fun h=>Nat.ne_of_lt h);refine ih (L1++L2) (listed.setIfInBounds i true) a' w' (by simp at hL⊢;omega) (fun j hj=>hge j (by rcases List.mem_append.1 hj with hj|hj<;>simp[hj])) ?_ (by simpa using hsz) (fun j=> ?_) ?_ h'
   ·exact List.Pairwise.sublist (List.Sublist.append (List.Sublist.refl _) (List.sublist_cons_self _ _)) hsort
   ·by_cases hji:i=j
    ·subst hji;constructor
     ·intro hm;exfalso;rw[List.nodup_append]at hnd;obtain⟨_,h2,h3⟩:=hnd;rcases List.mem_append.1 hm with hm|hm
      ·exact h3 i hm i (by simp) rfl
      ·exact(List.nodup_cons.1 h2).1 hm
     ·rintro⟨_,hf⟩;have his:i<listed.size:=by omega
      simp[his]at hf
    ·rw[getD_set_ne true hji,←hmem j];simp only[List.mem_append,List.mem_cons];constructor
     ·rintro(h|h)
      ·exact .inl h
      ·exact .inr (.inr h)
     ·rintro(h|h|h)
      ·exact .inl h
      ·exact absurd h.symm hji
      ·exact .inr h
   ·intro j oj hoj hl e he hb;by_cases hji:i=j
    ·subst hji;have:oj=o:=Option.some.inj (hoj.symm.trans ho);subst this;exact getD_set_true (hedges e (by simpa using he) hb)
    ·rw[getD_set_ne false hji]at hl;exact getD_set_true (hcl j oj hoj hl e he hb)
theorem ly {id:Nat} {Q:Exit→Act→World→Prop} {a:Act} {w:World} {l:List Oper}(ks:List Nat)(hm:P.follows .mixedOrders=true)(hok:lw l.toArray ks=true)
  (h:wpZ P l.toArray (Q .normal) ks l a w.drew):(Code.region id l.toArray true).wp P Q a w:=by
 unfold lw at hok;simp only[Bool.and_eq_true,decide_eq_true_eq,List.all_eq_true,List.mem_range]at hok;obtain⟨⟨⟨hs,hlen⟩,hback⟩,hpair⟩:=hok;refine wp_region_any hm ?_;have ht:=ib (P:=P) (ops:=l.toArray) (K:=Q .normal) (fun j=>ks.getD j 2) ks l 0 a w.drew (by simpa using hlen) (by simp) (fun j _=>by simp) h;refine gO (fun _=>True) (kd:=fun j=>ks.getD j 2) hs (fun _ _ h=>h) (fun i o ho e he hb=> ?_) (fun i x hi _ _ hx=> ?_) l.toArray.size (List.range' 0 l.length) _ a _ (by simp) (fun _ _=>trivial) List.pairwise_lt_range' (by simp) (fun i=> ?_) (fun i o _ hl=> ?_) ht
 ·have h1:=hback i (Array.getElem?_eq_some_iff.1 ho).1;rw[ho]at h1;have h2:=List.all_eq_true.1 h1 e he;simp only[Bool.or_eq_true,Bool.not_eq_true',decide_eq_true_eq]at h2;rcases h2 with h2|h2
  ·rw[hb]at h2;cases h2
  ·exact h2
 ·have:=hpair i hi x hx;simpa only[Bool.or_eq_true]using this
 ·simp only[List.mem_range'_1,Nat.zero_le,true_and,Nat.zero_add,List.size_toArray];constructor
  ·intro hi;exact⟨hi,by simp[hi]⟩
  ·exact fun h=>h.1
 ·exfalso;have hf:(Array.replicate l.toArray.size false).getD i false=false:=by
   by_cases hi:i<l.toArray.size
   ·simp at hi;simp[hi]
   ·simp at hi;simp[hi]
  rw[hf]at hl;cases hl
theorem az {id:Nat} {Q:Exit→Act→World→Prop} {a:Act} {w:World} {l:List Oper}(ks:List Nat)(hm:P.follows .mixedOrders=true)(hok:lw l.toArray ks=true)
  (h: ∀(ops':Array Oper) (K:Act→World→Prop),(∀a w,Q .normal a w→K a w)→wpZ P ops' K ks l a w.drew):(Code.region id l.toArray true).wp P Q a w:=
 ly ks hm hok (h _ _ fun _ _ h=>h)
theorem gP {Q:Exit→Act→World→Prop} {K:Act→World→Prop}(hK: ∀a w,K a w→Q .normal a w): ∀(ks:List Nat) (l:List Oper) (a:Act) (w:World),ks.length=l.length→wpZ P ops K ks l a w→wpList P ops Q l a w
 | [],[],a,w,_,h=>hK a w (by simpa[wpZ]using h)
 | [],o::l,a,w,hl,_=>by simp at hl
 |k::ks,[],a,w,hl,_=>by simp at hl
 |k::ks,o::l,a,w,hl,h=>by
  simp only[wpZ]at h;have ih:=fun a w=>gP hK ks l a w (by simpa using hl);have quiet: ∀v,YieldsAt P ops w o v a→wpZ P ops K ks l (a.put o.dst v) w→wpList P ops Q (o::l) a w:=by
   intro v hy h;refine wpList_step fun K1 hK1=> ?_;have hn:=hK1 _ _ (ih _ _ h);rcases hy with⟨hw,hv|⟨hv,rfl⟩|⟨f,args,hv,hc⟩⟩|⟨hw,rfl⟩
   ·simp only[hw,if_true,Oper.wp,hv,Oper.upon];exact hn
   ·simp only[hw,if_true,Oper.wp,hv,Oper.upon];exact hn
   ·simp only[hw,if_true,Oper.wp,hv,Oper.upon];refine Calls.mono hc fun e w'' he=> ?_;obtain⟨rfl,rfl⟩:=he;exact hn
   ·simp only[hw,Bool.false_eq_true,if_false];exact hn
  unfold opT at h
  split at h
  ·obtain⟨v,h1,h2⟩:=h;exact quiet v (mQ h1 w) h2
  ·obtain⟨v,h1,h2⟩:=h;exact quiet v h1 h2
  ·obtain⟨v,h1,h2⟩:=h;exact quiet v (h1 w) h2
  ·refine wpList_step fun K1 hK1=> ?_
   split at h
   ·rename_i hw;rw[if_pos hw];exact cr (fun a w h=>hK1 _ _ (ih a w h)) h
   ·rename_i hw;rw[if_neg hw];exact hK1 _ _ (ih _ _ h)
theorem aq {id:Nat} {Q:Exit→Act→World→Prop} {a:Act} {w:World} {l:List Oper}(ks:List Nat)(hl:ks.length=l.length)
  (h: ∀(ops':Array Oper) (K:Act→World→Prop),(∀a w,Q .normal a w→K a w)→wpZ P ops' K ks l a w):(Code.region id l.toArray false).wp P Q a w:=
 wp_region_lit (gP (K:=Q .normal) (fun _ _ h=>h) ks l a w hl (h _ _ fun _ _ h=>h))
def ro(P:Program)(r:Result Next)(v:Value)(w:World):Prop:= ∃f args,r= .ok (.enter f args) w∧Calls P f args w fun e w' =>e= .returned v∧w=w'
theorem cu {P:Program} {f:FuncId} {args:Array Value} {v:Value} {w:World}(h:Calls P f args w fun e w' =>e= .returned v∧w=w'):ro P (.ok (.enter f args) w) v w:=⟨f,args,rfl,h⟩
section
variable {K:Act→World→Prop} {k:Nat} {ks:List Nat} {l:List Oper} {o:Oper} {a a':Act} {w:World} {v:Value}
theorem vX(hg:o.guard=none)(hr: ∀w,(execOp a.eval o).run P w= .ok (.value v) w)(ha:a.put o.dst v=a')
  (h:wpZ P ops K ks l a' w):wpZ P ops K (0::ks) (o::l) a w:=by
 subst ha;exact⟨v,.inl ⟨by simp[Region.wanted,hg],hr⟩,h⟩
theorem Ch {dst:Option Tmp} {x:Operand} {ty:TypeId} {pos:String} {after:Array Edge}(ha:a.put dst (a.eval x)=a')
  (h:wpZ P ops K ks l a' w):wpZ P ops K (0::ks) (⟨dst,.move x,ty,pos,after,none⟩::l) a w:=
 vX (v:=a.eval x) rfl (fun _=>rfl) ha h
theorem Bu {dst:Option Tmp} {x:Operand} {ty:TypeId} {pos:String} {after:Array Edge}(ha:a.put dst (a.eval x)=a')
  (h:wpZ P ops K ks l a' w):wpZ P ops K (0::ks) (⟨dst,.assign x,ty,pos,after,none⟩::l) a w:=
 vX (v:=a.eval x) rfl (fun _=>rfl) ha h
theorem zB(hg:o.guard=none)(hr:(execOp a.eval o).run P w= .ok (.value v) w)(ha:a.put o.dst v=a')
  (h:wpZ P ops K ks l a' w):wpZ P ops K (1::ks) (o::l) a w:=by
 subst ha;exact⟨v,.inl ⟨by simp[Region.wanted,hg],.inl hr⟩,h⟩
theorem nY(hg:o.guard=none)(hr:ro P ((execOp a.eval o).run P w) v w)(ha:a.put o.dst v=a')
  (h:wpZ P ops K ks l a' w):wpZ P ops K (1::ks) (o::l) a w:=by
 subst ha;obtain⟨f,args,hr,hc⟩:=hr;exact⟨v,.inl ⟨by simp[Region.wanted,hg],.inr (.inr ⟨f,args,hr,hc.mono fun _ _ ⟨h1,h2⟩=>⟨h1,h2.symm⟩⟩)⟩,h⟩
theorem lA(hg:o.guard=none)(hr: ∀w,ro P ((execOp a.eval o).run P w) v w)(ha:a.put o.dst v=a')
  (h:wpZ P ops K ks l a' w):wpZ P ops K (3::ks) (o::l) a w:=by
 subst ha;refine⟨v,fun w=> ?_,h⟩;obtain⟨f,args,hr,hc⟩:=hr w;exact .inl ⟨by simp[Region.wanted,hg],.inr (.inr ⟨f,args,hr,hc.mono fun _ _ ⟨h1,h2⟩=>⟨h1,h2.symm⟩⟩)⟩
theorem yw(hg:o.guard=none)(h: ∀K':Act→World→Prop,(∀a w,wpZ P ops K ks l a w→K' a w)→o.wp P a w K' noQ):wpZ P ops K (2::ks) (o::l) a w:=by
 unfold wpZ opT;simp only[Region.wanted,hg,if_true];exact h _ fun _ _ h=>h
theorem zC(hg:Region.wanted o (yielded ops a.tmps)=true)(hr: ∀w,(execOp a.eval o).run P w= .ok (.value v) w)(ha:a.put o.dst v=a')
  (h:wpZ P ops K ks l a' w):wpZ P ops K (0::ks) (o::l) a w:=by
 subst ha;exact⟨v,.inl ⟨hg,hr⟩,h⟩
theorem xC(hg:Region.wanted o (yielded ops a.tmps)=true)(hr:(execOp a.eval o).run P w= .ok (.value v) w)(ha:a.put o.dst v=a')
  (h:wpZ P ops K ks l a' w):wpZ P ops K (1::ks) (o::l) a w:=by
 subst ha;exact⟨v,.inl ⟨hg,.inl hr⟩,h⟩
theorem eP {e:TypeId} {p x:Operand} {ty:TypeId} {pos:String} {after:Array Edge} {g i:Nat} {t:TypeId} {s:Y8} {v:BitVec 8}(hb:Blk w g t (A8 s))(hp:a.eval p= .pointer (some ⟨g,i,none⟩))(hv:a.eval x=v8 v)(hi:i<s.length)
  (hsz:(sizeOf e).run P w= .ok 1 w) (h: ∀w1,Blk w1 g t (A8 (s.set i v))→w.grownBy w1 (some g)→w1.heap.size=w.heap.size→wpZ P ops K ks l a w1):wpZ P ops K (2::ks) (⟨none,.store e p x,ty,pos,after,none⟩::l) a w:=by
 unfold wpZ opT;simp only[Region.wanted,if_true];have hr:(execOp a.eval ⟨none,.store e p x,ty,pos,after,none⟩).run P w= .ok .skip (w.setCell ⟨g,i,none⟩ (v8 v)):=by
  rw[bD,hp,hv,qz w e _ v hsz];simp[stored,hb.cell8 rfl i hi,hb.frozen i]
 unfold Oper.wp;rw[hr];have hb':=hb.set_ i (v8 v);rw[fd]at hb';exact h _ hb' (aC w g i _) (by simp)
theorem eQ {e:TypeId} {p x:Operand} {ty:TypeId} {pos:String} {after:Array Edge} {g i:Nat} {t:TypeId} {s:List (BitVec 32)} {v:BitVec 32}(hb:Blk w g t (A32 s))(hp:a.eval p= .pointer (some ⟨g,i,none⟩))(hv:a.eval x=v32 v)(hi:i<s.length)
  (hsz:(sizeOf e).run P w= .ok 1 w) (h: ∀w1,Blk w1 g t (A32 (s.set i v))→w.grownBy w1 (some g)→w1.heap.size=w.heap.size→wpZ P ops K ks l a w1):wpZ P ops K (2::ks) (⟨none,.store e p x,ty,pos,after,none⟩::l) a w:=by
 unfold wpZ opT;simp only[Region.wanted,if_true];have hr:(execOp a.eval ⟨none,.store e p x,ty,pos,after,none⟩).run P w= .ok .skip (w.setCell ⟨g,i,none⟩ (v32 v)):=by
  rw[bD,hp,hv,jM w e _ v hsz];simp[stored,hb.cell32 rfl i hi,hb.frozen i]
 unfold Oper.wp;rw[hr];have hb':=hb.set_ i (v32 v);rw[gu]at hb';exact h _ hb' (aC w g i _) (by simp)
theorem mR {e:TypeId} {p x:Operand} {ty:TypeId} {pos:String} {after:Array Edge} {g i:Nat} {t:TypeId} {s:List (BitVec 64)} {v:BitVec 64}(hb:Blk w g t (A64 s))(hp:a.eval p= .pointer (some ⟨g,i,none⟩))(hv:a.eval x=v64 v)(hi:i<s.length)
  (hsz:(sizeOf e).run P w= .ok 1 w) (h: ∀w1,Blk w1 g t (A64 (s.set i v))→w.grownBy w1 (some g)→w1.heap.size=w.heap.size→wpZ P ops K ks l a w1):wpZ P ops K (2::ks) (⟨none,.store e p x,ty,pos,after,none⟩::l) a w:=by
 unfold wpZ opT;simp only[Region.wanted,if_true];have hr:(execOp a.eval ⟨none,.store e p x,ty,pos,after,none⟩).run P w= .ok .skip (w.setCell ⟨g,i,none⟩ (v64 v)):=by
  rw[bD,hp,hv,oO w e _ v hsz];simp[stored,hb.cell64 rfl i hi,hb.frozen i]
 unfold Oper.wp;rw[hr];have hb':=hb.set_ i (v64 v);rw[fe]at hb';exact h _ hb' (aC w g i _) (by simp)
theorem cH {d:Option Tmp} {x y:Operand} {dT sT elem ty:TypeId} {pos:String} {after:Array Edge} {g off dLen dCap sLen sCap:Nat} {sp:Option Addr} {t:TypeId} {m s:Y8}(hb:Blk w g t (A8 m))(hl:Rd8 w sp sLen sCap s)
  (hx:a.eval x= .slice (some ⟨g,off,none⟩) dLen dCap) (hy:a.eval y= .slice sp sLen sCap) (hu:P.underlying dT=some (.slice elem)) (hs:(P.info? elem).map (·.size)=some 1) (hfit:off+min sLen dLen≤m.length)
  (h: ∀w1 v,Blk w1 g t (A8 (splc m off (s.take (min sLen dLen))))→w.grownBy w1 (some g)→w1.heap.size=w.heap.size→wpZ P ops K ks l (a.put d v) w1):
  wpZ P ops K (2::ks) (⟨d,.call {callee:= .builtin .copy,args:= #[x,y],argTypes:= #[dT,sT]},ty,pos,after,none⟩::l) a w:=by
 unfold wpZ opT;simp only[Region.wanted,if_true];have hc:=jn (P:=P) w dT sT ty elem g off dLen dCap sp sLen sCap m s hu hs hb.whole hb.row hl hfit;have hr:(execOp a.eval ⟨d,.call {callee:= .builtin .copy,args:= #[x,y],argTypes:= #[dT,sT]},ty,pos,after,none⟩).run P w= .ok (.value (goInt (min sLen dLen))) (w.setRow g (A8 (splc m off (s.take (min sLen dLen))))):=by
  rw[BigFrame.execOp_builtin];simp only[builtin,List.map_toArray,List.map_cons,List.map_nil,hx,hy,Sem.run_bind,hc,Result.andThen_ok,Sem.run_pure]
 unfold Oper.wp;rw[hr];exact h _ _ (hb.put _) (aP w g _) (by simp)
def kH(P:Program)(r:Result Next)(w:World)(R:Ending→World→Prop):Prop:= ∃f args,r= .ok (.enter f args) w∧Calls P f args w R
theorem ae {P:Program} {f:FuncId} {args:Array Value} {w:World} {R:Ending→World→Prop}(h:Calls P f args w R):kH P (.ok (.enter f args) w) w R:=⟨f,args,rfl,h⟩
theorem aM(hg:o.guard=none)(hr:kH P ((execOp a.eval o).run P w) w fun e w' => ∃v,e= .returned v∧wpZ P ops K ks l (a.put o.dst v) w'):wpZ P ops K (2::ks) (o::l) a w:=by
 obtain⟨f,args,hr,hc⟩:=hr;unfold wpZ opT;simp only[Region.wanted,hg,if_true];unfold Oper.wp;rw[hr];refine Calls.mono hc fun e w' he=> ?_;obtain⟨v,rfl,h⟩:=he;exact h
theorem ak(h:K a w):wpZ P ops K [] [] a w:=h
end
section
variable {K:Act→World→Prop} {ks:List Nat} {l:List Oper} {o:Oper} {a a':Act} {w:World} {v:Value}
def Zs(P:Program)(ops:Array Oper)(K:Act→World→Prop)(k:Nat)(ks:List Nat)(l:List Oper)(o:Oper)(a:Act)(w:World):Prop:=wpZ P ops K (k::ks) (o::l) a w
theorem zq0(h:Zs P ops K 0 ks l o a w):wpZ P ops K (0::ks) (o::l) a w:=h
theorem zq1(h:Zs P ops K 1 ks l o a w):wpZ P ops K (1::ks) (o::l) a w:=h
theorem zq0a(h:wpZ P ops K ks l a' w)(hr: ∀w,(execOp a.eval o).run P w= .ok (.value v) w:=by intro _;go_simp;(try go_bits);exact rfl)(ha:a.put o.dst v=a':=by simp only[Act.put,zz1,zz2,zz3,Act.eval,zz4,zz5,zz6,zz7,zz8];exact rfl)(hg:o.guard=none:=by exact rfl):Zs P ops K 0 ks l o a w:=vX hg hr ha h
theorem zq1a(h:wpZ P ops K ks l a' w)(hr:(execOp a.eval o).run P w= .ok (.value v) w:=by go_simp;(try go_bits);exact rfl)(ha:a.put o.dst v=a':=by simp only[Act.put,zz1,zz2,zz3,Act.eval,zz4,zz5,zz6,zz7,zz8];exact rfl)(hg:o.guard=none:=by exact rfl):Zs P ops K 1 ks l o a w:=zB hg hr ha h
theorem zq0g(h:wpZ P ops K ks l a' w)(hr: ∀w,(execOp a.eval o).run P w= .ok (.value v) w:=by intro _;go_simp;(try go_bits);exact rfl)(ha:a.put o.dst v=a':=by simp only[Act.put,zz1,zz2,zz3,Act.eval,zz4,zz5,zz6,zz7,zz8];exact rfl)(hg:Region.wanted o (yielded ops a.tmps)=true:=by exact rfl):Zs P ops K 0 ks l o a w:=zC hg hr ha h
theorem zq1g(h:wpZ P ops K ks l a' w)(hr:(execOp a.eval o).run P w= .ok (.value v) w:=by go_simp;(try go_bits);exact rfl)(ha:a.put o.dst v=a':=by simp only[Act.put,zz1,zz2,zz3,Act.eval,zz4,zz5,zz6,zz7,zz8];exact rfl)(hg:Region.wanted o (yielded ops a.tmps)=true:=by exact rfl):Zs P ops K 1 ks l o a w:=xC hg hr ha h
end
end
attribute [irreducible] wpZ
section
variable {P:Program} {ops:Array Oper}
variable {K:Act→World→Prop} {k:Nat} {ks:List Nat} {l:List Oper} {o:Oper} {a a':Act} {w:World} {v:Value}
end
end Go.Proofs.YtlpkfdkhlffmlaaGreatDoor
