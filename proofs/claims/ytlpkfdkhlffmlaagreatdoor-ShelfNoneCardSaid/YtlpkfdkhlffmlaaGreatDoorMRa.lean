/-slice literals of one row and of four rows-/
import Derived.Test.YtlpkfdkhlffmlaaGreatDoorMHk
import Derived.Test.YtlpkfdkhlffmlaaGreatDoorMGb
import Derived.Test.YtlpkfdkhlffmlaaGreatDoorMNc
namespace Go.Proofs.YtlpkfdkhlffmlaaGreatDoor
open Go.Proofs.Tryz
open Lib (hid)
set_option linter.unusedSimpArgs false
set_option linter.unusedVariables false
set_option maxRecDepth 100000
set_option maxHeartbeats 1600000
open Go.RowKit
theorem qj(cs:Array Value)(size k:Nat)(x:Array Value)(pre:List Value)(hx:x.size=size)(h:k*size+size≤cs.size)(hp:cs.toList.take (k*size)=pre):
  (fq cs (k*size) x).toList.take ((k+1)*size)=pre++x.toList:=by
 have e:(k+1)*size=k*size+size:=by rw[Nat.add_mul,Nat.one_mul]
 have hpl:pre.length=k*size:=by rw[←hp,List.length_take,Array.length_toList];omega
 rw[bX _ _ _ (by omega),hp,e,List.append_assoc,List.take_append,hpl,List.take_of_length_le (by omega),show k*size+size-k*size=size by omega,List.take_left' (by simpa using hx)]
theorem yC(cs:Array Value)(size:Nat)(x:Value)(hx:x.cells.size=size)(h:cs.size=1*size):
  Instr.fill (fun i=>some (i*size,size)) cs [(0,x)]=some x.cells:=by
 rw[dG _ _ 0 x _ (0*size) size (by simp) hx (by omega),Instr.fill];congr 1;apply Array.ext';have z:=cx cs (0*size) x.cells (by omega);have t:=qj cs size 0 x.cells [] hx (by omega) (by simp);rw[List.take_of_length_le (by rw[Array.length_toList,z];omega)]at t;simpa using t
section
variable {P:Program} {ops:Array Oper} {C:World→Prop} {K:Act→World→Prop} {ks:List Nat} {l:List Oper} {a:Act} {w:World}
theorem sy {d:Option Tmp} {p:Operand} {t ty e:TypeId} {pos:String} {after:Array Edge} {x z0:Value} {size bytes:Nat}(hp:a.eval p=x)(hx:x.cells.size=size)(h0:0<size)(h1:size≤1000)(ht:P.underlying t=some (.slice e))(hi:(P.info? e).map (fun i=>(i.zero,i.size,i.bytes))=some (some z0,size,bytes))
  (h: ∀w1 g,Blk w1 g e x.cells→Below w.heap.size w w1→wpH P ops C K ks l (a.put d (.slice (some ⟨g,0,none⟩) 1 1)) w1):
  wpH P ops C K (2::ks) (⟨d,.buildSlice t 1 #[(0,p)],ty,pos,after,none⟩::l) a w:=by
 obtain⟨i,hi,hz,hs,_⟩:=info_parts hi;have hr:(execOp a.eval ⟨d,.buildSlice t 1 #[(0,p)],ty,pos,after,none⟩).run P w= .ok (.value (.slice (some ⟨w.heap.size,0,none⟩) 1 1)) (w.alloc (.cells x.cells e)):=by
  simp only[execOp,List.map_toArray,List.map_cons,List.map_nil,hp,Sem.run_bind,fs w t e 1 size z0 #[(0,x)] x.cells ht i hi hz hs (by omega) (by omega) (fun cs hc=>yC cs size x hx hc),Result.andThen_ok,Sem.run_pure]
 have hbel:Below w.heap.size w (w.alloc (.cells x.cells e)):=(Below.refl _ _).alloc (Nat.le_refl _) _;exact aX rfl hr hbel (h _ _ (Blk.new _ _ _) hbel)
end
open Go.RowKit
section
variable {P:Program} {ops:Array Oper} {K:Act→World→Prop} {ks:List Nat} {l:List Oper} {a:Act} {w:World}
theorem wN {d:Option Tmp} {p q:Operand} {t ty e:TypeId} {pos:String} {after:Array Edge} {x y z:Value} {size bytes:Nat}(hp:a.eval p=x)(hq:a.eval q=y)(hx:x.cells.size=size)(hy:y.cells.size=size)(h0:0<size)(h1:size≤1000)(ht:P.underlying t=some (.slice e))(hi:(P.info? e).map (fun i=>(i.zero,i.size,i.bytes))=some (some z,size,bytes))
  (h: ∀w1 g,Blk w1 g e (x.cells++y.cells)→Below w.heap.size w w1→wpZ P ops K ks l (a.put d (.slice (some ⟨g,0,none⟩) 2 2)) w1):
  wpZ P ops K (2::ks) (⟨d,.buildSlice t 2 #[(0,p),(1,q)],ty,pos,after,none⟩::l) a w:=by
 obtain⟨i,hi,hz,hs,_⟩:=info_parts hi;have hr:(execOp a.eval ⟨d,.buildSlice t 2 #[(0,p),(1,q)],ty,pos,after,none⟩).run P w= .ok (.value (.slice (some ⟨w.heap.size,0,none⟩) 2 2)) (w.alloc (.cells (x.cells++y.cells) e)):=by
  simp only[execOp,List.map_toArray,List.map_cons,List.map_nil,hp,hq,Sem.run_bind,fs w t e 2 size z #[(0,x),(1,y)] (x.cells++y.cells) ht i hi hz hs (by omega) (by omega) (fun cs hc=>tb cs size x y hx hy hc),Result.andThen_ok,Sem.run_pure]
 have hbel:Below w.heap.size w (w.alloc (.cells (x.cells++y.cells) e)):=(Below.refl _ _).alloc (Nat.le_refl _) _;exact kR rfl hr (h _ _ (Blk.new _ _ _) hbel)
theorem yb {d:Option Tmp} {p q:Operand} {t ty e:TypeId} {pos:String} {after:Array Edge} {x y z:Value} {size bytes:Nat}(hp:a.eval p=x)(hq:a.eval q=y)(hx:x.cells.size=size)(hy:y.cells.size=size)(h0:0<size)(h1:size≤1000)(ht:P.underlying t=some (.slice e))(hi:(P.info? e).map (fun i=>(i.zero,i.size,i.bytes))=some (some z,size,bytes))
  (h: ∀w1 g,w.heap.size≤g→Blk w1 g e (x.cells++y.cells)→Below w.heap.size w w1→wpZ P ops K ks l (a.put d (.slice (some ⟨g,0,none⟩) 2 2)) w1):
  wpZ P ops K (2::ks) (⟨d,.buildSlice t 2 #[(0,p),(1,q)],ty,pos,after,none⟩::l) a w:=by
 obtain⟨i,hi,hz,hs,_⟩:=info_parts hi;have hr:(execOp a.eval ⟨d,.buildSlice t 2 #[(0,p),(1,q)],ty,pos,after,none⟩).run P w= .ok (.value (.slice (some ⟨w.heap.size,0,none⟩) 2 2)) (w.alloc (.cells (x.cells++y.cells) e)):=by
  simp only[execOp,List.map_toArray,List.map_cons,List.map_nil,hp,hq,Sem.run_bind,fs w t e 2 size z #[(0,x),(1,y)] (x.cells++y.cells) ht i hi hz hs (by omega) (by omega) (fun cs hc=>tb cs size x y hx hy hc),Result.andThen_ok,Sem.run_pure]
 have hbel:Below w.heap.size w (w.alloc (.cells (x.cells++y.cells) e)):=(Below.refl _ _).alloc (Nat.le_refl _) _;exact kR rfl hr (h _ _ (Nat.le_refl _) (Blk.new _ _ _) hbel)
theorem jH {d:Option Tmp} {p:Operand} {t ty e:TypeId} {pos:String} {after:Array Edge} {x z0:Value} {size bytes:Nat}(hp:a.eval p=x)(hx:x.cells.size=size)(h0:0<size)(h1:size≤1000)(ht:P.underlying t=some (.slice e))(hi:(P.info? e).map (fun i=>(i.zero,i.size,i.bytes))=some (some z0,size,bytes))
  (h: ∀w1 g,Blk w1 g e x.cells→Below w.heap.size w w1→wpZ P ops K ks l (a.put d (.slice (some ⟨g,0,none⟩) 1 1)) w1):
  wpZ P ops K (2::ks) (⟨d,.buildSlice t 1 #[(0,p)],ty,pos,after,none⟩::l) a w:=by
 obtain⟨i,hi,hz,hs,_⟩:=info_parts hi;have hr:(execOp a.eval ⟨d,.buildSlice t 1 #[(0,p)],ty,pos,after,none⟩).run P w= .ok (.value (.slice (some ⟨w.heap.size,0,none⟩) 1 1)) (w.alloc (.cells x.cells e)):=by
  simp only[execOp,List.map_toArray,List.map_cons,List.map_nil,hp,Sem.run_bind,fs w t e 1 size z0 #[(0,x)] x.cells ht i hi hz hs (by omega) (by omega) (fun cs hc=>yC cs size x hx hc),Result.andThen_ok,Sem.run_pure]
 have hbel:Below w.heap.size w (w.alloc (.cells x.cells e)):=(Below.refl _ _).alloc (Nat.le_refl _) _;exact kR rfl hr (h _ _ (Blk.new _ _ _) hbel)
theorem zO {d:Option Tmp} {p q r:Operand} {t ty e:TypeId} {pos:String} {after:Array Edge} {x y z z0:Value} {size bytes:Nat}(hp:a.eval p=x)(hq:a.eval q=y)(hr:a.eval r=z)(hx:x.cells.size=size)(hy:y.cells.size=size)(hz':z.cells.size=size)(h0:0<size)(h1:size≤1000)(ht:P.underlying t=some (.slice e))(hi:(P.info? e).map (fun i=>(i.zero,i.size,i.bytes))=some (some z0,size,bytes))
  (h: ∀w1 g,Blk w1 g e (x.cells++y.cells++z.cells)→Below w.heap.size w w1→wpZ P ops K ks l (a.put d (.slice (some ⟨g,0,none⟩) 3 3)) w1):
  wpZ P ops K (2::ks) (⟨d,.buildSlice t 3 #[(0,p),(1,q),(2,r)],ty,pos,after,none⟩::l) a w:=by
 obtain⟨i,hi,hz,hs,_⟩:=info_parts hi;have hrn:(execOp a.eval ⟨d,.buildSlice t 3 #[(0,p),(1,q),(2,r)],ty,pos,after,none⟩).run P w= .ok (.value (.slice (some ⟨w.heap.size,0,none⟩) 3 3)) (w.alloc (.cells (x.cells++y.cells++z.cells) e)):=by
  simp only[execOp,List.map_toArray,List.map_cons,List.map_nil,hp,hq,hr,Sem.run_bind,fs w t e 3 size z0 #[(0,x),(1,y),(2,z)] (x.cells++y.cells++z.cells) ht i hi hz hs (by omega) (by omega) (fun cs hc=>BC cs size x y z hx hy hz' hc),Result.andThen_ok,Sem.run_pure]
 have hbel:Below w.heap.size w (w.alloc (.cells (x.cells++y.cells++z.cells) e)):=(Below.refl _ _).alloc (Nat.le_refl _) _;exact kR rfl hrn (h _ _ (Blk.new _ _ _) hbel)
end
open Go.RowKit
structure RwAt(w:World)(a:Option Addr)(n c:Nat)(L:List (Y8)):Prop where
 len:L.length=n
 row: ∀k,k<n→ ∃b o a' n' c',a=some ⟨b,o,none⟩∧b<w.heap.size∧w.cell? ⟨b,o+k,none⟩=some (.slice a' n' c')∧Rd8 w a' n' c' (L.getD k [])
theorem RwAt.below {w w':World} {a:Option Addr} {n c:Nat} {L:List (Y8)}(h:RwAt w a n c L)(hb:Below w.heap.size w w'):RwAt w' a n c L:=
 ⟨h.len,fun k hk=>by
  obtain⟨b,o,a',n',c',e,hlt,hc,hr⟩:=h.row k hk;exact⟨b,o,a',n',c',e,Nat.lt_of_lt_of_le hlt hb.size,by rw[hb.cell (p:=⟨b,o+k,none⟩) hlt];exact hc,hr.below hb⟩⟩
theorem RwAt.of_one {w:World} {g:Nat} {a:Option Addr} {n c:Nat} {x:Y8}(hb:Blk w g 22 (Value.slice a n c).cells)(h:Rd8 w a n c x):RwAt w (some ⟨g,0,none⟩) 1 1 [x]:=
 ⟨rfl,fun k hk=>by
  obtain rfl:k=0:=by omega
  exact⟨g,0,a,n,c,rfl,hb.lt,by rw[hb.cell];rfl,h⟩⟩
theorem RwAt.nil(w:World)(c:Nat):RwAt w none 0 c []:=⟨rfl,fun k hk=>by omega⟩
def OwnR(w:World)(B:Nat)(v:Value)(L:List (Y8)):Prop:=
 ∃vs:List Value,w.ownsRow B 22 1 v L.length vs∧ ∀k,k<L.length→ ∃a n c,vs[k]? =some (.slice a n c)∧Rd8 w a n c (L.getD k [])∧(0<n→ ∀ad,a=some ad→v.ownBlock≠some ad.block)
theorem Rd8.grownNe {w w':World} {a:Option Addr} {n c:Nat} {l:Y8} {r:Option Nat}(h:Rd8 w a n c l)(hg:w.grownBy w' r)(hne:0<n→ ∀ad,a=some ad→r≠some ad.block):Rd8 w' a n c l:=by
 refine⟨h.1,h.2.1,h.2.2.1,fun hn=> ?_⟩;obtain⟨b,o,e,hb,hc⟩:=h.2.2.2 hn;refine⟨b,o,e,Nat.lt_of_lt_of_le hb hg.size,fun i hi=> ?_⟩;rw[←hc i hi];unfold World.cell?;rw[hg.block b hb (fun e2=>hne hn _ e e2.symm)]
theorem OwnR.base {w:World} {B B':Nat} {v:Value} {L:List (Y8)}(h:OwnR w B v L)(hb:B'≤B):OwnR w B' v L:=by
 obtain⟨vs,h1,h2⟩:=h;exact⟨vs,⟨h1.1,h1.2.imp id fun⟨g,cap,cur,h3,h4,h5⟩=>⟨g,cap,cur,h3,Nat.le_trans hb h4,h5⟩⟩,h2⟩
theorem OwnR.below {w w':World} {B:Nat} {v:Value} {L:List (Y8)}(h:OwnR w B v L)(hb:Below w.heap.size w w'):OwnR w' B v L:=by
 obtain⟨vs,h1,h2⟩:=h;refine⟨vs,⟨h1.1,?_⟩,fun k hk=> ?_⟩
 ·rcases h1.2 with h0|⟨g,cap,cur,hv,hg,hh,hr⟩
  ·exact .inl h0
  ·exact .inr ⟨g,cap,cur,hv,hg,by rw[hb.block g (Array.getElem?_eq_some_iff.1 hh).1];exact hh,hr⟩
 ·obtain⟨a,n,c,e,hr,hn⟩:=h2 k hk;exact⟨a,n,c,e,hr.below hb,hn⟩
theorem OwnR.lit2 {w w1:World} {B g n c n' c':Nat} {a a':Option Addr} {X Y:Y8}(hb:Blk w1 g 22 ((Value.slice a n c).cells++(Value.slice a' n' c').cells))(hg:w.heap.size≤g)(hB:B≤w.heap.size)(h1:Rd8 w a n c X)(h2:Rd8 w a' n' c' Y)(d:Below w.heap.size w w1):OwnR w1 B (.slice (some ⟨g,0,none⟩) 2 2) [X,Y]:=by
 have ne: ∀ {a1:Option Addr} {n1 c1:Nat} {Z:Y8},Rd8 w a1 n1 c1 Z→(0<n1→ ∀ad,a1=some ad→(Value.slice (some ⟨g,0,none⟩) 2 2).ownBlock≠some ad.block):=fun h h0 ad had e=>by
  obtain⟨b,o,e1,hlt,_⟩:=h.2.2.2 h0;rw[had]at e1;cases e1;simp only[Value.ownBlock,Option.some.injEq]at e;omega
 refine⟨[.slice a n c,.slice a' n' c'],⟨rfl,.inr ⟨g,2,_,rfl,Nat.le_trans hB hg,hb,Nat.le_refl _,by unfold maxLen;omega,rfl,rfl⟩⟩,fun k hk=> ?_⟩;have:k=0∨k=1:=by simp at hk;omega
 rcases this with rfl|rfl
 ·exact⟨a,n,c,rfl,h1.below d,ne h1⟩
 ·exact⟨a',n',c',rfl,h2.below d,ne h2⟩
theorem OwnR.lt {w:World} {B:Nat} {v:Value} {L:List (Y8)}(h:OwnR w B v L): ∀k,v.ownBlock=some k→k<w.heap.size:=fun k hk=>by
 obtain⟨vs,h1,_⟩:=h;exact(World.ownsRow.lt h1 k hk).2
theorem OwnR.form {w:World} {B:Nat} {v:Value} {L:List (Y8)}(h:OwnR w B v L): ∃a c,v= .slice a L.length c:=by
 obtain⟨vs,h1,_⟩:=h;rcases h1.2 with⟨h2,h3⟩|⟨g,cap,cur,h2,_⟩
 ·exact⟨none,0,by rw[h2,h3]⟩
 ·exact⟨_,_,h2⟩
section
variable {P:Program} {ops:Array Oper} {K:Act→World→Prop} {ks:List Nat} {l:List Oper} {a:Act} {w:World}
theorem uO {d:Option Tmp} {x y:Operand} {t ty:TypeId} {pos:String} {after:Array Edge} {B g c n' c':Nat} {v:Value} {a':Option Addr} {X:Y8} {L:List (Y8)}(hown:OwnR w B v L)(hb:Blk w g 22 (Value.slice a' n' c').cells)(hr:Rd8 w a' n' c' X)(hne:0<n'→ ∀ad,a' =some ad→v.ownBlock≠some ad.block)
  (hx:a.eval x=v) (hy:a.eval y= .slice (some ⟨g,0,none⟩) 1 c) (ht:P.underlying t=some (.slice 22)) (hi:(P.info? 22).map (fun i=>(i.zero,i.size,i.bytes))=some (some (.slice none 0 0),1,24)) (hL:L.length≤1000) (hB:B≤w.heap.size)
  (h: ∀w1 v1,OwnR w1 B v1 (L++ [X])→w.grownBy w1 v.ownBlock→Below B w w1→wpZ P ops K ks l (a.put d v1) w1):
  wpZ P ops K (2::ks) (⟨d,.call {callee:= .builtin .append,args:= #[x,y],argTypes:= #[t,t]},ty,pos,after,none⟩::l) a w:=by
 obtain⟨vs,h1,h2⟩:=hown;obtain⟨i,hi,hz,hs,hby⟩:=info_parts hi;have hbel: ∀w',w.grownBy w' v.ownBlock→Below B w w':=fun w' hg=>(Below.refl B w).grown hg hB (fun k hk=>(World.ownsRow.lt h1 k hk).1);obtain⟨v1,w1,hrun,hown',hg,hor⟩:=fG (P:=P) w B t ty 22 i (.slice none 0 0) 1 24 ht hi hz hs hby rfl (by omega) v L.length vs h1 ⟨g,0,none⟩ 1 c [.slice a' n' c'] rfl
  (fun j u hu=>by
   cases j with
   |zero=>
    cases hu;rw[Addr.add_zero',hb.cell];rfl
   |succ j=>simp at hu)
  (fun u hu=>by rw[List.mem_singleton.1 hu];rfl) (by unfold maxLen;omega) (by omega) hB
 have hlv:vs.length=L.length:=by rw[h1.1,Nat.mul_one]
 have hr':(execOp a.eval ⟨d,.call {callee:= .builtin .append,args:= #[x,y],argTypes:= #[t,t]},ty,pos,after,none⟩).run P w= .ok (.value v1) w1:=by
  rw[BigFrame.execOp_builtin];simp only[BigFrame.builtin_append,List.map_toArray,List.map_cons,List.map_nil,hx,hy,Sem.run_bind,hrun,Result.andThen_ok,Sem.run_pure]
 have far: ∀ {a1:Option Addr} {n1 c1:Nat} {Y:Y8},Rd8 w a1 n1 c1 Y→(0<n1→ ∀ad,a1=some ad→v.ownBlock≠some ad.block)→Rd8 w1 a1 n1 c1 Y∧(0<n1→ ∀ad,a1=some ad→v1.ownBlock≠some ad.block):=fun h3 h4=>by
  refine⟨h3.grownNe hg h4,fun h0 ad had e=> ?_⟩;obtain⟨b,o,e1,hlt,_⟩:=h3.2.2.2 h0;rcases hor _ e with h5|h5
  ·exact h4 h0 _ had h5
  ·rw[had]at e1;cases e1;exact absurd h5 (by simpa using hlt)
 refine kR rfl hr' (h _ _ ⟨vs++ [.slice a' n' c'],by rw[List.length_append];exact hown',fun k hk=> ?_⟩ hg (hbel _ hg));rw[List.length_append,List.length_singleton]at hk;by_cases hk2:k<L.length
 ·obtain⟨a1,n1,c1,e1,e2,e3⟩:=h2 k hk2;obtain⟨f1,f2⟩:=far e2 e3;exact⟨a1,n1,c1,by rw[List.getElem?_append_left (by omega)];exact e1,by rw[List.getD_eq_getElem?_getD,List.getElem?_append_left hk2,←List.getD_eq_getElem?_getD];exact f1,f2⟩
 ·obtain rfl:k=L.length:=by omega
  obtain⟨f1,f2⟩:=far hr hne;exact⟨a',n',c',by rw[List.getElem?_append_right (by omega),hlv];simp,by simpa using f1,f2⟩
end
open Go.RowKit
def putV:List (Y8)→Y8
 | []=>[]
 |x::r=>le64 (BitVec.ofInt 64 (x.length:Int))++x++putV r
theorem gj: ∀a b:List (Y8),putV (a++b)=putV a++putV b
 | [],b=>rfl
 |x::r,b=>by simp[putV,gj r b]
theorem uP(L:List (Y8))(j:Nat)(h:j<L.length):putV (L.take (j+1))=putV (L.take j)++(le64 (BitVec.ofInt 64 ((L.getD j []).length:Int))++L.getD j []):=by
 rw[List.take_add_one,gj];simp[h,putV]
theorem tl(L:List (Y8))(j:Nat):(putV (L.take j)).length≤(putV L).length:=by
 conv=>rhs;rw[←List.take_append_drop j L,gj,List.length_append]
 omega
def encV(t:Nat)(N:Y8)(Ad:List (Y8)):Y8:=[BitVec.ofInt 8 (t:Int)]++le64 (BitVec.ofInt 64 (Ad.length:Int))++putV [N]++putV Ad
def wO(t:Nat):Y8:=(aa 8 16).set 15 (BitVec.ofInt 8 (8*(t:Int)))
def strV(t:Nat)(N:Y8)(Ad:List (Y8)):List (Y8):=[wO t,N]++Ad
theorem mf(t:Nat)(ht:t≤16)(w:World):Calls prog 142 #[.int .i64 t] w fun e w' =>e= .returned (.int .i64 0)∧w=w':=by
 have e1: ¬(t:Int)<0:=by omega
 have e2: ¬(16:Int)<(t:Int):=by omega
 go_enter func142,ntmps142;go_wp2;go_ret;exact⟨rfl,rfl⟩
theorem qk(l:Y8)(rows:List (Y8))(v:Value)(B:Nat)(ra:Option Addr)(m rc:Nat)(w:World)(hv:Own8 w B 5 v l)(hB:B≤w.heap.size)(hr:RwAt w ra m rc rows)(hm:m≤1000)(hlen:l.length+(putV rows).length≤100000):
  Calls prog 147 #[v,.slice ra m rc] w fun e w' => ∃v',e= .returned v'∧Own8 w' B 5 v' (l++putV rows)∧Below w.heap.size w w':=by
 have V0:=hid hv;have R0:=hid hr;clear hv hr;go_enter func147,ntmps147;go_wp2_with fail;go_loopw [0,10] (fun v k wz=> ∃j:Nat,j≤m∧k= .int .i64 j∧Own8 wz B 5 v (l++putV (rows.take j))∧Below w.heap.size w wz) (fun _ k _=>m-(intOf k).toNat)
 case atStart=>exact⟨0,Nat.zero_le _,rfl,by simpa[putV]using V0.out,Below.refl _ _⟩
 case round=>
  obtain⟨j,hj,rfl,hown,hbel⟩:=hrel;have hle:=tl rows j;have B2:=hid hbel;obtain⟨P,hP⟩: ∃P,P=l++putV (rows.take j):=⟨_,rfl⟩;have hPl:P.length≤100000:=by rw[hP,List.length_append];omega
  rw[←hP]at hown;by_cases hjm:j<m
  ·obtain⟨a1,c1,rfl,r1,_⟩:=hown.rd;have r1':=hid r1;obtain⟨b,o,a',n',c',rfl,hlt,hc,hX⟩:=R0.out.row j hjm;have hlr:=R0.out.len;obtain⟨X,hXe⟩: ∃X,X=rows.getD j []:=⟨_,rfl⟩;rw[←hXe]at hX;have c2:wr.cell? ⟨b,o+j,none⟩=some (.slice a' n' c'):=by rw[hbel.cell (p:=⟨b,o+j,none⟩) hlt];exact hc
   have hX2:=hid (hX.below hbel);have hXl:=hX.1;obtain⟨Y,hY⟩: ∃Y,Y=BitVec.ofInt 64 (n':Int):=⟨_,rfl⟩;have hc64:BitVec.ofInt 64 (n':Int)=Y:=hY.symm;have hnext:l++putV (rows.take (j+1))=P++(le64 Y++X):=by rw[uP _ _ (by omega),←hXe,hXl,hP,hY,List.append_assoc]
   have hle2:=tl rows (j+1);have hXn:n'≤100000:=by
    have:=congrArg List.length hnext;simp only[List.length_append]at this;omega
   have HN:=hid hnext;have j1:(j:Int)<(m:Int):=by omega
   have j0:(0:Int)≤(j:Int):=by omega
   clear hP hXe hY hown hbel hc hX r1 hnext V0 R0 hle hle2;go_wp2_with fail;refine(aw Y wr).mono ?_;rintro e w1 ⟨rfl,d1⟩;have hnx:=HN.out;obtain⟨L,hL⟩: ∃L,L=le64 Y:=⟨_,rfl⟩;have hLl:L.length=8:=by rw[hL];rfl
   rw[←hL]at hnx⊢;have HN2:=hid hnx;clear hL HN hnx hc64;have q1:=(Blk.new w1 171 (A8 (aa 8 8))).row;have q3:=(Blk.new w1 171 (A8 (aa 8 8))).whole;obtain⟨w2,hw2⟩: ∃z,w1.alloc (.cells (A8 L) 171)=z:=⟨_,rfl⟩;obtain⟨n2,d2,z2⟩:=new1 _ _ _ _ hw2;obtain⟨g1,hg1⟩: ∃z,w1.heap.size=z:=⟨_,rfl⟩;have d12:=d1.trans (d2.mono d1.size);have n4:=n2.rd8 8 (by omega) (by rw[hLl];unfold maxLen;omega);rw[List.take_of_length_le (by omega),hLl,hg1]at n4;have N4:=hid n4;have D12:=hid d12;have HG:=hid hg1;clear d1 n2 d2 z2 d12 n4 c2;go_upto_region 5 with fail;clear q1 q3;refine aq [0,0,0,2,2,0] rfl (fun ops' K2 hK2=> ?_)
   repeat (first|((with_reducible refine zq0 ?_);refine zq0a ?_)|((with_reducible refine zq1 ?_);refine zq1a ?_))
   refine zO (x:= .slice a1 P.length c1) (y:= .slice (some ⟨g1,0,none⟩) 8 8) (z:= .slice a' n' c') (z0:= .slice none 0 0) (size:=1) (bytes:=24) rfl rfl rfl rfl rfl rfl (by omega) (by omega) underlying129 ft (fun w3 g3 k3 d3=> ?_);simp only[Act.put,zz1,zz2,zz3];have d13:=D12.out.trans (d3.mono D12.out.size)
   (with_reducible refine aM rfl ?_)
   go_simp;refine ae ?_;refine(ie g3 _ [P,L,X] 3 w3 k3 (sls3 (r1'.out.below d13) (N4.out.below d3) (hX2.out.below d13)) rfl (by omega) (by simp;omega)).mono ?_;rintro e w4 ⟨v4,rfl,o4,d4⟩;refine⟨_,rfl,?_⟩
   try simp only[Act.put,zz1,zz2,zz3]
   repeat (first|((with_reducible refine zq0 ?_);refine zq0a ?_)|((with_reducible refine zq1 ?_);refine zq1a ?_))
   refine ak (hK2 _ _ ?_);have d14:=B2.out.trans ((d13.trans (d4.mono d13.size)).mono B2.out.size);have hB4:B≤w3.heap.size:=Nat.le_trans hB (Nat.le_trans B2.out.size d13.size);have e4:[P,L,X].flatten=l++putV (rows.take (j+1)):=by rw[HN2.out];simp
   rw[e4]at o4;have O4:=hid (o4.base hB4);have D4:=hid d14;clear d13 d14 d3 d4 o4 e4 k3 hK2 HN2;go_wp2;exact⟨⟨j+1,by omega,by go_num,O4.out,D4.out⟩,by simp[intOf];omega⟩
  ·obtain rfl:j=m:=by omega
   have O2:=hid hown;have hlr:=R0.out.len;have HP:=hid hP;clear hown hbel hP;go_wp2;go_ret;refine⟨_,rfl,?_,B2.out⟩;have:=O2.out;rw[HP.out,List.take_of_length_le (by omega)]at this;exact this
theorem ql(t:Nat)(ht:t≤16)(N:Y8)(Ad:List (Y8))(a ra:Option Addr)(n c m rc:Nat)(w:World)(hN:Rd8 w a n c N)(hr:RwAt w ra m rc Ad)(hn:n≤1000)(hm:m≤1000)(hlen:(putV Ad).length≤60000):
  Calls prog 117 #[.int .i64 t,.slice a n c,.slice ra m rc] w fun e w' => ∃v,e= .returned (.tuple #[v,.int .i64 0])∧Own8 w' w.heap.size 5 v (encV t N Ad)∧Below w.heap.size w w':=by
 have N0:=hid hN;have R0:=hid hr;have hNl:=hN.1;have hRl:=hr.len;obtain⟨Y,hY⟩: ∃Y,Y=BitVec.ofInt 64 (m:Int):=⟨_,rfl⟩;have hc64:BitVec.ofInt 64 (m:Int)=Y:=hY.symm;obtain⟨T,hT⟩: ∃T,T=BitVec.ofInt 8 (t:Int):=⟨_,rfl⟩;have hc8:BitVec.ofInt 8 (t:Int)=T:=hT.symm;have heq:encV t N Ad=[T]++le64 Y++putV [N]++putV Ad:=by rw[encV,hRl,hc64,hc8]
 have HE:=hid heq;have pN:(putV [N]).length=8+n:=by simp[putV,hNl,le64];omega
 clear hN hr hY hT heq;go_enter func117,ntmps117;go_wp2_with fail;refine(mf t ht w).mono ?_;rintro e w1 ⟨rfl,rfl⟩;go_wp2_with fail;refine(aw Y w).mono ?_;rintro e w1 ⟨rfl,d1⟩;have hnx:=HE.out;obtain⟨L,hL⟩: ∃L,L=le64 Y:=⟨_,rfl⟩;have hLl:L.length=8:=by rw[hL];rfl
 rw[←hL]at hnx⊢;have HN2:=hid hnx;clear hL HE hnx hc64;have q1:=(Blk.new w1 171 (A8 (aa 8 8))).row;have q3:=(Blk.new w1 171 (A8 (aa 8 8))).whole;obtain⟨w2,hw2⟩: ∃z,w1.alloc (.cells (A8 L) 171)=z:=⟨_,rfl⟩;obtain⟨n2,d2,z2⟩:=new1 _ _ _ _ hw2;obtain⟨g1,hg1⟩: ∃z,w1.heap.size=z:=⟨_,rfl⟩;have d12:=d1.trans (d2.mono d1.size);have n4:=n2.rd8 8 (by omega) (by rw[hLl];unfold maxLen;omega);rw[List.take_of_length_le (by omega),hLl,hg1]at n4;have N4:=hid n4;have D12:=hid d12;clear d1 n2 d2 z2 d12 n4;go_upto_region 5 with fail;clear q1 q3;refine aq [0,0,2,0,2,0,2,2,0,2,0,0] rfl (fun ops' K2 hK2=> ?_)
 repeat (first|((with_reducible refine zq0 ?_);refine zq0a ?_)|((with_reducible refine zq1 ?_);refine zq1a ?_))
 refine ga rfl underlying22 bQ (fun w3 b3 hr3 hb3=> ?_);simp only[Act.put,zz1,zz2,zz3]
 repeat (first|((with_reducible refine zq0 ?_);refine zq0a ?_)|((with_reducible refine zq1 ?_);refine zq1a ?_))
 refine qH hr3 (N4.out.below hb3) rfl rfl underlying22 bQ (by omega) (by omega) (by omega) (by omega) (fun w4 v4 o4 b4=> ?_);simp only[Act.put,zz1,zz2,zz3]
 repeat (first|((with_reducible refine zq0 ?_);refine zq0a ?_)|((with_reducible refine zq1 ?_);refine zq1a ?_))
 refine jH (x:= .slice a n c) (z0:= .slice none 0 0) (size:=1) (bytes:=24) rfl rfl (by omega) (by omega) underlying129 ft (fun w5 g5 k5 d5=> ?_);simp only[Act.put,zz1,zz2,zz3];have d13:=D12.out.trans (hb3.mono D12.out.size);have d14:=d13.trans (b4.mono d13.size);have d15:=d14.trans (d5.mono d14.size)
 (with_reducible refine aM rfl ?_)
 go_simp;refine ae ?_;refine(qk ([T]++L) [N] v4 w3.heap.size (some ⟨g5,0,none⟩) 1 1 w5 (o4.below d5) (Nat.le_trans b4.size d5.size) (RwAt.of_one k5 (N0.out.below d15)) (by omega) (by rw[pN];simp<;>omega)).mono ?_;rintro e w6 ⟨v6,rfl,o6,d6⟩;refine⟨_,rfl,?_⟩
 try simp only[Act.put,zz1,zz2,zz3]
 have d16:=d15.trans (d6.mono d15.size)
 repeat (first|((with_reducible refine zq0 ?_);refine zq0a ?_)|((with_reducible refine zq1 ?_);refine zq1a ?_))
 (with_reducible refine aM rfl ?_)
 go_simp;refine ae ?_;refine(qk ([T]++L++putV [N]) Ad v6 w3.heap.size ra m rc w6 o6 (Nat.le_trans b4.size (Nat.le_trans d5.size d6.size)) (R0.out.below d16) hm (by rw[List.length_append,pN];simp;omega)).mono ?_;rintro e w7 ⟨v7,rfl,o7,d7⟩;refine⟨_,rfl,?_⟩
 try simp only[Act.put,zz1,zz2,zz3]
 repeat (first|((with_reducible refine zq0 ?_);refine zq0a ?_)|((with_reducible refine zq1 ?_);refine zq1a ?_))
 refine ak (hK2 _ _ ?_);rw[←HN2.out]at o7;have O7:=hid (o7.base d13.size);have D7:=hid (d16.trans (d7.mono d16.size));clear d13 d14 d15 d16 o7 o6 d7 d6 hK2 b4 o4 hb3 hr3 k5 d5;go_wp2;go_ret2;exact⟨_,rfl,O7.out,D7.out⟩
theorem oH(t:Nat)(ht:t≤16)(N:Y8)(Ad:List (Y8))(a ra:Option Addr)(n c m rc:Nat)(w:World)(hN:Rd8 w a n c N)(hr:RwAt w ra m rc Ad)(hn:n≤1000)(hm:m≤900)(hsz: ∀k,k<m→(Ad.getD k []).length≤60000):
  Calls prog 110 #[.int .i64 t,.slice a n c,.slice ra m rc] w fun e w' => ∃v,e= .returned (.tuple #[v,.int .i64 0])∧OwnR w' w.heap.size v (strV t N Ad)∧Below w.heap.size w w':=by
 have N0:=hid hN;have R0:=hid hr;have hRl:=hr.len;have hm16:=fun w1:World=>bZ (P:=prog) w1 22 5 16 16 underlying22 bQ (by omega) (Int.le_refl _) (by omega);have e16:(16:Int).toNat=16:=rfl;rw[e16]at hm16;obtain⟨T,hT⟩: ∃T,T=BitVec.ofInt 8 (8*(t:Int)):=⟨_,rfl⟩;have hc8:BitVec.ofInt 8 (8*(t:Int))=T:=hT.symm;have f1:IntKind.i64.wrap (8*(t:Int))=8*(t:Int):=by rw[IntKind.wrap_i64];omega
 obtain⟨F,hF⟩: ∃F,F=(aa 8 16).set 15 T:=⟨_,rfl⟩;have hFl:F.length=16:=by rw[hF];simp
 have heq: ∀L,strV t N L=[F,N]++L:=fun L=>by rw[strV,wO,hc8,hF]
 have HE:=hid heq;have HF:=hid hF;clear hN hr hT heq hF;go_enter func110,ntmps110;go_wp2_with fail;refine(mf t ht w).mono ?_;rintro e w1 ⟨rfl,rfl⟩;go_upto_region 6 with fail;rw[←HF.out];obtain⟨w1,hw1⟩: ∃z,w.alloc (.cells (A8 F) 5)=z:=⟨_,rfl⟩;obtain⟨n1,d1,z1⟩:=new1 _ _ _ _ hw1;obtain⟨g1,hg1⟩: ∃z,w.heap.size=z:=⟨_,rfl⟩;have n4:=n1.rd8 16 (by omega) (by rw[hFl];unfold maxLen;omega);rw[List.take_of_length_le (by omega),hFl,hg1]at n4;rw[hw1,hg1];have F1:=hid n4;have D1:=hid d1;have N1:=hid (N0.out.below d1);have HG:=hid hg1;clear n1 d1 z1 n4 hw1 hm16 e16 hc8 f1 N0 HF hg1;refine aq [0,0,2,2,0] rfl (fun ops' K2 hK2=> ?_)
 repeat (first|((with_reducible refine zq0 ?_);refine zq0a ?_)|((with_reducible refine zq1 ?_);refine zq1a ?_))
 (with_reducible refine aM rfl ?_)
 go_simp;refine ae ?_;refine(ju N a n c w1 N1.out (by omega)).mono ?_;rintro e w2 ⟨v2,rfl,o2,d2⟩;refine⟨_,rfl,?_⟩
 try simp only[Act.put,zz1,zz2,zz3]
 obtain⟨a2,c2,rfl,r2,_⟩:=o2.rd;rw[show N.length=n from N1.out.1]at r2⊢
 repeat (first|((with_reducible refine zq0 ?_);refine zq0a ?_)|((with_reducible refine zq1 ?_);refine zq1a ?_))
 refine yb (x:= .slice (some ⟨g1,0,none⟩) 16 16) (y:= .slice a2 n c2) (z:= .slice none 0 0) (size:=1) (bytes:=24) rfl rfl rfl rfl (by omega) (by omega) underlying129 ft (fun w3 g3 hg3 k3 d3=> ?_);simp only[Act.put,zz1,zz2,zz3]
 repeat (first|((with_reducible refine zq0 ?_);refine zq0a ?_)|((with_reducible refine zq1 ?_);refine zq1a ?_))
 refine ak (hK2 _ _ ?_);have d12:=D1.out.trans (d2.mono D1.out.size);have O3:=hid (OwnR.lit2 (B:=w.heap.size) k3 hg3 d12.size (F1.out.below d2) r2 d3);have D3:=hid (d12.trans (d3.mono d12.size));have hbs:w.heap.size≤w3.heap.size:=D3.out.size;clear d12 d3 k3 hg3 d2 r2 o2 hK2 D1 F1 N1;go_wp2_with fail;go_loopw [10,30] (fun v k wz=> ∃j:Nat,j≤m∧k= .int .i64 j∧OwnR wz w.heap.size v ([F,N]++Ad.take j)∧Below w.heap.size w wz) (fun _ k _=>m-(intOf k).toNat)
 case atStart=>exact⟨0,Nat.zero_le _,rfl,by simpa using O3.out,D3.out⟩
 case round=>
  obtain⟨j,hj,rfl,hown,hbel⟩:=hrel;have B4:=hid hbel;have O4:=hid hown;by_cases hjm:j<m
  ·obtain⟨b,o,a',n',c',rfl,hlt,hc,hX⟩:=R0.out.row j hjm;obtain⟨X,hXe⟩: ∃X,X=Ad.getD j []:=⟨_,rfl⟩;have hXl:X.length≤60000:=by rw[hXe];exact hsz j hjm
   rw[←hXe]at hX;have hX1:=hX.1;have c2:wr.cell? ⟨b,o+j,none⟩=some (.slice a' n' c'):=by rw[hbel.cell (p:=⟨b,o+j,none⟩) hlt];exact hc
   have X4:=hid (hX.below hbel);have hnext:[F,N]++Ad.take (j+1)=[F,N]++Ad.take j++ [X]:=by
    rw[List.take_add_one,hXe];simp[hRl,hjm]
   have HN:=hid hnext;have hLj:([F,N]++Ad.take j).length≤1000:=by simp;omega
   have j1:(j:Int)<(m:Int):=by omega
   have j0:(0:Int)≤(j:Int):=by omega
   clear hXe hown hbel hc hX hnext O3 D3;go_upto_region 10 with fail;refine aq [0,0,2,2,2,0] rfl (fun ops' K2 hK2=> ?_)
   repeat (first|((with_reducible refine zq0 ?_);refine zq0a ?_)|((with_reducible refine zq1 ?_);refine zq1a ?_))
   (with_reducible refine aM rfl ?_)
   go_simp;refine ae ?_;refine(ju X a' n' c' wr X4.out (by omega)).mono ?_;rintro e w5 ⟨v5,rfl,o5,d5⟩;refine⟨_,rfl,?_⟩
   try simp only[Act.put,zz1,zz2,zz3]
   obtain⟨a5,c5,rfl,r5,q5⟩:=o5.rd
   repeat (first|((with_reducible refine zq0 ?_);refine zq0a ?_)|((with_reducible refine zq1 ?_);refine zq1a ?_))
   refine jH (x:= .slice a5 X.length c5) (z0:= .slice none 0 0) (size:=1) (bytes:=24) rfl rfl (by omega) (by omega) underlying129 ft (fun w6 g6 k6 d6=> ?_);simp only[Act.put,zz1,zz2,zz3];have d56:=d5.trans (d6.mono d5.size);refine uO ((O4.out.below d56)) k6 (r5.below d6) (fun _ ad had e=>absurd (O4.out.lt _ e) (Nat.not_lt.2 (q5 ad had))) rfl rfl underlying129 ft hLj (Nat.le_trans B4.out.size d56.size) (fun w7 v7 o7 g7 d7=> ?_);simp only[Act.put,zz1,zz2,zz3]
   repeat (first|((with_reducible refine zq0 ?_);refine zq0a ?_)|((with_reducible refine zq1 ?_);refine zq1a ?_))
   refine ak (hK2 _ _ ?_);rw[←HN.out]at o7;have O7:=hid o7;have D7:=hid ((B4.out.trans (d56.mono B4.out.size)).trans d7);clear o7 g7 d7 d56 d6 d5 k6 r5 q5 o5 hK2 c2;go_wp2;exact⟨⟨j+1,by omega,by go_num,O7.out,D7.out⟩,by simp[intOf];omega⟩
  ·obtain rfl:j=m:=by omega
   clear hown hbel;go_wp2;go_ret2;refine⟨_,rfl,?_,B4.out⟩;have:=O4.out;rw[HE.out];rw[List.take_of_length_le (by omega)]at this;exact this
end Go.Proofs.YtlpkfdkhlffmlaaGreatDoor
