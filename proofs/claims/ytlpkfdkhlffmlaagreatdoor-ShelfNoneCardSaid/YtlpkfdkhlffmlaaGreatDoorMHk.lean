/-slice literals:of slices,and of rows of sixteen bytes-/
import Derived.Test.YtlpkfdkhlffmlaaGreatDoorMGe
import Derived.Test.YtlpkfdkhlffmlaaGreatDoorMGz
import Derived.Test.YtlpkfdkhlffmlaaGreatDoorMGq
import Derived.Test.YtlpkfdkhlffmlaaGreatDoorMGf
import Derived.Test.YtlpkfdkhlffmlaaGreatDoorMGb
import Derived.Test.YtlpkfdkhlffmlaaGreatDoorMGn
namespace Go.Proofs.YtlpkfdkhlffmlaaGreatDoor
open Go.Proofs.Tryz
set_option linter.unusedSimpArgs false
set_option linter.unusedVariables false
set_option maxRecDepth 100000
set_option maxHeartbeats 1600000
open Go.RowKit
section
variable {P:Program} {ops:Array Oper} {C:World→Prop} {K:Act→World→Prop} {ks:List Nat} {l:List Oper} {a:Act} {w:World}
def fq(cs:Array Value)(off:Nat)(x:Array Value):Array Value:=x.zipIdx.foldl (fun cs (c,j)=>cs.setIfInBounds (off+j) c) cs
theorem dG(place:Nat→Option (Nat×Nat))(cells:Array Value)(i:Nat)(v:Value)(rest:List (Nat×Value))(off size:Nat)(hp:place i=some (off,size))(hs:v.cells.size=size)(hb:off+size≤cells.size):
  Instr.fill place cells ((i,v)::rest)=Instr.fill place (fq cells off v.cells) rest:=by
 rw[Instr.fill,hp];simp only[];rw[if_neg (by rw[hs];simp;omega)];rfl
theorem ni(off:Nat): ∀(x:List Value) (k:Nat) (cs:List Value),off+k+x.length≤cs.length→
  ((x.zipIdx k).foldl (fun(cs:Array Value) p=>cs.setIfInBounds (off+p.2) p.1) cs.toArray).toList=cs.take (off+k)++x++cs.drop (off+k+x.length)
 | [],k,cs,h=>by simp
 |v::x,k,cs,h=>by
  rw[List.zipIdx_cons,List.foldl_cons];simp only[List.setIfInBounds_toArray];rw[ni off x (k+1) _ (by simp at h⊢;omega)];simp at h;rw[show off+(k+1)=(off+k)+1 by omega,List.take_add_one,List.take_set_of_le (Nat.le_refl _),List.getElem?_set_self (by omega),List.drop_set_of_lt (by omega)];simp[List.append_assoc];congr 1;omega
theorem bX(cs:Array Value)(off:Nat)(x:Array Value)(h:off+x.size≤cs.size):(fq cs off x).toList=cs.toList.take off++x.toList++cs.toList.drop (off+x.size):=by
 have:=ni off x.toList 0 cs.toList (by simpa using h);rw[Nat.add_zero]at this;rw[Array.length_toList]at this;rw[←this];unfold fq;congr 1;rw[←Array.toList_zipIdx,Array.foldl_toList]
theorem cx(cs:Array Value)(off:Nat)(x:Array Value)(h:off+x.size≤cs.size):(fq cs off x).size=cs.size:=by
 have:=congrArg List.length (bX cs off x h);simp at this;omega
theorem lay2(c x y:List Value)(n:Nat)(hc:c.length=2*n)(hx:x.length=n)(hy:y.length=n):
  (c.take 0++x++c.drop (0+n)).take n++y++(c.take 0++x++c.drop (0+n)).drop (n+n)=x++y:=by
 simp only[List.take_zero,List.nil_append,Nat.zero_add];have e:(x++c.drop n).drop (n+n)=[]:=List.drop_eq_nil_of_le (by simp;omega);rw[List.take_left' hx,e,List.append_nil]
theorem lay3(c x y z:List Value)(n:Nat)(hc:c.length=3*n)(hx:x.length=n)(hy:y.length=n)(hz:z.length=n)(b:List Value)(hb:b=(c.take 0++x++c.drop (0+n)).take n++y++(c.take 0++x++c.drop (0+n)).drop (n+n)):
  b.take (2*n)++z++b.drop (2*n+n)=x++y++z:=by
 simp only[List.take_zero,List.nil_append,Nat.zero_add]at hb;rw[List.take_left' hx]at hb;have e:b.drop (2*n+n)=[]:=List.drop_eq_nil_of_le (by rw[hb];simp;omega);rw[e,hb,List.take_left' (by rw[List.length_append];omega),List.append_nil]
theorem tb(cs:Array Value)(size:Nat)(x y:Value)(hx:x.cells.size=size)(hy:y.cells.size=size)(h:cs.size=2*size):
  Instr.fill (fun i=>some (i*size,size)) cs [(0,x),(1,y)]=some (x.cells++y.cells):=by
 have z1:=cx cs 0 x.cells (by omega);have z2:=cx (fq cs 0 x.cells) size y.cells (by omega);rw[dG _ _ 0 x _ 0 size (by simp) hx (by omega),dG _ _ 1 y _ size size (by simp) hy (by omega),Instr.fill];congr 1;apply Array.ext';rw[bX _ _ _ (by omega),bX _ _ _ (by omega),hx,hy,lay2 _ _ _ _ (by simpa using h) (by simpa using hx) (by simpa using hy),Array.toList_append]
theorem BC(cs:Array Value)(size:Nat)(x y z:Value)(hx:x.cells.size=size)(hy:y.cells.size=size)(hz:z.cells.size=size)(h:cs.size=3*size):
  Instr.fill (fun i=>some (i*size,size)) cs [(0,x),(1,y),(2,z)]=some (x.cells++y.cells++z.cells):=by
 have z1:=cx cs 0 x.cells (by omega);have z2:=cx (fq cs 0 x.cells) size y.cells (by omega);have z3:=cx (fq (fq cs 0 x.cells) size y.cells) (2*size) z.cells (by omega);rw[dG _ _ 0 x _ 0 size (by simp) hx (by omega),dG _ _ 1 y _ size size (by simp) hy (by omega),dG _ _ 2 z _ (2*size) size (by simp) hz (by omega),Instr.fill];congr 1;apply Array.ext';rw[bX _ _ _ (by omega),hz,lay3 cs.toList x.cells.toList y.cells.toList z.cells.toList size (by simpa using h) (by simpa using hx) (by simpa using hy) (by simpa using hz) _ (by rw[bX _ _ _ (by omega),bX _ _ _ (by omega),hx,hy]),Array.toList_append,Array.toList_append]
theorem fs(w:World)(t e:TypeId)(len size:Nat)(z:Value)(parts:Array (Nat×Value))(cells:Array Value)(hu:P.underlying t=some (.slice e))(i:TypeInfo)(hi:P.info? e=some i)(hz:i.zero=some z)(hs:i.size=size)(h0:0<len*size)(h1:len*size≤16777216)
  (hf: ∀cs:Array Value,cs.size=len*size→Instr.fill (fun i=>some (i*size,size)) cs parts.toList=some cells):
  (Instr.buildSlice t len parts).run P w= .ok (.slice (some ⟨w.heap.size,0,none⟩) len len) (w.alloc (.cells cells e)):=by
 have n1: ¬16777216<len*size:=by omega
 have n2: ¬len*size=0:=by omega
 have hf':=hf ((Array.range (len*size)).map (z.cells[· %z.cells.size]!)) (by simp);have ht:(typeInfo e).run P w= .ok i w:=by simp[typeInfo,hi]
 have hsz:(sizeOf e).run P w= .ok size w:=by simp[sizeOf,ht,hs]
 simp only[Instr.buildSlice,Sem.run_bind,run_underlying hu,hsz,Result.andThen_ok];simp[n1,n2,zeroValue,newRow,ht,hz];rw[hf'];simp
theorem zJ {d:Option Tmp} {p q:Operand} {t ty e:TypeId} {pos:String} {after:Array Edge} {x y z:Value} {size bytes:Nat}(hp:a.eval p=x)(hq:a.eval q=y)(hx:x.cells.size=size)(hy:y.cells.size=size)(h0:0<size)(h1:size≤1000)(ht:P.underlying t=some (.slice e))(hi:(P.info? e).map (fun i=>(i.zero,i.size,i.bytes))=some (some z,size,bytes))
  (h: ∀w1 g,Blk w1 g e (x.cells++y.cells)→Below w.heap.size w w1→wpH P ops C K ks l (a.put d (.slice (some ⟨g,0,none⟩) 2 2)) w1):
  wpH P ops C K (2::ks) (⟨d,.buildSlice t 2 #[(0,p),(1,q)],ty,pos,after,none⟩::l) a w:=by
 obtain⟨i,hi,hz,hs,_⟩:=info_parts hi;have hr:(execOp a.eval ⟨d,.buildSlice t 2 #[(0,p),(1,q)],ty,pos,after,none⟩).run P w= .ok (.value (.slice (some ⟨w.heap.size,0,none⟩) 2 2)) (w.alloc (.cells (x.cells++y.cells) e)):=by
  simp only[execOp,List.map_toArray,List.map_cons,List.map_nil,hp,hq,Sem.run_bind,fs w t e 2 size z #[(0,x),(1,y)] (x.cells++y.cells) ht i hi hz hs (by omega) (by omega) (fun cs hc=>tb cs size x y hx hy hc),Result.andThen_ok,Sem.run_pure]
 have hbel:Below w.heap.size w (w.alloc (.cells (x.cells++y.cells) e)):=(Below.refl _ _).alloc (Nat.le_refl _) _;exact aX rfl hr hbel (h _ _ (Blk.new _ _ _) hbel)
end
theorem ft:(prog.info? 22).map (fun i=>(i.zero,i.size,i.bytes))=some (some (.slice none 0 0),1,24):=by kernel_rfl
theorem sls3 {w:World} {x y z:Y8} {a b c:Option Addr} {n m k n' m' k':Nat}(hx:Rd8 w a n n' x)(hy:Rd8 w b m m' y)(hz:Rd8 w c k k' z):
  SlsAt w ((Value.slice a n n').cells++(Value.slice b m m').cells++(Value.slice c k k').cells) [x,y,z]:=
 ⟨rfl,fun j hj=>by
  have:j=0∨j=1∨j=2:=by simp at hj;omega
  rcases this with rfl|rfl|rfl
  ·exact⟨a,n,n',rfl,hx⟩
  ·exact⟨b,m,m',rfl,hy⟩
  ·exact⟨c,k,k',rfl,hz⟩⟩
theorem sls2 {w:World} {x y:Y8} {a b:Option Addr} {n m n' m':Nat}(hx:Rd8 w a n n' x)(hy:Rd8 w b m m' y):
  SlsAt w ((Value.slice a n n').cells++(Value.slice b m m').cells) [x,y]:=
 ⟨rfl,fun j hj=>by
  have:j=0∨j=1:=by simp at hj;omega
  rcases this with rfl|rfl
  ·exact⟨a,n,n',rfl,hx⟩
  ·exact⟨b,m,m',rfl,hy⟩⟩
open Go.RowKit
theorem aj {P:Program} {ops:Array Oper} {C:World→Prop} {K:Act→World→Prop} {k:Nat} {o:Oper} {a:Act} {w:World}(h:wpH P ops C K [k] [o] a w):opH P ops C k o K a w:=by
 unfold wpH at h;exact aK (fun a w h=>by unfold wpH at h;exact h) h
theorem flt0:flt 0=0:=by kernel_rfl
theorem BE:flt 16=4625196817309499392:=by kernel_rfl
open Go.RowKit
section
variable {P:Program} {ops:Array Oper} {C:World→Prop} {K:Act→World→Prop} {ks:List Nat} {l:List Oper} {a:Act} {w:World} {o:Oper} {v:Value} {g:Option (Nat×Bool)}
end
open Go.RowKit
section
variable {P:Program} {ops:Array Oper} {C:World→Prop} {dep:Nat→List Nat} {R:Act→World→Prop} {St:Nat→Bool→Bool→Act→World→Prop}
def kJ(P:Program)(ops:Array Oper)(C:World→Prop)(St:Nat→Bool→Bool→Act→World→Prop):Nat→List (Nat×Nat×Oper)→Prop
 |_,[]=>True
 |k,p::r=>(∀b c a w,St k b c a w→opH P ops C p.2.1 p.2.2 (St (k+1) b c) a w)∧kJ P ops C St (k+1) r
theorem iU: ∀(Y:List (Nat×Nat×Oper)) (k:Nat),kJ P ops C St k Y→lm P ops C (fun k b=>St k true b) k Y
 | [],_,_=>trivial
 |_::r,k,h=>⟨fun b a w hs=>h.1 true b a w hs,iU r (k+1) h.2⟩
theorem gR: ∀(Y:List (Nat×Nat×Oper)) (k:Nat),kJ P ops C St k Y→lm P ops C (fun k b=>St k b true) k Y
 | [],_,_=>trivial
 |_::r,k,h=>⟨fun b a w hs=>h.1 b true a w hs,gR r (k+1) h.2⟩
theorem fu(A B:List (Nat×Nat×Oper))(f:Nat×Nat×Oper)(h:((A++f::B).map (·.1)).Nodup):(A++f::B).filter (fun q=>q.1 !=f.1)=A++B:=by
 rw[List.map_append,List.map_cons,List.nodup_append,List.nodup_cons]at h;rw[List.filter_append,List.filter_cons,if_neg (by simp)];congr 1
 ·refine List.filter_eq_self.2 fun x hx=> ?_;simp only[bne_iff_ne,ne_eq];exact h.2.2 x.1 (List.mem_map.2 ⟨x,hx,rfl⟩) f.1 (by simp)
 ·refine List.filter_eq_self.2 fun x hx=> ?_;simp only[bne_iff_ne,ne_eq];intro e;exact h.2.1.1 (e▸List.mem_map.2 ⟨x,hx,rfl⟩)
theorem lS(A B:List (Nat×Nat×Oper))(f:Nat×Nat×Oper)(h:((A++f::B).map (·.1)).Nodup):((A++B).map (·.1)).Nodup:=by
 refine List.Nodup.sublist ?_ h;exact List.Sublist.map _ (List.Sublist.append (List.Sublist.refl _) (List.sublist_cons_self _ _))
theorem mz(Y:List (Nat×Nat×Oper))(f g:Nat×Nat×Oper): ∀(k:Nat),kJ P ops C St k Y→
  (∀j,j≤Y.length→ ∀c a w,St (k+j) false c a w→opH P ops C f.2.1 f.2.2 (St (k+j) true c) a w)→
  (∀j,j≤Y.length→ ∀b a w,St (k+j) b false a w→opH P ops C g.2.1 g.2.2 (St (k+j) b true) a w)→
  iJ dep Y→((Y++ [f,g]).map (·.1)).Nodup→(∀a w,St (k+Y.length) true true a w→R a w)→ ∀a w,St k false false a w→da P ops C dep R (Y.length+2) (Y++ [f,g]) a w:=by
 induction Y with
 |nil=>
  intro k hs hf hg hc hn hR a w h q hq _;have hq':q=f∨q=g:=by simpa using hq
  rcases hq' with e|e
  ·subst e;rw[show([]++ [q,g]:List (Nat×Nat×Oper)).filter (fun x=>x.1 !=q.1)=[g] from fu [] [g] q hn];exact aK (fun a w h=>bP (St:=fun k b=>St k true b) [] g k trivial (fun j hj a w h=>hg j hj true a w h) trivial (by simp) (fun a w h=>hR a w h) a w h) (hf 0 (Nat.zero_le _) false a w h)
  ·subst e;rw[show([]++ [f,q]:List (Nat×Nat×Oper)).filter (fun x=>x.1 !=q.1)=[f] from fu [f] [] q hn];exact aK (fun a w h=>bP (St:=fun k b=>St k b true) [] f k trivial (fun j hj a w h=>hf j hj true a w h) trivial (by simp) (fun a w h=>hR a w h) a w h) (hg 0 (Nat.zero_le _) false a w h)
 |cons p r ih=>
  intro k hs hf hg hc hn hR a w h q hq hfree;have hq':q=p∨q∈r∨q=f∨q=g:=by simpa using hq
  rcases hq' with e|hq'|e|e
  ·subst e;rw[show(q::r++ [f,g]).filter (fun x=>x.1 !=q.1)=r++ [f,g] from fO q (r++ [f,g]) hn];refine aK (fun a w h=>ih (k+1) hs.2 (fun j hj c a w h=> ?_) (fun j hj b a w h=> ?_) (by cases r with|nil=>trivial|cons s t=>exact hc.2) (by rw[List.cons_append,List.map_cons,List.nodup_cons]at hn;exact hn.2) (fun a w h=>hR a w (by rw[List.length_cons];rwa [Nat.add_assoc,Nat.add_comm 1]at h)) a w h) (hs.1 false false a w h)
   ·have:=hf (j+1) (by simpa using hj) c a w (by rwa [Nat.add_assoc,Nat.add_comm 1]at h)
    rwa [Nat.add_assoc,Nat.add_comm 1]
   ·have:=hg (j+1) (by simpa using hj) b a w (by rwa [Nat.add_assoc,Nat.add_comm 1]at h)
    rwa [Nat.add_assoc,Nat.add_comm 1]
  ·obtain⟨x,hx,hd⟩:=fj r p q hc hq';have:=List.all_eq_true.1 hfree x (by simp only[List.mem_append];exact .inl hx);simp at this;exact absurd hd this
  ·subst e;have e1:(p::r++ [q,g]).filter (fun x=>x.1 !=q.1)=p::r++ [g]:=fu (p::r) [g] q hn;rw[e1];exact aK (fun a w h=>bP (St:=fun k b=>St k true b) (p::r) g k (iU _ _ hs) (fun j hj a w h=>hg j hj true a w h) hc (lS (p::r) [g] q hn) hR a w h) (hf 0 (Nat.zero_le _) false a w h)
  ·subst e;have hn2:((p::r++ [f]++q::[]).map (·.1)).Nodup:=by simpa using hn
   have e1:(p::r++ [f,q]).filter (fun x=>x.1 !=q.1)=p::r++ [f]:=by
    have:=fu (p::r++ [f]) [] q hn2;simpa using this
   rw[e1];exact aK (fun a w h=>bP (St:=fun k b=>St k b true) (p::r) f k (gR _ _ hs) (fun j hj a w h=>hf j hj true a w h) hc (by have:=lS (p::r++ [f]) [] q hn2;simpa using this) hR a w h) (hg 0 (Nat.zero_le _) false a w h)
end
end Go.Proofs.YtlpkfdkhlffmlaaGreatDoor
