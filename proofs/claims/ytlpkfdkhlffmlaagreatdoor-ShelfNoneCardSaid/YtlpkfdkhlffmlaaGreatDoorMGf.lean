/-slices of rows of bytes:their rows,made,read,appended to. No function of the program in sight. -/
import Derived.Test.YtlpkfdkhlffmlaaGreatDoorMGb
import Derived.Test.YtlpkfdkhlffmlaaGreatDoorMGc
import Derived.Test.YtlpkfdkhlffmlaaGreatDoorMGd
import Derived.Test.YtlpkfdkhlffmlaaGreatDoorMGu
namespace Go.Proofs.YtlpkfdkhlffmlaaGreatDoor
open Go.Proofs.Tryz
open Lib (hid)
set_option linter.unusedSimpArgs false
set_option linter.unusedVariables false
set_option maxRecDepth 100000
set_option maxHeartbeats 1600000
open Go.RowKit
def RdS(w:World)(s:Nat)(a:Option Addr)(n c:Nat)(l:Y8):Prop:=
 l.length=n*s∧n≤c∧c≤maxLen∧(0<n→ ∃b o,a=some ⟨b,o,none⟩∧b<w.heap.size∧ ∀i,i<n*s→w.cell? ⟨b,o+i,none⟩=some (v8 (nth l i)))
theorem RdS.keep {w w':World} {s:Nat} {a:Option Addr} {n c:Nat} {l:Y8}(h:RdS w s a n c l)(hs:w.heap.size≤w'.heap.size)(hk: ∀p:Addr,p.block<w.heap.size→w'.cell? p=w.cell? p):RdS w' s a n c l:=
 ⟨h.1,h.2.1,h.2.2.1,fun hn=>by
  obtain⟨b,o,ha,hb,hc⟩:=h.2.2.2 hn;exact⟨b,o,ha,by omega,fun i hi=>(hk _ hb).trans (hc i hi)⟩⟩
theorem RdS.below {w w':World} {s:Nat} {a:Option Addr} {n c:Nat} {l:Y8}(h:RdS w s a n c l)(hb:Below w.heap.size w w'):RdS w' s a n c l:=
 h.keep hb.size fun _ hp=>hb.cell hp
theorem RdS.alloc {w:World} {s:Nat} {a:Option Addr} {n c:Nat} {l:Y8}(h:RdS w s a n c l)(o:Obj):RdS (w.alloc o) s a n c l:=
 h.below ((Below.refl _ _).alloc (Nat.le_refl _) _)
theorem RdS.drew {w:World} {s:Nat} {a:Option Addr} {n c:Nat} {l:Y8}(h:RdS w s a n c l):RdS w.drew s a n c l:=h
theorem RdS.mid {w:World} {s b o n c:Nat} {l:Y8}(h:RdS w s (some ⟨b,o,none⟩) n c l) {j k c':Nat}(hj:j≤k)(hk:k≤n)(hc1:k-j≤c')(hc2:c'≤maxLen):
  RdS w s (some ⟨b,o+j*s,none⟩) (k-j) c' ((l.take (k*s)).drop (j*s)):=by
 obtain⟨h1,h2,h3,h4⟩:=h;have hks:k*s≤n*s:=Nat.mul_le_mul_right _ hk;refine⟨by rw[List.length_drop,List.length_take,h1,Nat.min_eq_left hks,Nat.sub_mul],hc1,hc2,fun hn=> ?_⟩;obtain⟨b',o',e,hb,hc⟩:=h4 (by omega);cases e;refine⟨b,o+j*s,rfl,hb,fun i hi=> ?_⟩;rw[Nat.sub_mul]at hi;rw[Nat.add_assoc,hc (j*s+i) (by omega),bv,aJ _ _ _ (by omega)]
section
variable {P:Program}
theorem zo {w:World} {t:TypeId} {b o:Nat} {m:Y8}(h1:(isAgg t).run P w= .ok true w)(h2:(sizeOf t).run P w= .ok m.length w)(hc: ∀i,i<m.length→w.cell? ⟨b,o+i,none⟩=some (v8 (nth m i))):
  (ce t (.pointer (some ⟨b,o,none⟩))).run P w= .ok (.agg (A8 m)) w:=by
 have hl:=run_loadCells_list (P:=P) (w:=w) ⟨b,o,none⟩ (m.map v8) (fun j v hj=>by
  rw[Addr.add_lit];have hlt:j<m.length:=by
   have:=(List.getElem?_eq_some_iff.1 hj).1;simpa using this
  rw[hc j hlt,←hj,List.getElem?_map,dv hlt];rfl)
 rw[List.length_map]at hl;simp[ce,Instr.loadAt,Instr.sureAddr,loadVar,Sem.run_bind,h1,h2,hl,A8]
theorem RdS.row {w:World} {s b o n c:Nat} {l:Y8} {t:TypeId}(h:RdS w s (some ⟨b,o,none⟩) n c l)(h1:(isAgg t).run P w= .ok true w)(h2:(sizeOf t).run P w= .ok s w)(j:Nat)(hj:j<n):
  (ce t (.pointer (some ⟨b,o+j*s,none⟩))).run P w= .ok (.agg (A8 ((l.drop (j*s)).take s))) w:=by
 obtain⟨hl,_,_,h4⟩:=h;obtain⟨b',o',e,hb,hc⟩:=h4 (by omega);cases e;have hjs:(j+1)*s≤n*s:=Nat.mul_le_mul_right _ hj;rw[Nat.add_mul,Nat.one_mul]at hjs;have hlen:((l.drop (j*s)).take s).length=s:=by rw[List.length_take,List.length_drop,hl];omega
 refine zo h1 (by rw[hlen];exact h2) (fun i hi=> ?_);rw[hlen]at hi;rw[Nat.add_assoc,hc (j*s+i) (by omega),aJ _ _ _ hi,bv]
def OwnS(w:World)(B:Nat)(e:TypeId)(s:Nat)(v:Value)(m:Nat)(l:Y8):Prop:=w.ownsRow B e s v m (l.map v8)
theorem OwnS.nil_(w:World)(B:Nat)(e:TypeId)(s:Nat):OwnS w B e s (.slice none 0 0) 0 []:=World.ownsRow_nil w B e s
theorem OwnS.alloc {w:World} {B:Nat} {e:TypeId} {s:Nat} {v:Value} {m:Nat} {l:Y8}(h:OwnS w B e s v m l)(o:Obj):OwnS (w.alloc o) B e s v m l:=World.ownsRow.alloc h o
theorem OwnS.drew {w:World} {B:Nat} {e:TypeId} {s:Nat} {v:Value} {m:Nat} {l:Y8}(h:OwnS w B e s v m l):OwnS w.drew B e s v m l:=h
theorem OwnS.base {w:World} {B B':Nat} {e:TypeId} {s:Nat} {v:Value} {m:Nat} {l:Y8}(h:OwnS w B e s v m l)(hb:B'≤B):OwnS w B' e s v m l:=
 ⟨h.1,h.2.imp id fun⟨g,cap,cur,h1,h2,h3⟩=>⟨g,cap,cur,h1,Nat.le_trans hb h2,h3⟩⟩
theorem OwnS.below {w w':World} {B:Nat} {e:TypeId} {s:Nat} {v:Value} {m:Nat} {l:Y8}(h:OwnS w B e s v m l)(hb:Below w.heap.size w w'):OwnS w' B e s v m l:=by
 refine⟨h.1,?_⟩;rcases h.2 with h0|⟨g,cap,cur,hv,hg,hh,hr⟩
 ·exact .inl h0
 ·exact .inr ⟨g,cap,cur,hv,hg,by rw[hb.block g (Array.getElem?_eq_some_iff.1 hh).1];exact hh,hr⟩
theorem OwnS.apart {w:World} {B g:Nat} {e:TypeId} {s:Nat} {v:Value} {m:Nat} {l:Y8}(h:OwnS w B e s v m l)(hb:g<B):some g≠v.ownBlock:=by
 intro e;have:=(World.ownsRow.lt h g e.symm).1;omega
theorem OwnS.grown {w w':World} {B g:Nat} {e:TypeId} {s:Nat} {v:Value} {m:Nat} {l:Y8}(h:OwnS w B e s v m l)(hg:w.grownBy w' (some g))(hb:g<B):OwnS w' B e s v m l:=
 World.ownsRow.kept h hg (by
  cases hv:v.ownBlock with
  |none=>exact .inl rfl
  |some k=>
   refine .inr fun e=> ?_;have:=(World.ownsRow.lt h k hv).1;cases e;omega)
theorem OwnS.rd {w:World} {B:Nat} {e:TypeId} {s:Nat} {v:Value} {m:Nat} {l:Y8}(h:OwnS w B e s v m l): ∃a c,v= .slice a m c∧RdS w s a m c l∧(∀ad,a=some ad→B≤ad.block):=by
 have hlen:l.length=m*s:=by have:=h.1;rw[List.length_map]at this;exact this
 rcases h.2 with⟨rfl,h0⟩|⟨g,cap,cur,rfl,hg,hh,hnc,hcm,hcs,hx⟩
 ·refine⟨none,0,by rw[h0],⟨hlen,by omega,by unfold maxLen;omega,fun hn=>by omega⟩,fun ad had=>by cases had⟩
 ·refine⟨_,_,rfl,⟨hlen,hnc,hcm,fun hn=>⟨g,0,rfl,(Array.getElem?_eq_some_iff.1 hh).1,fun i hi=> ?_⟩⟩,fun ad had=>by cases had;exact hg⟩;rw[Nat.zero_add,aO];unfold ar;rw[hh];have h2:=congrArg (fun l:List Value=>l[i]?) hx;simp only[List.getElem?_take,hi,if_true,List.getElem?_map,dv (show i<l.length by omega)]at h2;simpa using h2
theorem OwnS.form {w:World} {B:Nat} {e:TypeId} {s:Nat} {v:Value} {m:Nat} {l:Y8}(h:OwnS w B e s v m l)(hn:0<m):
  ∃g cap,v= .slice (some ⟨g,0,none⟩) m cap∧B≤g∧g<w.heap.size∧m≤cap∧cap≤maxLen:=by
 rcases h.2 with⟨_,h0⟩|⟨g,cap,cur,hv,hb,hg,hnc,hcm,_⟩
 ·omega
 ·exact⟨g,cap,hv,hb,(Array.getElem?_eq_some_iff.1 hg).1,hnc,hcm⟩
theorem OwnS.rdAt {w:World} {B n c:Nat} {e:TypeId} {s m:Nat} {a:Option Addr} {l:Y8}(h:OwnS w B e s (.slice a n c) m l):RdS w s a n c l:=by
 obtain⟨a',c',he,hr,_⟩:=h.rd;cases he;exact hr
theorem pb(w:World)(B:Nat)(t ty e:TypeId)(s:Nat)(hs0:0<s)(ht:P.underlying t=some (.slice e))(hi:(P.info? e).map (fun i=>(i.zero,i.size,i.bytes))=some (some (.agg (A8 (aa 8 s))),s,s))
  (v:Value) (n:Nat) (l:Y8) (hown:OwnS w B e s v n l) (a:Addr) (m c:Nat) (x:Y8) (hr:RdS w s (some a) m c x) (hm:0<m) (hb:(n+m)*s≤140737488355328) (hbase:B≤w.heap.size):
  ∃v' w',(Builtin.append_ #[t,t] ty #[v,.slice (some a) m c]).run P w= .ok v' w'∧OwnS w' B e s v' (n+m) (l++x)∧w.grownBy w' v.ownBlock∧Below B w w':=by
 obtain⟨i,hi,hz,hs,hby⟩:=info_parts hi;have hbel: ∀w',w.grownBy w' v.ownBlock→Below B w w':=fun w' hg=>(Below.refl B w).grown hg hbase (fun k hk=>(World.ownsRow.lt hown k hk).1);obtain⟨b,o,he,hbl,hc⟩:=hr.2.2.2 hm;cases he;have hnm:n+m≤(n+m)*s:=Nat.le_mul_of_pos_right _ hs0;obtain⟨v',w',hrun,hown',hg,_⟩:=run_append_own (P:=P) w B t ty e i (.agg (A8 (aa 8 s))) s s ht hi hz hs hby (by rw[show(Value.agg (A8 (aa 8 s))).cells=A8 (aa 8 s) from rfl,au,af]) hs0 v n (l.map v8) hown ⟨b,o,none⟩ m c (x.map v8) (by simp[hr.1])
  (fun j u hu=>by
   have hlt:j<x.length:=by have:=(List.getElem?_eq_some_iff.1 hu).1;simpa using this
   rw[Addr.add_lit,hc j (by rw[←hr.1];exact hlt),←hu,List.getElem?_map,dv hlt];rfl)
  (fun u hu=>by obtain⟨y,_,rfl⟩:=List.mem_map.1 hu;rfl) (by unfold maxLen;omega) hb hbase
 refine⟨v',w',hrun,?_,hg,hbel _ hg⟩;unfold OwnS;rw[List.map_append];exact hown'
theorem mK: ∀(xs:List Value) (k:Nat) (cs:Array Value),cs.size=k+xs.length→(xs.zipIdx k).foldl (fun cs x=>cs.setIfInBounds x.2 x.1) cs=(cs.toList.take k++xs).toArray
 | [],k,cs,h=>by
  apply Array.ext';simp only[List.zipIdx_nil,List.foldl_nil,List.append_nil];rw[List.take_of_length_le (by simpa using Nat.le_of_eq h)]
 |v::xs,k,cs,h=>by
  rw[List.zipIdx_cons,List.foldl_cons,mK xs (k+1) _ (by simp at h⊢;omega)];apply Array.ext';have hk:k<cs.toList.length:=by simp at h⊢;omega
  simp only[Array.toList_setIfInBounds];rw[List.take_add_one,List.take_set_of_le (Nat.le_refl k),List.getElem?_set_self hk];simp
theorem qQ(xs cs:Array Value)(h:cs.size=xs.size):Array.foldl (fun cs x=>cs.setIfInBounds x.2 x.1) cs xs.zipIdx 0 xs.size=xs:=by
 have e:Array.foldl (fun cs x=>cs.setIfInBounds x.2 x.1) cs xs.zipIdx 0 xs.size=(xs.toList.zipIdx 0).foldl (fun cs x=>cs.setIfInBounds x.2 x.1) cs:=by
  rw[←Array.toList_zipIdx,Array.foldl_toList];congr 1;simp
 rw[e,mK _ _ _ (by simpa using h)];simp
theorem lf(w:World)(t e:TypeId)(x:Y8)(h0:0<x.length)(h1:x.length≤16777216)(hu:P.underlying t=some (.slice e))(hi:(P.info? e).map (fun i=>(i.zero,i.size,i.bytes))=some (some (.agg (A8 (aa 8 x.length))),x.length,x.length)):
  (Instr.buildSlice t 1 #[(0,.agg (A8 x))]).run P w= .ok (.slice (some ⟨w.heap.size,0,none⟩) 1 1) (w.alloc (.cells (A8 x) e)):=by
 obtain⟨i,hi,hz,hs,_⟩:=info_parts hi;have hc:(Value.agg (A8 x)).cells=A8 x:=rfl;have n1: ¬16777216<x.length:=by omega
 have n2: ¬x=[]:=by intro h;rw[h]at h0;simp at h0
 have n3: ¬(¬(A8 x).size=x.length∨x.length<(A8 x).size):=by rw[au];omega
 simp only[Instr.buildSlice,Sem.run_bind,run_underlying hu,sizeOf,typeInfo,hi,hs,newRow,Instr.fill,zeroValue,hz,hc,Result.andThen_ok];simp[n1,n2,hi,hs,hz,hc];rw[if_neg n3,qQ _ _ (by rw[au];simp)];rfl
theorem pd {ops:Array Oper} {K:Act→World→Prop} {ks:List Nat} {l:List Oper} {a:Act} {w:World} {d:Option Tmp} {y:Operand} {t ty e:TypeId} {pos:String} {after:Array Edge} {x:Y8} {s:Nat}(hx:x.length=s)(h0:0<s)(h1:s≤1000)(hy:a.eval y= .agg (A8 x))(ht:P.underlying t=some (.slice e))(hi:(P.info? e).map (fun i=>(i.zero,i.size,i.bytes))=some (some (.agg (A8 (aa 8 s))),s,s))
  (h: ∀w1 b,RdS w1 s (some ⟨b,0,none⟩) 1 1 x→Below w.heap.size w w1→wpZ P ops K ks l (a.put d (.slice (some ⟨b,0,none⟩) 1 1)) w1):
  wpZ P ops K (2::ks) (⟨d,.buildSlice t 1 #[(0,y)],ty,pos,after,none⟩::l) a w:=by
 subst hx;unfold wpZ opT;simp only[Region.wanted,if_true];have hr:(execOp a.eval ⟨d,.buildSlice t 1 #[(0,y)],ty,pos,after,none⟩).run P w= .ok (.value (.slice (some ⟨w.heap.size,0,none⟩) 1 1)) (w.alloc (.cells (A8 x) e)):=by
  simp only[execOp,List.map_toArray,List.map_cons,List.map_nil,hy,Sem.run_bind,lf w t e x h0 (by omega) ht hi,Result.andThen_ok,Sem.run_pure]
 unfold Oper.wp;rw[hr];have hb:=(Blk.new w e (A8 x)).rd8 x.length (by simp) (by unfold maxLen;omega);rw[List.take_of_length_le (Nat.le_refl _)]at hb;refine h _ _ ⟨by omega,Nat.le_refl _,by unfold maxLen;omega,fun _=> ?_⟩ ((Below.refl _ _).alloc (Nat.le_refl _) _);obtain⟨b,o,he,hlt,hc⟩:=hb.2.2.2 h0;cases he;exact⟨_,_,rfl,hlt,fun i hi=>hc i (by omega)⟩
theorem js {ops:Array Oper} {K:Act→World→Prop} {ks:List Nat} {l:List Oper} {a:Act} {w:World} {d:Option Tmp} {x y:Operand} {t ty e:TypeId} {pos:String} {after:Array Edge} {B s m n c:Nat} {v:Value} {lv lx:Y8} {ad:Addr}(hown:OwnS w B e s v m lv)(hl:RdS w s (some ad) n c lx)
  (hx:a.eval x=v) (hy:a.eval y= .slice (some ad) n c) (hs0:0<s) (hn:0<n) (ht:P.underlying t=some (.slice e)) (hi:(P.info? e).map (fun i=>(i.zero,i.size,i.bytes))=some (some (.agg (A8 (aa 8 s))),s,s)) (hb:(m+n)*s≤140737488355328) (hB:B≤w.heap.size)
  (h: ∀w1 v1,OwnS w1 B e s v1 (m+n) (lv++lx)→w.grownBy w1 v.ownBlock→Below B w w1→wpZ P ops K ks l (a.put d v1) w1):
  wpZ P ops K (2::ks) (⟨d,.call {callee:= .builtin .append,args:= #[x,y],argTypes:= #[t,t]},ty,pos,after,none⟩::l) a w:=by
 unfold wpZ opT;simp only[Region.wanted,if_true];obtain⟨v1,w1,hc,h1,h2,h3⟩:=pb (P:=P) w B t ty e s hs0 ht hi v m lv hown ad n c lx hl hn hb hB;have hr:(execOp a.eval ⟨d,.call {callee:= .builtin .append,args:= #[x,y],argTypes:= #[t,t]},ty,pos,after,none⟩).run P w= .ok (.value v1) w1:=by
  rw[BigFrame.execOp_builtin];simp only[BigFrame.builtin_append,List.map_toArray,List.map_cons,List.map_nil,hx,hy,Sem.run_bind,hc,Result.andThen_ok,Sem.run_pure]
 unfold Oper.wp;rw[hr];exact h _ _ h1 h2 h3
theorem tY(w:World)(t e:TypeId)(s:Nat)(c:Int)(B:Nat)(ht:P.underlying t=some (.slice e))(hi:(P.info? e).map (fun i=>(i.zero,i.size,i.bytes))=some (some (.agg (A8 (aa 8 s))),s,s))(h0:0≤c)(hc:c≤1000000)(hs:s≤1000000)(hB:B≤w.heap.size):
  ∃w1,(Instr.makeSlice t (.int .i64 0) (.int .i64 c)).run P w= .ok (.slice (some ⟨w.heap.size,0,none⟩) 0 c.toNat) w1∧OwnS w1 B e s (.slice (some ⟨w.heap.size,0,none⟩) 0 c.toNat) 0 []∧Below w.heap.size w w1:=by
 obtain⟨i,hi,hz,hsz,hby⟩:=info_parts hi;have hm:=run_make (P:=P) w t e i (.agg (A8 (aa 8 s))) ht hi hz .i64 .i64 0 c (Int.le_refl 0) h0 (by
  rw[hby];have:(s:Int)*c≤1000000*1000000:=Int.mul_le_mul (by omega) hc h0 (by omega);omega) (by omega)
 refine⟨_,hm,?_,(Below.refl _ _).alloc (Nat.le_refl _) _⟩;exact World.ownsRow_made w _ c.toNat hB (by unfold maxLen;omega) (by rw[size_madeCells,hsz])
end
open Go.RowKit
def upd(f:Nat→BitVec 8)(l:Y8)(j:Nat):Y8:=(List.range l.length).map fun i=>if i<j then f i else nth l i
@[simp] theorem cX(f:Nat→BitVec 8)(l:Y8)(j:Nat):(upd f l j).length=l.length:=by simp[upd]
theorem kG(f:Nat→BitVec 8)(l:Y8)(j i:Nat)(h:i<l.length):nth (upd f l j) i=if i<j then f i else nth l i:=gM _ i h
theorem ph(f:Nat→BitVec 8)(l:Y8):upd f l 0=l:=by
 apply aD
 ·simp
 ·intro i hi;rw[cX]at hi;rw[kG _ _ _ _ hi];simp
theorem sN(f:Nat→BitVec 8)(l:Y8)(j:Nat)(hj:j<l.length):(upd f l j).set j (f j)=upd f l (j+1):=by
 apply aD
 ·simp
 ·intro i hi;rw[List.length_set,cX]at hi;rw[dg _ _ _ _ (by rw[cX];exact hj),kG _ _ _ _ hi,kG _ _ _ _ hi];by_cases h:j=i
  ·subst h;simp
  ·by_cases h2:i<j
   ·rw[if_neg h,if_pos h2,if_pos (by omega)]
   ·rw[if_neg h,if_neg h2,if_neg (by omega)]
theorem zp(f:Nat→BitVec 8)(l:Y8)(j:Nat)(hj:j<l.length):nth (upd f l j) j=nth l j:=by
 rw[kG _ _ _ _ hj,if_neg (by omega)]
def box4(l:Y8):Y8:=[box (nth l 0),box (nth l 1),box (nth l 2),box (nth l 3)]
def xor4(a b:Y8):Y8:=[nth a 0^^^nth b 0,nth a 1^^^nth b 1,nth a 2^^^nth b 2,nth a 3^^^nth b 3]
@[simp] theorem pi(l:Y8):(box4 l).length=4:=rfl
@[simp] theorem fL(a b:Y8):(xor4 a b).length=4:=rfl
theorem vT(l:Y8)(h:l.length=4):upd (fun i=>box (nth l i)) l 4=box4 l:=by
 unfold upd;rw[h];rfl
theorem vU(a b:Y8)(h:a.length=4):upd (fun i=>nth a i^^^nth b i) a 4=xor4 a b:=by
 unfold upd;rw[h];rfl
theorem tZ(n:Nat)(w:World)(h:n=16∨n=24∨n=32):
  Calls prog 96 #[.int .i64 n] w fun e w' =>e= .returned (.tuple #[.int .i64 ((n/4:Nat):Int),.bool (decide (n=32)),.int .i64 0])∧w=w':=by
 rcases h with rfl|rfl|rfl<;>
 ·go_enter func96,ntmps96;go_wp2
  go_ret3
  exact⟨rfl,rfl⟩
theorem qR {P:Program} {T e:TypeId} {n:Nat} {w:World}(hT:P.underlying T=some (.array n e))(h1:(isAgg e).run P w= .ok false w)(h2:(sizeOf e).run P w= .ok 1 w)(l:Y8)(j:Nat)(h:j<l.length)(hn:j<n):
  (Instr.index T (.agg (A8 l)) (.int .i64 j)).run P w= .ok (v8 (nth l j)) w:=by
 have hp:(0:Int)≤(j:Int)∧(j:Int)<(n:Int):=by omega
 simp[Instr.index,asIntOf,run_underlying hT,hp,h2,part,h1,jm l j h,Sem.run_bind];intro hnj;omega
@[go_sem ↓ high] theorem zq(l:Y8)(j:Nat)(w:World)(h:j<l.length)(hn:j<4):(Instr.index 197 (.agg (A8 l)) (.int .i64 j)).run prog w= .ok (v8 (nth l j)) w:=
 qR (n:=4) (e:=5) (by kernel_rfl) (isAgg5 _) (sizeOf5 _) l j h hn
theorem mL(p:Nat)(x:Y8)(w:World)(hT:TabAt w p)(hx:x.length=4):
  Calls prog 99 #[.pointer (some ⟨p,0,none⟩),.agg (A8 x)] w fun e w' =>e= .returned (.agg (A8 (box4 x)))∧Below w.heap.size w w':=by
 obtain⟨W,hW⟩: ∃W,(w.alloc (.cells (A8 x) 197)).alloc (.cells (A8 (aa 8 4)) 197)=W:=⟨_,rfl⟩;obtain⟨b0,b1,hb,hz⟩:=new2 _ _ _ _ _ _ hW;have T0:=hid hT;have P0:=hid b0;have r0:=b0.row;have Z0:=hid b1;have B0:=hid hb;clear b0 b1 hb hz hT;have huf:=vT x hx;obtain⟨f,hf⟩: ∃f:Nat→BitVec 8,f=fun i=>box (nth x i):=⟨_,rfl⟩;rw[←hf]at huf;have HU:=hid huf;have HF:=hid hf;clear huf hf;go_enter func99,ntmps99;go_wp2_with fail;clear r0;go_loopw [8] (fun i wr=> ∃j:Nat,j≤4∧i= .int .i64 j∧Blk wr w.heap.size 197 (A8 (upd f x j))∧Blk wr (w.heap.size+1) 197 (A8 (aa 8 4))∧Below w.heap.size w wr) (fun i _=>4-(intOf i).toNat)
 case atStart=>exact⟨0,by omega,rfl,by rw[ph];exact P0.out,Z0.out,B0.out⟩
 case round=>
  obtain⟨j,hj,rfl,hP,hZ,hB⟩:=hrel;have P1:=hid hP;have Z1:=hid hZ;have B1:=hid hB;clear hP hZ hB P0 Z0 B0 hW;by_cases hj4:j<4
  ·have j1:(j:Int)<4:=by omega
   have j0:(0:Int)≤(j:Int):=by omega
   have jx:j<x.length:=by omega
   go_wp2_with fail;refine(vK p (nth x j) wr (T0.out.below B1.out)).mono ?_;rintro e w1 ⟨rfl,rfl⟩;have c1:=P1.out.cell8 (cX f x j) j jx;have fo:=P1.out.frozen j;have kk:=P1.out.set_ j (v8 (box (nth x j)));rw[fd,show box (nth x j)=f j by rw[HF.out],sN f x j jx,←show box (nth x j)=f j by rw[HF.out]]at kk;have P2:=hid kk;have Z2:=hid (Z1.out.far (p:=⟨w.heap.size,j,none⟩) (by simp) (v8 (box (nth x j))));have B2:=hid (B1.out.setCell (p:=⟨w.heap.size,j,none⟩) (by simp) (v8 (box (nth x j))));clear kk P1 Z1 B1;go_wp2;exact⟨⟨j+1,by omega,by go_num,P2.out,Z2.out,B2.out⟩,by simp[intOf];omega⟩
  ·obtain rfl:j=4:=by omega
   have zz:=P1.out;rw[HU.out]at zz;have r1:=zz.row;have r2:=Z1.out.row;have r3:=Z1.out.whole;have hl:=pi x;clear zz;go_wp2;refine ag (A8 (box4 x)) rfl rfl rfl (isAgg197 _) (sizeOf197 _) (by rw[au];exact hl) (ah _ r3) ⟨rfl,below_setRow B1.out (by omega) _⟩
open Go.RowKit
theorem ua(a b:Y8)(w:World)(ha:a.length=4)(hb4:b.length=4):
  Calls prog 100 #[.agg (A8 a),.agg (A8 b)] w fun e w' =>e= .returned (.agg (A8 (xor4 a b)))∧Below w.heap.size w w':=by
 obtain⟨W,hW⟩: ∃W,((w.alloc (.cells (A8 a) 197)).alloc (.cells (A8 b) 197)).alloc (.cells (A8 (aa 8 4)) 197)=W:=⟨_,rfl⟩;obtain⟨b0,b1,b2,hb,hz⟩:=new3 _ _ _ _ _ _ _ _ hW;have P0:=hid b0;have Q0:=hid b1;have Z0:=hid b2;have B0:=hid hb;clear b0 b1 b2 hb hz;have huf:=vU a b ha;obtain⟨f,hf⟩: ∃f:Nat→BitVec 8,f=fun i=>nth a i^^^nth b i:=⟨_,rfl⟩;rw[←hf]at huf;have HU:=hid huf;have HF:=hid hf;clear huf hf;go_enter func100,ntmps100;go_wp2_with fail;go_loopw [6] (fun i wr=> ∃j:Nat,j≤4∧i= .int .i64 j∧Blk wr w.heap.size 197 (A8 (upd f a j))∧Blk wr (w.heap.size+1) 197 (A8 b)∧Blk wr (w.heap.size+2) 197 (A8 (aa 8 4))∧Below w.heap.size w wr) (fun i _=>4-(intOf i).toNat)
 case atStart=>exact⟨0,by omega,rfl,by rw[ph];exact P0.out,Q0.out,Z0.out,B0.out⟩
 case round=>
  obtain⟨j,hj,rfl,hP,hQ,hZ,hB⟩:=hrel;have P1:=hid hP;have Q1:=hid hQ;have Z1:=hid hZ;have B1:=hid hB;clear hP hQ hZ hB P0 Q0 Z0 B0 hW;by_cases hj4:j<4
  ·have j1:(j:Int)<4:=by omega
   have j0:(0:Int)≤(j:Int):=by omega
   have jx:j<a.length:=by omega
   have c1:=P1.out.drew.cell8 (cX f a j) j jx;have c2:=Q1.out.drew.cell8 hb4 j hj4;rw[zp f a j jx]at c1;go_upto_region 4 with fail;refine ao [0,0,1,0,0,1,0,0,2] (by kernel_rfl) (by kernel_rfl) (fun ops' K2 hK2=> ?_)
   repeat (first|((with_reducible refine zq0 ?_);refine zq0a ?_)|((with_reducible refine zq1 ?_);refine zq1a ?_))
   refine eP P1.out.drew rfl rfl (by rw[cX];exact jx) (sizeOf5 _) (fun w1 k1 g1 s1=> ?_);refine ak (hK2 _ _ ?_);rw[show nth a j^^^nth b j=f j by rw[HF.out],sN f a j jx]at k1;have P2:=hid k1;have Q2:=hid (Q1.out.drew.grown g1 (by simp));have Z2:=hid (Z1.out.drew.grown g1 (by simp));have B2:=hid (B1.out.drew.trans (ac g1 (by omega) B1.out.size));clear k1 g1 s1 c1 c2 hK2 P1 Q1 Z1 B1;go_wp2;exact⟨⟨j+1,by omega,by go_num,P2.out,Q2.out,Z2.out,B2.out⟩,by simp[intOf];omega⟩
  ·obtain rfl:j=4:=by omega
   have zz:=P1.out;rw[HU.out]at zz;have r1:=zz.row;have r2:=Z1.out.row;have r3:=Z1.out.whole;have hl:=fL a b;clear zz;go_wp2;refine ag (A8 (xor4 a b)) rfl rfl rfl (isAgg197 _) (sizeOf197 _) (by rw[au];exact hl) (ah _ r3) ⟨rfl,below_setRow B1.out (by omega) _⟩
theorem zt(a b:Y8)(ha:a.length=16)(hb:b.length=16):blk (xorl a b)=bG a b:=by
 have hl:(xorl a b).length=16:=by rw[bz,ha,hb];rfl
 unfold blk;rw[List.take_of_length_le (by omega),mG _ _ (by rw[hl,af])];apply aD
 ·rw[hl,aZ]
 ·intro i hi;rw[hl]at hi;rw[kQ _ _ _ (by rw[ha,hb];exact hi),bG,br _ _ hi]
theorem mM(a b:Y8)(w:World)(ha:a.length=16)(hb16:b.length=16):
  Calls prog 104 #[.agg (A8 a),.agg (A8 b)] w fun e w' =>e= .returned (.agg (A8 (bG a b)))∧Below w.heap.size w w':=by
 obtain⟨W,hW⟩: ∃W,((w.alloc (.cells (A8 a) 154)).alloc (.cells (A8 b) 154)).alloc (.cells (A8 (aa 8 16)) 154)=W:=⟨_,rfl⟩;obtain⟨b0,b1,b2,hb,hz⟩:=new3 _ _ _ _ _ _ _ _ hW;have P0:=b0.drew.rd8 16 (by omega) (by rw[ha];unfold maxLen;omega);have Q0:=b1.drew.rd8 16 (by omega) (by rw[hb16];unfold maxLen;omega);rw[List.take_of_length_le (by omega),ha]at P0;rw[List.take_of_length_le (by omega),hb16]at Q0;have PP:=hid P0;have QQ:=hid Q0;have Z0:=hid b2;have B0:=hid hb;clear b0 b1 b2 hb hz P0 Q0;go_enter func104,ntmps104;go_upto_region 1 with fail;clear hW;refine ao [0,0,2,2,2] (by kernel_rfl) (by kernel_rfl) (fun ops' K2 hK2=> ?_)
 repeat (first|((with_reducible refine zq0 ?_);refine zq0a ?_)|((with_reducible refine zq1 ?_);refine zq1a ?_))
 (with_reducible refine aM rfl ?_)
 go_simp;refine ae ?_;refine(sJ a b _ _ 16 16 16 16 W.drew PP.out QQ.out (by omega)).mono ?_;rintro e w1 ⟨v1,rfl,o1,b1⟩;refine⟨_,rfl,?_⟩
 try simp only[Act.put,zz1,zz2,zz3]
 obtain⟨a1,c1,rfl,hr1,_⟩:=o1.rd;have hxl:(xorl a b).length=16:=by rw[bz,ha,hb16];rfl
 rw[hxl]at hr1⊢
 (with_reducible refine aM rfl ?_)
 go_simp;refine ae ?_;refine(jo (xorl a b) a1 16 c1 w1 hr1).mono ?_;rintro e w2 ⟨rfl,b2⟩;refine⟨_,rfl,?_⟩
 try simp only[Act.put,zz1,zz2,zz3]
 rw[zt a b ha hb16];have b12:=b1.trans (b2.mono b1.size);have hl:=aZ a b;refine am (Z0.out.drew.belowAll b12) rfl rfl (by rw[au,au,hl,af]) (aB _) (by rw[au,hl];exact sizeOf154 _) (fun w3 k3 g3 s3=> ?_);refine ak (hK2 _ _ ?_);have r3:=k3.row;have d2:=B0.out.drew.trans (b12.mono B0.out.size);have B3:=d2.trans (ac g3 (by omega) d2.size);clear o1 hr1 b1 b2 b12 g3 s3 hK2 PP QQ Z0 d2;go_wp2;refine ag (A8 (bG a b)) rfl rfl rfl (isAgg154 _) (sizeOf154 _) (by rw[au];exact hl) r3 ⟨rfl,B3⟩
theorem qT(L:Y8)(b o c:Nat)(w:World)(hR:RdS w 4 (some ⟨b,o,none⟩) 4 c L):
  Calls prog 101 #[.slice (some ⟨b,o,none⟩) 4 c] w fun e w' =>e= .returned (.agg (A8 L))∧Below w.heap.size w w':=by
 obtain⟨W,hW⟩: ∃W,(w.alloc (.cells (A8 (aa 8 16)) 154)).alloc (.cells (A8 (aa 8 16)) 154)=W:=⟨_,rfl⟩;obtain⟨b0,b1,hb,hz⟩:=new2 _ _ _ _ _ _ hW;have hL:L.length=16:=hR.1;have Z0:=hid b0;have O0:=hid b1;have B0:=hid hb;have R0:=hid hR;have HL:=hid hL;clear b0 b1 hb hz hR hL;go_enter func101,ntmps101;go_wp2_with fail;go_loopw [8] (fun i wr=> ∃j:Nat,j≤4∧i= .int .i64 j∧Blk wr w.heap.size 154 (A8 (aa 8 16))∧Blk wr (w.heap.size+1) 154 (A8 (cg 16 L (4*j)))∧Below w.heap.size w wr) (fun i _=>4-(intOf i).toNat)
 case atStart=>exact⟨0,by omega,rfl,Z0.out,by rw[Nat.mul_zero,dL];exact O0.out,B0.out⟩
 case round=>
  obtain⟨j,hj,rfl,hZ,hO,hB⟩:=hrel;have Z1:=hid hZ;have O1:=hid hO;have B1:=hid hB;clear hZ hO hB Z0 O0 B0 hW;by_cases hj4:j<4
  ·have j1:(j:Int)<4:=by omega
   have j0:(0:Int)≤(j:Int):=by omega
   obtain⟨X,hX⟩: ∃X,X=(L.drop (j*4)).take 4:=⟨_,rfl⟩;have hXl:X.length=4:=by rw[hX,List.length_take,List.length_drop,HL.out];omega
   have c1:=(R0.out.below B1.out).row (t:=197) (isAgg197 _) (sizeOf197 _) j hj4;rw[←hX]at c1;obtain⟨E,hE⟩: ∃E,E=4*j:=⟨_,rfl⟩;have f1:(4:Int)*(j:Int)=(E:Int):=by omega
   have f2:IntKind.i64.wrap (E:Int)=(E:Int):=by rw[IntKind.wrap_i64];omega
   have e1:(E:Int)≤16:=by omega
   have e0:(0:Int)≤(E:Int):=by omega
   have e2: ¬16=E:=by omega
   have HE:=hid hE;have HX:=hid hX;clear hE hX;go_upto_region 5 with fail;have Z2:=hid (Z1.out.alloc (.cells (A8 X) 197));have O2:=hid (O1.out.alloc (.cells (A8 X) 197));have X2:=hid (Blk.new wr 197 (A8 X));have B2:=hid (B1.out.alloc B1.out.size (.cells (A8 X) 197));have hlt:=O1.out.lt;clear c1 Z1 O1 B1;generalize wr.alloc (.cells (A8 X) 197)=W2 at*;generalize wr.heap.size=pX at*;refine ao [0,0,0,0,2] (by kernel_rfl) (by kernel_rfl) (fun ops' K2 hK2=> ?_)
   repeat (first|((with_reducible refine zq0 ?_);refine zq0a ?_)|((with_reducible refine zq1 ?_);refine zq1a ?_))
   have rn:=X2.out.drew.rd8 4 (by omega) (by rw[hXl];unfold maxLen;omega);rw[List.take_of_length_le (by omega),hXl]at rn;refine cH O2.out.drew rn rfl rfl underlying22 eo (by rw[ay];omega) (fun w5 v5 k5 g5 s5=> ?_);refine ak (hK2 _ _ ?_);have e5:splc (cg 16 L (4*j)) E (X.take (min 4 (16-E)))=cg 16 L (4*(j+1)):=by
    have hE:=HE.out;rw[List.take_of_length_le (by omega),HX.out,hE,Nat.mul_comm j 4];exact jr L HL.out j hj4
   rw[e5]at k5;have Z5:=hid (Z2.out.drew.grown g5 (by simp));have O5:=hid k5;have B5:=hid (B2.out.drew.trans (ac g5 (by omega) B2.out.size));clear k5 g5 s5 e5 rn hK2 Z2 O2 X2 B2 e2;go_wp2;exact⟨⟨j+1,by omega,by go_num,Z5.out,O5.out,B5.out⟩,by simp[intOf];omega⟩
  ·obtain rfl:j=4:=by omega
   have zz:=O1.out;rw[show 4*4=16 from rfl,dN 16 L HL.out]at zz;have r1:=zz.row;have r2:=Z1.out.row;have r3:=Z1.out.whole;have hl:=HL.out;clear zz;go_wp2;refine ag (A8 L) rfl rfl rfl (isAgg154 _) (sizeOf154 _) (by rw[au];exact hl) (ah _ r3) ⟨rfl,below_setRow B1.out (by omega) _⟩
def cF(L:Y8)(j:Nat):Y8:=(L.drop (j*16)).take 16
def rnds(L:Y8)(b:Y8):Nat→Y8
 |0=>b
 |j+1=>dJ (rnds L b j) (cF L j)
theorem dr(L b:Y8)(hb:b.length=16): ∀j,(rnds L b j).length=16
 |0=>hb
 |j+1=>by rw[rnds,gJ]
theorem pj(p:Nat)(b L:Y8)(g o n c:Nat)(w:World)(hT:TabAt w p)(hb16:b.length=16)(hR:RdS w 16 (some ⟨g,o,none⟩) n c L)(hn:n≤1000):
  Calls prog 103 #[.pointer (some ⟨p,0,none⟩),.agg (A8 b),.slice (some ⟨g,o,none⟩) n c] w fun e w' =>e= .returned (.agg (A8 (rnds L b n)))∧Below w.heap.size w w':=by
 obtain⟨W,hW⟩: ∃W,(w.alloc (.cells (A8 b) 154)).alloc (.cells (A8 (aa 8 16)) 154)=W:=⟨_,rfl⟩;obtain⟨b0,b1,hb,hz⟩:=new2 _ _ _ _ _ _ hW;have T0:=hid hT;have P0:=hid b0;have Z0:=hid b1;have B0:=hid hb;have R0:=hid hR;have hLl:=hR.1;have HL:=hid hLl;clear b0 b1 hb hz hR hT hLl;go_enter func103,ntmps103;go_wp2_with fail;go_loopw [14] (fun i wr=> ∃j:Nat,j≤n∧i= .int .i64 j∧Blk wr w.heap.size 154 (A8 (rnds L b j))∧Blk wr (w.heap.size+1) 154 (A8 (aa 8 16))∧Below w.heap.size w wr) (fun i _=>n-(intOf i).toNat)
 case atStart=>exact⟨0,by omega,rfl,P0.out,Z0.out,B0.out⟩
 case round=>
  obtain⟨j,hj,rfl,hP,hZ,hB⟩:=hrel;have P1:=hid hP;have Z1:=hid hZ;have B1:=hid hB;clear hP hZ hB P0 Z0 B0 hW;by_cases hjn:j<n
  ·have j1:(j:Int)<n:=by omega
   have j0:(0:Int)≤(j:Int):=by omega
   obtain⟨X,hX⟩: ∃X,X=cF L j:=⟨_,rfl⟩;have hXl:X.length=16:=by
    have:=HL.out;rw[hX,cF,List.length_take,List.length_drop,this];omega
   have c1:=(R0.out.below B1.out).row (t:=154) (isAgg154 _) (sizeOf154 _) j hjn;rw[show(L.drop (j*16)).take 16=X from hX.symm]at c1;obtain⟨Y,hY⟩: ∃Y,Y=rnds L b j:=⟨_,rfl⟩;have hYl:Y.length=16:=by rw[hY,dr L b hb16]
   rw[←hY]at P1;have HX:=hid hX;have HY:=hid hY;clear hX hY;go_upto_region 6 with fail;have P2:=hid (P1.out.alloc (.cells (A8 X) 154));have Z2:=hid (Z1.out.alloc (.cells (A8 X) 154));have B2:=hid (B1.out.alloc B1.out.size (.cells (A8 X) 154));have r1:=(Blk.new wr 154 (A8 X)).row;have r2:=P2.out.row;clear c1 P1 Z1 B1;generalize wr.alloc (.cells (A8 X) 154)=W2 at*;generalize wr.heap.size=pX at*;go_wp2_with fail;refine(qP p Y X W2 (T0.out.below B2.out) hYl hXl).mono ?_;rintro e w3 ⟨rfl,hb3⟩;have ey:dJ Y X=rnds L b (j+1):=by rw[HX.out,HY.out];rfl
   obtain⟨U,hU⟩: ∃U,U=dJ Y X:=⟨_,rfl⟩;have hUl:U.length=16:=by rw[hU,gJ]
   rw[←hU]at ey⊢;have rr:=(P2.out.belowAll hb3).row;have rw3:=(P2.out.belowAll hb3).whole;have P3:=hid ((P2.out.belowAll hb3).put (A8 U));have Z3:=hid ((Z2.out.belowAll hb3).farRow (k:=w.heap.size) (by omega) (A8 U));have B3:=hid (below_setRow (B2.out.trans (hb3.mono B2.out.size)) (Nat.le_refl _) (A8 U));have EY:=hid ey;clear r1 r2 hb3 P2 Z2 B2 ey hU;go_wp2;exact⟨⟨j+1,by omega,by go_num,by rw[←EY.out];exact P3.out,Z3.out,B3.out⟩,by simp[intOf];omega⟩
  ·obtain rfl:j=n:=by omega
   have hl:=dr L b hb16 j;have r1:=P1.out.row;have r2:=Z1.out.row;have r3:=Z1.out.whole;go_wp2;refine ag (A8 (rnds L b j)) rfl rfl rfl (isAgg154 _) (sizeOf154 _) (by rw[au];exact hl) (ah _ r3) ⟨rfl,below_setRow B1.out (by omega) _⟩
end Go.Proofs.YtlpkfdkhlffmlaaGreatDoor
