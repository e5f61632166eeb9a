/-octet.PutWord,octet.PutLong-/
import Derived.Test.YtlpkfdkhlffmlaaGreatDoorMGa
import Derived.Handy
import Derived.StillTailTactics
import Derived.ScopeJumps
import Derived.Test.YtlpkfdkhlffmlaaGreatDoorMGt
import Derived.Test.YtlpkfdkhlffmlaaGreatDoorMGs
import Derived.Deep.Cut
import Derived.Test.YtlpkfdkhlffmlaaGreatDoorMGo
namespace Go.Proofs.YtlpkfdkhlffmlaaGreatDoor
open Go.Proofs.Tryz
open Lib (hid)
set_option linter.unusedSimpArgs false
set_option linter.unusedVariables false
set_option maxRecDepth 100000
set_option maxHeartbeats 1600000
open Go.RowKit
def le32(x:BitVec 32):Y8:=[x.setWidth 8,(x>>>8).setWidth 8,(x>>>16).setWidth 8,(x>>>24).setWidth 8]
@[simp] theorem eg(x:BitVec 32):(le32 x).length=4:=rfl
theorem ei(x:BitVec 32)(w:World):
  Calls prog 97 #[v32 x] w fun e w' =>e= .returned (.agg (A8 (le32 x)))∧Below w.heap.size w w':=by
 go_enter func97,ntmps97;go_wp2
 go_rounds 5
 refine ag (A8 (le32 x)) rfl rfl rfl (isAgg75 _) (sizeOf75 _) rfl (by simp[go_sem];rfl) ⟨rfl,?_⟩
 repeat (first|exact Below.refl _ _|assumption|refine Below.drew ?_|refine Below.alloc ?_ ?_ _|refine Below.setCell ?_ ?_ _|refine below_setRow ?_ ?_ _|refine Below.trans ?_ (Below.mono (by assumption) ?_))
 all_goals (first|(simp;done)|(simp;omega)|(simp at*;omega))
def le64(x:BitVec 64):Y8:=[x.setWidth 8,(x>>>8).setWidth 8,(x>>>16).setWidth 8,(x>>>24).setWidth 8,(x>>>32).setWidth 8,(x>>>40).setWidth 8,(x>>>48).setWidth 8,(x>>>56).setWidth 8]
@[simp] theorem el(x:BitVec 64):(le64 x).length=8:=rfl
theorem aw(x:BitVec 64)(w:World):
  Calls prog 76 #[v64 x] w fun e w' =>e= .returned (.agg (A8 (le64 x)))∧Below w.heap.size w w':=by
 go_enter func76,ntmps76;go_wp2
 go_rounds 9
 refine ag (A8 (le64 x)) rfl rfl rfl (isAgg171 _) (sizeOf171 _) rfl (by simp[go_sem];rfl) ⟨rfl,?_⟩
 repeat (first|exact Below.refl _ _|assumption|refine Below.drew ?_|refine Below.alloc ?_ ?_ _|refine Below.setCell ?_ ?_ _|refine below_setRow ?_ ?_ _|refine Below.trans ?_ (Below.mono (by assumption) ?_))
 all_goals (first|(simp;done)|(simp;omega)|(simp at*;omega))
open Go.RowKit
theorem tJ(l:Y8)(a:Option Addr)(n c p q:Nat)(pos k:Int)(w:World)(hr:Rd8 w a n c l)(hp:w.cell? ⟨p,0,none⟩=some (.int .i64 pos))(hq:w.cell? ⟨q,0,none⟩=some (.slice a n c))
  (h0:0≤pos) (h1:pos≤4611686018427387904) (hk0:0≤k) (hk1:k≤16):
  Calls prog 151 #[.int .i64 k,.pointer (some ⟨p,0,none⟩),.pointer (some ⟨q,0,none⟩)] w fun e w' =>e= .returned (v8 (nth l (pos.toNat+k.toNat)))∧w=w':=by
 obtain⟨hl,hnc,hc,hcell⟩:=hr;unfold maxLen at hc;by_cases h:pos+k<n
 ·obtain⟨b,o,rfl,hb,hcell⟩:=hcell (by omega);have hx:=hcell (pos.toNat+k.toNat) (by omega);have hx':w.cell? ⟨b,o+(pos+k).toNat,none⟩=some (v8 (nth l (pos.toNat+k.toNat))):=by rw[show(pos+k).toNat=pos.toNat+k.toNat by omega];exact hx
  clear hcell hx;go_enter func151,ntmps151;go_wp2;go_ret;exact⟨rfl,rfl⟩
 ·have hx:nth l (pos.toNat+k.toNat)=0#8:=by unfold nth;rw[List.getD_eq_getElem?_getD,List.getElem?_eq_none (by omega)];rfl
  rw[hx];clear hcell hl hx;go_enter func151,ntmps151;go_wp2;go_ret;exact⟨rfl,rfl⟩
def gath(l:Y8)(pos:Nat):Nat→BitVec 64
 |0=>0#64
 |k+1=>gath l pos k|||(nth l (pos+k)).setWidth 64<<<(8*k)
theorem kP(l:Y8)(a:Option Addr)(n c p q many:Nat)(pos:Int)(w:World)(hr:Rd8 w a n c l)(hp:w.cell? ⟨p,0,none⟩=some (.int .i64 pos))(hq:w.cell? ⟨q,0,none⟩=some (.slice a n c))
  (h0:0≤pos) (h1:pos≤4611686018427387904) (hm:many≤8):
  Calls prog 133 #[.int .i64 many,.func (.func 151) #[] #[.pointer (some ⟨p,0,none⟩),.pointer (some ⟨q,0,none⟩)]] w fun e w' =>e= .returned (v64 (gath l pos.toNat many))∧w=w':=by
 go_enter func133,ntmps133;go_wp2
 go_loop [5,8] (fun v i=> ∃k:Nat,k≤many∧i= .int .i64 k∧v=v64 (gath l pos.toNat k)) (fun _ i=>many-(intOf i).toNat)
 case atStart=>exact⟨0,Nat.zero_le _,rfl,rfl⟩
 case round=>
  obtain⟨k,hk,rfl,rfl⟩:=hrel;have h8:(0:Int)≤8*(k:Int):=by omega
  have h8':(8*(k:Int)).toNat=8*k:=by omega
  by_cases hlt:k<many
  ·go_wp2_with (go_at_call 151;refine(tJ l a n c p q pos _ _ hr hp hq h0 h1 (by omega) (by omega)).mono ?_;rintro e w' ⟨rfl,rfl⟩)
   go_round
   case rel=>exact⟨k+1,by omega,by go_num,by simp only[gath]⟩
   case measure=>simp[intOf];omega
  ·obtain rfl:k=many:=by omega
   go_wp2;go_ret;exact⟨rfl,rfl⟩
def word(l:Y8)(pos:Nat):BitVec 32:=(gath l pos 4).setWidth 32
def long(l:Y8)(pos:Nat):BitVec 64:=gath l pos 8
theorem oT(a:Option Addr)(n c:Nat)(pos:Int)(w:World):
  Calls prog 134 #[.slice a n c,.int .i64 pos] w fun e w' =>e= .returned (.func (.func 151) #[] #[.pointer (some ⟨w.heap.size+1,0,none⟩),.pointer (some ⟨w.heap.size,0,none⟩)])∧
   (w.alloc (.cells #[.slice a n c] 22)).alloc (.cells #[.int .i64 pos] 3)=w':=by
 go_enter func134,ntmps134;go_wp2;go_ret;exact⟨rfl,rfl⟩
theorem bW(l:Y8)(a:Option Addr)(n c:Nat)(pos:Int)(w:World)(hr:Rd8 w a n c l)(h0:0≤pos)(h1:pos≤4611686018427387904):
  Calls prog 98 #[.slice a n c,.int .i64 pos] w fun e w' =>e= .returned (v32 (word l pos.toNat))∧Below w.heap.size w w':=by
 have hr2:=(hr.alloc (.cells #[.slice a n c] 22)).alloc (.cells #[.int .i64 pos] 3);go_enter func98,ntmps98;go_wp2_with fail;refine(oT _ _ _ _ _).mono ?_;rintro e w' ⟨rfl,rfl⟩;go_wp2_with fail;refine(kP l a n c _ _ 4 pos _ hr2 (by simp) (by simp) h0 h1 (by omega)).mono ?_;rintro e w' ⟨rfl,rfl⟩;go_wp2_with fail;go_ret;refine⟨rfl,?_⟩
 repeat (first|exact Below.refl _ _|assumption|refine Below.drew ?_|refine Below.alloc ?_ ?_ _|refine Below.setCell ?_ ?_ _|refine below_setRow ?_ ?_ _|refine Below.trans ?_ (Below.mono (by assumption) ?_))
 all_goals (first|(simp;done)|(simp;omega)|(simp at*;omega))
theorem oU(l:Y8)(a:Option Addr)(n c:Nat)(pos:Int)(w:World)(hr:Rd8 w a n c l)(h0:0≤pos)(h1:pos≤4611686018427387904):
  Calls prog 163 #[.slice a n c,.int .i64 pos] w fun e w' =>e= .returned (v64 (long l pos.toNat))∧Below w.heap.size w w':=by
 have hr2:=(hr.alloc (.cells #[.slice a n c] 22)).alloc (.cells #[.int .i64 pos] 3);go_enter func163,ntmps163;go_wp2_with fail;refine(oT _ _ _ _ _).mono ?_;rintro e w' ⟨rfl,rfl⟩;go_wp2_with fail;refine(kP l a n c _ _ 8 pos _ hr2 (by simp) (by simp) h0 h1 (by omega)).mono ?_;rintro e w' ⟨rfl,rfl⟩;go_wp2_with fail;go_ret;refine⟨rfl,?_⟩
 repeat (first|exact Below.refl _ _|assumption|refine Below.drew ?_|refine Below.alloc ?_ ?_ _|refine Below.setCell ?_ ?_ _|refine below_setRow ?_ ?_ _|refine Below.trans ?_ (Below.mono (by assumption) ?_))
 all_goals (first|(simp;done)|(simp;omega)|(simp at*;omega))
open Go.RowKit
theorem bQ:(prog.info? 5).map (fun i=>(i.zero,i.size,i.bytes))=some (some (.int .u8 0),1,1):=by kernel_rfl
theorem eo:(prog.info? 5).map (·.size)=some 1:=by kernel_rfl
theorem vA(n:Int):goInt n= .int .i64 n:=rfl
def blk(l:Y8):Y8:=splc (aa 8 16) 0 (l.take 16)
@[simp] theorem cW(l:Y8):(blk l).length=16:=by
 unfold blk;rw[aL _ _ _ (by simp;omega)];simp
theorem jo(l:Y8)(a:Option Addr)(n c:Nat)(w:World)(hr:Rd8 w a n c l):
  Calls prog 71 #[.slice a n c] w fun e w' =>e= .returned (.agg (A8 (blk l)))∧Below w.heap.size w w':=by
 have hcp:=jn (P:=prog) ((w.alloc (.cells (A8 (aa 8 16)) 154)).alloc (.cells (A8 (aa 8 16)) 154)) 22 22 3 5 (w.heap.size+1) 0 16 16 a n c (aa 8 16) l
  underlying22 eo (by simp[go_sem]) (by simp[go_sem]) ((hr.alloc _).alloc _) (by simp;omega)
 have e:l.take (min n 16)=l.take 16:=by rw[←hr.1,Nat.min_comm,←List.take_take,List.take_of_length_le (Nat.le_refl _)]
 rw[e,vA]at hcp;clear e;change _=Result.ok _ (World.setRow _ _ (A8 (blk l)))at hcp;generalize (min (n:Int) ((16:Nat):Int))=N at hcp;go_enter func71,ntmps71;go_wp2;refine ag (A8 (blk l)) rfl rfl rfl (isAgg154 _) (sizeOf154 _) (by simp[go_sem]) (by simp[go_sem]) ⟨rfl,?_⟩
 repeat (first|exact Below.refl _ _|assumption|refine Below.drew ?_|refine Below.alloc ?_ ?_ _|refine Below.setCell ?_ ?_ _|refine below_setRow ?_ ?_ _|refine Below.trans ?_ (Below.mono (by assumption) ?_))
 all_goals (first|(simp;done)|(simp;omega)|(simp at*;omega))
def xorl(a b:Y8):Y8:=List.zipWith (· ^^^ ·) a b
theorem bz(a b:Y8):(xorl a b).length=min a.length b.length:=by simp[xorl]
theorem kQ(a b:Y8)(i:Nat)(h:i<min a.length b.length):nth (xorl a b) i=nth a i^^^nth b i:=by
 have h1:i<a.length:=by omega
 have h2:i<b.length:=by omega
 unfold nth xorl;rw[List.getD_eq_getElem?_getD,List.getElem?_zipWith];simp[h1,h2]
def fF(a b:Y8)(i:Nat):Y8:=(xorl a b).take i++aa 8 ((xorl a b).length-i)
theorem cD(a b:Y8)(i:Nat)(h:i≤min a.length b.length):(fF a b i).length=min a.length b.length:=by
 simp[fF,bz];omega
theorem tK(a b:Y8)(i:Nat)(h:i<min a.length b.length):(fF a b i).set i (nth a i^^^nth b i)=fF a b (i+1):=by
 have hl:=bz a b;apply aD
 ·rw[List.length_set,cD a b i (by omega),cD a b (i+1) (by omega)]
 ·intro j hj;rw[List.length_set,cD a b i (by omega)]at hj;rw[dg _ _ _ _ (by rw[cD a b i (by omega)];exact h)];unfold fF;simp only[bO,List.length_take,cT];by_cases e:i=j
  ·subst e;rw[if_pos rfl,if_pos (by omega),aJ _ _ _ (by omega),kQ a b i h]
  ·rw[if_neg e];by_cases h3:j<i
   ·rw[if_pos (by omega),if_pos (by omega),aJ _ _ _ h3,aJ _ _ _ (by omega)]
   ·rw[if_neg (by omega),if_neg (by omega)]
theorem qE(a b:Y8):fF a b 0=aa 8 (min a.length b.length):=by simp[fF,bz]
theorem qF(a b:Y8):fF a b (min a.length b.length)=xorl a b:=by
 simp[fF,←bz,aa]
theorem sJ(l m:Y8)(a b:Option Addr)(n c n' c':Nat)(w:World)(hr:Rd8 w a n c l)(hs:Rd8 w b n' c' m)(hsz:min n n'≤140737488355328):
  Calls prog 95 #[.slice a n c,.slice b n' c'] w fun e w' => ∃v,e= .returned v∧Own8 w' w.heap.size 5 v (xorl l m)∧Below w.heap.size w w':=by
 have hl:=hr.1;have hl':=hs.1;have hb1:=hr.2.2.1;have hb2:=hs.2.2.1;have hmk:=bZ (P:=prog) w 22 5 (min n n':Nat) (min n n':Nat) underlying22 bQ (by omega) (by omega) (by omega);rw[Int.toNat_natCast,←hl,←hl',←qE,hl,hl']at hmk;generalize hk:min n n' =k at hmk hsz;have hki:min (n:Int) (n':Int)=(k:Int):=by omega
 have Hk:=hid hk;clear hk;have Hl:=hid hl;clear hl;have Hl':=hid hl';clear hl';go_enter func95,ntmps95;go_wp2;go_loopw [15] (fun i wr=> ∃j:Nat,j≤k∧i= .int .i64 j∧Blk wr w.heap.size 5 (A8 (fF l m j))∧Below w.heap.size w wr) (fun i _=>k-(intOf i).toNat)
 case atStart=>exact⟨0,Nat.zero_le _,rfl,Blk.new _ _ _,(Below.refl _ _).alloc (Nat.le_refl _) _⟩
 case round=>
  obtain⟨j,hj,rfl,hblk,hbel⟩:=hrel;have hk:=Hk.out;have hl:=Hl.out;have hl':=Hl'.out;by_cases hjk:j<k
  ·obtain⟨ba,oa,rfl,hba,hca⟩:=hr.2.2.2 (by omega);obtain⟨bb,ob,rfl,hbb,hcb⟩:=hs.2.2.2 (by omega);have ca:wr.cell? ⟨ba,oa+j,none⟩=some (v8 (nth l j)):=(hbel.cell hba).trans (hca j (by omega));have cb:wr.cell? ⟨bb,ob+j,none⟩=some (v8 (nth m j)):=(hbel.cell hbb).trans (hcb j (by omega));have co:wr.cell? ⟨w.heap.size,j,none⟩=some (v8 (nth (fF l m j) j)):=by rw[hblk.cell,jm _ _ (by rw[cD _ _ _ (by omega)];omega)]
   have fo:=hblk.frozen j;have i0:(0:Int)≤(j:Int):=by omega
   have i1:(j:Int)<(n:Int):=by omega
   have i2:(j:Int)<(n':Int):=by omega
   have i3:(j:Int)<(k:Int):=by omega
   have e2:=hblk.set_ j (v8 (nth l j^^^nth m j));rw[fd,tK _ _ _ (by omega)]at e2;have E2:=hid e2;have E4:=hid hbel;clear e2 hblk hbel hl hl' hk hca hcb hr hs hmk hki;go_wp2
   go_region
   all_goals go_wp2
   exact⟨⟨j+1,by omega,by go_num,E2.out,(E4.out.setCell (Nat.le_refl _) _).drew⟩,by simp[intOf];omega⟩
  ·obtain rfl:j=k:=by omega
   have hfull:fF l m j=xorl l m:=by rw[←hk,←hl,←hl',qF]
   rw[hfull]at hblk;have hxl:(xorl l m).length=j:=by rw[bz,hl,hl',hk]
   have hown:=Own8.blk (B:=w.heap.size) hblk j (Nat.le_refl _) (by omega) (by unfold maxLen;omega);rw[List.take_of_length_le (by omega),hxl]at hown;have E:=hid hown;have E4:=hid hbel;clear hown hblk hbel hl hl' hk hr hs hmk hki hfull hxl;go_wp2;go_ret;exact⟨_,rfl,E.out,E4.out⟩
open Go.RowKit
theorem Own8.base {w:World} {B B':Nat} {e:TypeId} {v:Value} {l:Y8}(h:Own8 w B e v l)(hb:B'≤B):Own8 w B' e v l:=
 ⟨h.1,h.2.imp id fun⟨g,cap,cur,h1,h2,h3⟩=>⟨g,cap,cur,h1,Nat.le_trans hb h2,h3⟩⟩
theorem Own8.grown {w w':World} {B g:Nat} {e:TypeId} {v:Value} {l:Y8}(h:Own8 w B e v l)(hg:w.grownBy w' (some g))(hb:g<B):Own8 w' B e v l:=
 World.ownsRow.kept h hg (by
  cases hv:v.ownBlock with
  |none=>exact .inl rfl
  |some k=>
   refine .inr fun e=> ?_;have:=(World.ownsRow.lt h k hv).1;cases e;omega)
theorem Own8.apart {w:World} {B g:Nat} {e:TypeId} {v:Value} {l:Y8}(h:Own8 w B e v l)(hb:g<B):some g≠v.ownBlock:=by
 intro e;have:=(World.ownsRow.lt h g e.symm).1;omega
theorem aQ {P:Program} {a:Act} {w:World} {Q:Exit→Act→World→Prop} {c rest:Code}(l:Nat)(J:Act→World→Prop)(μ:Act→World→Nat)(hf:findLabel c l=some (Code.skip.seq rest))
  (first:(∀a w,J a w→rest.wp P (Exit.jump l J Q) a w)→c.wp P (Exit.jump l J Q) a w)
  (pass: ∀a w,J a w→rest.wp P (Exit.jump l (fun a' w' =>J a' w'∧μ a' w'<μ a w) Q) a w):(Code.scope c).wp P Q a w:=
 wp_scope_jumps l J μ hf (first fun a w hJ=>Code.wp_mono (fun e a' w' h=>by cases e<;>first|exact h|exact⟨h.1,h.2.1⟩) (pass a w hJ)) (fun a w hJ=>wp_seq (wp_skip (pass a w hJ)))
theorem aI {F:(Nat→Value)→Array Value}(t:Array Value)(h:t=F (fun i=>t.getD i undef)): ∃u,({tmps:=t,defers:=[]}:Act)={tmps:=F u,defers:=[]}:=⟨_,by rw[←h]⟩
section
variable {P:Program} {ops:Array Oper} {K:Act→World→Prop} {ks:List Nat} {l:List Oper} {a:Act} {w:World}
theorem dE {d:Option Tmp} {x y:Operand} {t ty e:TypeId} {pos:String} {after:Array Edge} {B:Nat} {v:Value} {m s:Y8} {sp:Option Addr} {n c:Nat}(hown:Own8 w B e v m)(hl:Rd8 w sp n c s)
  (hx:a.eval x=v) (hy:a.eval y= .slice sp n c) (ht:P.underlying t=some (.slice e)) (hi:(P.info? e).map (fun i=>(i.zero,i.size,i.bytes))=some (some (.int .u8 0),1,1)) (hb:m.length+n≤140737488355328) (hB:B≤w.heap.size)
  (h: ∀w1 v1,Own8 w1 B e v1 (m++s)→w.grownBy w1 v.ownBlock→Below B w w1→wpZ P ops K ks l (a.put d v1) w1):
  wpZ P ops K (2::ks) (⟨d,.call {callee:= .builtin .append,args:= #[x,y],argTypes:= #[t,t]},ty,pos,after,none⟩::l) a w:=by
 unfold wpZ opT;simp only[Region.wanted,if_true];obtain⟨v1,w1,hc,h1,h2,h3⟩:=oS (P:=P) w B t ty e ht hi v m hown sp n c s hl hb hB;have hr:(execOp a.eval ⟨d,.call {callee:= .builtin .append,args:= #[x,y],argTypes:= #[t,t]},ty,pos,after,none⟩).run P w= .ok (.value v1) w1:=by
  rw[BigFrame.execOp_builtin];simp only[BigFrame.builtin_append,List.map_toArray,List.map_cons,List.map_nil,hx,hy,Sem.run_bind,hc,Result.andThen_ok,Sem.run_pure]
 unfold Oper.wp;rw[hr];exact h _ _ h1 h2 h3
end
open Go.RowKit
section
variable {P:Program} {ops:Array Oper} {K:Act→World→Prop} {ks:List Nat} {l:List Oper} {a:Act} {w:World}
theorem qG(w:World)(t e:TypeId)(hu:P.underlying t=some (.slice e))(hi:(P.info? e).map (fun i=>(i.zero,i.size,i.bytes))=some (some (.int .u8 0),1,1)):
  (Instr.buildSlice t 0 #[]).run P w= .ok (.slice (some ⟨w.heap.size,0,none⟩) 0 0) (w.alloc (.cells #[] e)):=by
 obtain⟨i,hi,_,_,_⟩:=info_parts hi;simp[Instr.buildSlice,run_underlying hu,sizeOf,typeInfo,hi,newRow,Instr.fill];congr 2;apply Array.eq_empty_of_size_eq_zero;simp
theorem vB {d:Option Tmp} {t ty e:TypeId} {pos:String} {after:Array Edge} {B:Nat}(hB:B≤w.heap.size)(ht:P.underlying t=some (.slice e))(hi:(P.info? e).map (fun i=>(i.zero,i.size,i.bytes))=some (some (.int .u8 0),1,1))
  (h: ∀w1 v1,Own8 w1 B e v1 []→Below w.heap.size w w1→wpZ P ops K ks l (a.put d v1) w1):
  wpZ P ops K (2::ks) (⟨d,.buildSlice t 0 #[],ty,pos,after,none⟩::l) a w:=by
 unfold wpZ opT;simp only[Region.wanted,if_true];have hr:(execOp a.eval ⟨d,.buildSlice t 0 #[],ty,pos,after,none⟩).run P w= .ok (.value (.slice (some ⟨w.heap.size,0,none⟩) 0 0)) (w.alloc (.cells #[] e)):=by
  simp[execOp,qG w t e ht hi]
 unfold Oper.wp;rw[hr];refine h _ _ ?_ ((Below.refl _ _).alloc (Nat.le_refl _) _);exact World.ownsRow_made w #[] 0 hB (by unfold maxLen;omega) (by simp)
end
theorem Rd8.pre {w:World} {a:Option Addr} {n c:Nat} {l:Y8}(h:Rd8 w a n c l) {j:Nat}(hj:j≤n):Rd8 w a j c (l.take j):=
 ⟨by rw[List.length_take,h.1];omega,by have:=h.2.1;omega,h.2.2.1,fun hn=>by
  obtain⟨b,o,ha,hb,hc⟩:=h.2.2.2 (by omega);exact⟨b,o,ha,hb,fun i hi=>by rw[hc i (by omega),aJ _ _ _ hi]⟩⟩
theorem Own8.rdAt {w:World} {B n c:Nat} {e:TypeId} {a:Option Addr} {l:Y8}(h:Own8 w B e (.slice a n c) l):Rd8 w a n c l:=by
 obtain⟨a',c',he,hr,_⟩:=h.rd;cases he;exact hr
theorem Own8.form {w:World} {B:Nat} {e:TypeId} {v:Value} {l:Y8}(h:Own8 w B e v l)(hn:0<l.length):
  ∃g cap,v= .slice (some ⟨g,0,none⟩) l.length cap∧B≤g∧g<w.heap.size:=by
 rcases h.2 with⟨_,h0⟩|⟨g,cap,cur,hv,hb,hg,_⟩
 ·omega
 ·exact⟨g,cap,hv,hb,(Array.getElem?_eq_some_iff.1 hg).1⟩
theorem Own8.cell {w:World} {B g cap:Nat} {e:TypeId} {l:Y8}(h:Own8 w B e (.slice (some ⟨g,0,none⟩) l.length cap) l)(j:Nat)(hj:j<l.length):w.cell? ⟨g,j,none⟩=some (v8 (nth l j)):=by
 rw[World.ownsRow.cellAt h j (by omega),List.getElem?_map,dv hj];rfl
theorem Own8.frozen {w:World} {B g cap:Nat} {e:TypeId} {l:Y8}(h:Own8 w B e (.slice (some ⟨g,0,none⟩) l.length cap) l)(j:Nat):w.frozen? ⟨g,j,none⟩=false:=World.ownsRow.frozenAt h j
theorem Own8.stored {w:World} {B g cap:Nat} {e:TypeId} {l:Y8}(h:Own8 w B e (.slice (some ⟨g,0,none⟩) l.length cap) l)(j:Nat)(x:BitVec 8):
  Own8 (w.setCell ⟨g,j,none⟩ (v8 x)) B e (.slice (some ⟨g,0,none⟩) l.length cap) (l.set j x)∧w.grownBy (w.setCell ⟨g,j,none⟩ (v8 x)) (some g):=by
 obtain⟨h1,h2⟩:=World.ownsRow.stored h j (v8 x);refine⟨?_,h2⟩;unfold Own8;rw[List.length_set,List.map_set];exact h1
open Go.RowKit
section
variable {P:Program} {ops:Array Oper} {K:Act→World→Prop} {ks:List Nat} {l:List Oper} {o:Oper} {a:Act} {w w1:World} {v:Value}
theorem kR(hg:o.guard=none)(hr:(execOp a.eval o).run P w= .ok (.value v) w1)(h:wpZ P ops K ks l (a.put o.dst v) w1):wpZ P ops K (2::ks) (o::l) a w:=by
 unfold wpZ opT;simp only[Region.wanted,hg,if_true];unfold Oper.wp;rw[hr];exact h
theorem qH {d:Option Tmp} {x y:Operand} {t ty e:TypeId} {pos:String} {after:Array Edge} {m s:Y8} {sp sq:Option Addr} {n c n' c':Nat}(hm:Rd8 w sp n c m)(hl:Rd8 w sq n' c' s)
  (hx:a.eval x= .slice sp n c) (hy:a.eval y= .slice sq n' c') (ht:P.underlying t=some (.slice e)) (hi:(P.info? e).map (fun i=>(i.zero,i.size,i.bytes))=some (some (.int .u8 0),1,1)) (hn:0<n) (hn':0<n') (hc:c<n+n') (hb:n+n'≤140737488355328)
  (h: ∀w1 v1,Own8 w1 w.heap.size e v1 (m++s)→Below w.heap.size w w1→wpZ P ops K ks l (a.put d v1) w1):
  wpZ P ops K (2::ks) (⟨d,.call {callee:= .builtin .append,args:= #[x,y],argTypes:= #[t,t]},ty,pos,after,none⟩::l) a w:=by
 unfold wpZ opT;simp only[Region.wanted,if_true];obtain⟨v1,w1,hc,h1,h2⟩:=nW (P:=P) w t ty e ht hi sp n c m hm hn sq n' c' s hl hn' hc hb;have hr:(execOp a.eval ⟨d,.call {callee:= .builtin .append,args:= #[x,y],argTypes:= #[t,t]},ty,pos,after,none⟩).run P w= .ok (.value v1) w1:=by
  rw[BigFrame.execOp_builtin];simp only[BigFrame.builtin_append,List.map_toArray,List.map_cons,List.map_nil,hx,hy,Sem.run_bind,hc,Result.andThen_ok,Sem.run_pure]
 unfold Oper.wp;rw[hr];exact h _ _ h1 h2
end
open Go.RowKit
section
variable {P:Program}
end
section
variable {P:Program} {ops:Array Oper} {K:Act→World→Prop} {ks:List Nat} {l:List Oper} {a:Act} {w:World}
theorem Own8.kept {w w':World} {B:Nat} {e:TypeId} {v:Value} {m:Y8} {row:Option Nat}(h:Own8 w B e v m)(hg:w.grownBy w' row)(hne:v.ownBlock=none∨v.ownBlock≠row):Own8 w' B e v m:=World.ownsRow.kept h hg hne
end
open Go.RowKit
theorem fG {P:Program}(w:World)(B:Nat)(t ty e:TypeId)(i:TypeInfo)(z:Value)(size bytes:Nat)(ht:P.underlying t=some (.slice e))(hi:P.info? e=some i)(hz:i.zero=some z)(hs:i.size=size)(hby:i.bytes=bytes)(hzs:z.cells.size=size)(hsz:0<size)
  (v:Value) (n:Nat) (xs:List Value) (hown:w.ownsRow B e size v n xs) (ad:Addr) (m c:Nat) (news:List Value) (hl:news.length=m*size) (hnews: ∀j u,news[j]? =some u→w.cell? (ad.add j)=some u) (h1: ∀u∈news,u.oneCell' =true)
  (h63:n+m≤maxLen) (hbytes:(n+m)*bytes≤140737488355328) (hbase:B≤w.heap.size):
  ∃v' w',(Builtin.append_ #[t,t] ty #[v,.slice (some ad) m c]).run P w= .ok v' w'∧w'.ownsRow B e size v' (n+m) (xs++news)∧w.grownBy w' v.ownBlock∧(∀k,v'.ownBlock=some k→v.ownBlock=some k∨w.heap.size≤k):=by
 rcases id hown.2 with⟨rfl,rfl⟩|⟨g,cap,cur,rfl,hbg,hg,hnc,hcm,hcs,htake⟩
 ·have hx0:xs=[]:=List.eq_nil_of_length_eq_zero (by rw[hown.1,Nat.zero_mul]);subst hx0;obtain⟨v',w',r1,r2,r3,_⟩:=run_append_own (P:=P) w w.heap.size t ty e i z size bytes ht hi hz hs hby hzs hsz (.slice none 0 0) 0 [] (World.ownsRow_nil _ _ _ _) ad m c news hl hnews h1 h63 hbytes (Nat.le_refl _);exact⟨v',w',r1,⟨r2.1,r2.2.imp id fun⟨g,cap,cur,h3,h4,h5⟩=>⟨g,cap,cur,h3,Nat.le_trans hbase h4,h5⟩⟩,r3,fun k hk=> .inr (World.ownsRow.lt r2 k hk).1⟩
 ·obtain⟨v',w',r1,r2,r3,_⟩:=run_append_own (P:=P) w B t ty e i z size bytes ht hi hz hs hby hzs hsz _ n xs hown ad m c news hl hnews h1 h63 hbytes hbase;refine⟨v',w',r1,r2,r3,fun k hk=> ?_⟩;by_cases hroom:n+m≤cap
  ·have hq:=run_append_room (P:=P) w t ty e i ht hi g n cap cur hg ad m c news (by rw[hs];exact hl) hnews h1 hroom (by rw[hs,hl,hcs,←Nat.add_mul];exact Nat.mul_le_mul_right _ hroom);rw[hq]at r1;cases r1;exact .inl hk
  ·have hq:=run_append_grow (P:=P) w t ty e i z ht hi hz ⟨g,0,none⟩ n cap xs (by rw[hs];exact hown.1) (hown.cells (g:=g) rfl) ad m c news (by rw[hs];exact hl) hnews (by omega) (by unfold maxLen at h63;omega) (by rw[hby];exact growslice_fits (by omega) hbytes);rw[hq]at r1;cases r1;simp only[Value.ownBlock,Option.some.injEq]at hk;exact .inr (by omega)
end Go.Proofs.YtlpkfdkhlffmlaaGreatDoor
