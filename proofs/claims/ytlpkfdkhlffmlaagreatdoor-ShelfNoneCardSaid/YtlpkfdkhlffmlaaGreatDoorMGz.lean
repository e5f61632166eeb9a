/-whole numbers as floats:what the cuts ask of them,to 520-/
import Derived.Laws.FloatArith
import Derived.Laws.Cover3
import Derived.Test.YtlpkfdkhlffmlaaGreatDoorMGa
import Derived.Test.YtlpkfdkhlffmlaaGreatDoorMGb
import Derived.Lib.AppendZerosOnto
import Derived.WalkKit
import Derived.Lib.Walk
import Derived.Lib.SliceRun
namespace Go.Proofs.YtlpkfdkhlffmlaaGreatDoor
open Go.Proofs.Tryz
open Lib (hid)
set_option linter.unusedSimpArgs false
set_option linter.unusedVariables false
set_option maxRecDepth 100000
set_option maxHeartbeats 1600000
open Go.RowKit
def flt(n:Nat):Nat:=floatOfInt .f64 (n:Int)
def leF(a b:Nat):Bool:=FloatKind.f64.format.order a b==some .lt||FloatKind.f64.format.order a b==some .eq
def geF(a b:Nat):Bool:=FloatKind.f64.format.order a b==some .gt||FloatKind.f64.format.order a b==some .eq
def eqF(a b:Nat):Bool:=FloatKind.f64.format.order a b==some .eq
def okF(n:Nat):Bool:=floatToIntVal .f64 (flt n) .i64==some (n:Int)&&geF (flt n) 0&&leF (flt n) (flt n)&&eqF (flt n) (flt n)&&(n<16||(leF (flt 16) (flt n)&&leF (flt (n-16)) (flt n)))&&leF (flt 0) (flt n)
def sZ(n:Nat):Bool:=match n with|0=>okF 0|n+1=>okF (n+1)&&sZ n
theorem px: ∀n i,sZ n=true→i≤n→okF i=true
 |0,i,h,hi=>by
  obtain rfl:i=0:=by omega
  exact h
 |n+1,i,h,hi=>by
  simp only[sZ,Bool.and_eq_true]at h;by_cases e:i=n+1
  ·rw[e];exact h.1
  ·exact px n i h.2 (by omega)
theorem Bz:sZ 520=true:=by kernel_rfl
theorem ol(n:Nat)(h:n≤520):floatToIntVal .f64 (flt n) .i64=some (n:Int)∧geF (flt n) 0=true∧leF (flt n) (flt n)=true∧eqF (flt n) (flt n)=true∧(16≤n→leF (flt 16) (flt n)=true∧leF (flt (n-16)) (flt n)=true)∧leF (flt 0) (flt n)=true:=by
 have h1:=px 520 n Bz h;simp only[okF,Bool.and_eq_true,Bool.or_eq_true,beq_iff_eq,decide_eq_true_eq]at h1;obtain⟨⟨⟨⟨⟨a,b⟩,c⟩,d⟩,e⟩,f⟩:=h1;refine⟨a,b,c,d,fun h16=> ?_,f⟩;rcases e with e|e
 ·omega
 ·exact e
open Go.RowKit
theorem ju(l:Y8)(a:Option Addr)(n c:Nat)(w:World)(hr:Rd8 w a n c l)(hsz:n≤70368744177664):
  Calls prog 143 #[.slice a n c] w fun e w' => ∃v,e= .returned v∧Own8 w' w.heap.size 5 v l∧Below w.heap.size w w':=by
 have q22: ∀(w:World) (a:Option Addr) (n c n' c':Nat),(binOp .eql 22 (.slice a n c) (.slice none n' c')).run prog w= .ok (.bool a.isNone) w:=fun w a n c n' c' =>Lib.run_eql_slice_nil w _ _ a n c n' c' underlying22;cases a with
 |none=>
  have h0:n=0:=by
   by_cases h:0<n
   ·obtain⟨b,o,he,_⟩:=hr.2.2.2 h;cases he
   ·omega
  have hl:l=[]:=List.length_eq_zero_iff.1 (by rw[hr.1,h0]);subst hl;clear hr;go_enter func143,ntmps143;go_wp2;go_ret;exact⟨_,rfl,⟨by simp,.inl ⟨rfl,rfl⟩⟩,Below.refl _ _⟩
 |some ad=>
  have R:=hid hr;clear hr;go_enter func143,ntmps143;go_upto_region 3 with fail;refine aq [2,0,2,0] rfl (fun ops' K4 hK4=> ?_);refine vB (B:=w.heap.size) (Nat.le_refl _) underlying22 bQ (fun w4 v4 ho4 hb4=> ?_);simp only[Act.put,zz1,zz2,zz3]
  repeat (first|((with_reducible refine zq0 ?_);refine zq0a ?_)|((with_reducible refine zq1 ?_);refine zq1a ?_))
  refine dE ho4 (R.out.below hb4) rfl rfl underlying22 bQ (by simp;omega) (by exact hb4.size) (fun w5 v5 o5 g5 b5=> ?_);simp only[Act.put,zz1,zz2,zz3]
  repeat (first|((with_reducible refine zq0 ?_);refine zq0a ?_)|((with_reducible refine zq1 ?_);refine zq1a ?_))
  refine ak (hK4 _ _ ?_);rw[List.nil_append]at o5;have B5:=hb4.trans b5;clear hK4 ho4 hb4 g5 b5;go_wp2;go_ret;exact⟨_,rfl,o5,B5⟩
theorem wj(n:Nat)(w:World)(hsz:n≤140737488355328):
  Calls prog 128 #[.slice none 0 0,.int .i64 n] w fun e w' => ∃v,e= .returned v∧Own8 w' w.heap.size 5 v []∧Below w.heap.size w w':=by
 have f1:IntKind.i64.wrap (n:Int)=(n:Int):=by rw[IntKind.wrap_i64];omega
 have f0:(n:Int)-0=(n:Int):=by omega
 have m1: ¬(n:Int)<0:=by omega
 by_cases hn:n=0
 ·subst hn;go_enter func128,ntmps128;go_wp2;go_ret;exact⟨_,rfl,⟨by simp,.inl ⟨rfl,rfl⟩⟩,Below.refl _ _⟩
 ·have m2:(0:Int)<(n:Int):=by omega
  obtain⟨i0,hi0,hz0,hs0,hb0⟩:=info_parts (P:=prog) (e:=5) bQ;obtain⟨G,hG⟩: ∃G,G=grownCap w n 0 5:=⟨_,rfl⟩;have hGn:n≤G:=by rw[hG];exact grownCap_ge w _ _ _
  have hGm:G≤maxLen:=by rw[hG];exact grownCap_le_maxLen w n 0 5 (by unfold maxLen;omega)
  have hrz: ∀ty,(Builtin.append_ #[22,3] ty #[.slice none 0 0,.int .i64 n]).run prog w= .ok (.slice (some ⟨w.heap.size,0,none⟩) n G) (w.drew.alloc (.cells (Builtin.zeroCells (Value.int .u8 0).cells n++Builtin.zeroCells (Value.int .u8 0).cells (G-n)) 5)):=fun ty=>by
   have h:=Lib.run_append_grow_zeros w 22 3 ty 5 i0 (.int .u8 0) .i64 .i64 underlying22 underlying3 hi0 hz0 none 0 0 [] (run_firstCells_none w.drew i0.size 0 0 0) n (by omega) (by omega) (by omega) (by omega) (by rw[hb0];omega) (by
    exact growslice_fits (need:=0+n) (old:=0) (bytes:=i0.bytes) (by omega) (by rw[hb0];omega))
   simp only[Nat.zero_add,List.nil_append]at h;rw[←hG]at h;simpa using h
  obtain⟨cur,hcur⟩: ∃cur,cur=Builtin.zeroCells (Value.int .u8 0).cells n++Builtin.zeroCells (Value.int .u8 0).cells (G-n):=⟨_,rfl⟩;have hcs:cur.size=G*1:=by
   rw[hcur,Array.size_append,size_zeroCells,size_zeroCells,show(Value.int .u8 0).cells.size=1 from rfl];omega
  rw[←hcur]at hrz;have own:Own8 (w.drew.alloc (.cells cur 5)) w.heap.size 5 (.slice (some ⟨w.heap.size,0,none⟩) 0 G) []:=World.ownsRow_made w.drew cur G (Nat.le_refl _) hGm hcs;have O:=hid own;have hG0:(0:Int)≤(G:Int):=by omega
  have hGx:G≤9223372036854775807:=by unfold maxLen at hGm;omega
  clear own hcs hcur hG;go_enter func128,ntmps128;go_wp2_with (at_builtin;refine Lib.wpList_append_run _ rfl _ _ _ _ rfl _ _ rfl rfl _ _ (hrz _) ?_)
  all_goals (go_ret;exact⟨_,rfl,O.out,((Below.refl _ w).drew).alloc (Nat.le_refl _) _⟩)
def ct(Ls:List (Y8))(j:Nat):Y8:=(Ls.take j).flatten
theorem jX(Ls:List (Y8))(j:Nat)(h:j<Ls.length):ct Ls (j+1)=ct Ls j++Ls.getD j []:=by
 unfold ct;rw[List.take_add_one,List.flatten_append];simp[List.getD_eq_getElem?_getD,h]
theorem pz(Ls:List (Y8)):ct Ls Ls.length=Ls.flatten:=by
 unfold ct;rw[List.take_length]
theorem jv(Ls:List (Y8))(j:Nat):(ct Ls j).length≤Ls.flatten.length:=by
 unfold ct
 conv=>rhs;rw[←List.take_append_drop j Ls]
 rw[List.flatten_append,List.length_append];omega
structure SlsAt(w:World)(cs:Array Value)(Ls:List (Y8)):Prop where
 size:cs.size=Ls.length
 row: ∀j,j<Ls.length→ ∃a n c,cs[j]? =some (.slice a n c)∧Rd8 w a n c (Ls.getD j [])
theorem SlsAt.below {w w':World} {cs:Array Value} {Ls:List (Y8)}(h:SlsAt w cs Ls)(hb:Below w.heap.size w w'):SlsAt w' cs Ls:=
 ⟨h.size,fun j hj=>by
  obtain⟨a,n,c,h1,h2⟩:=h.row j hj;exact⟨a,n,c,h1,h2.below hb⟩⟩
theorem ie(g:Nat)(cs:Array Value)(Ls:List (Y8))(k:Nat)(w:World)(hk:Blk w g 22 cs)(hS:SlsAt w cs Ls)(hkl:Ls.length=k)(hk1:k≤1000)(hsz:Ls.flatten.length≤70368744177664):
  Calls prog 90 #[.slice (some ⟨g,0,none⟩) k k] w fun e w' => ∃v,e= .returned v∧Own8 w' w.heap.size 5 v Ls.flatten∧Below w.heap.size w w':=by
 have HK:=hid hk;have HS:=hid hS;clear hk hS;go_enter func90,ntmps90;go_wp2_with fail;go_loopw [3,11] (fun s i wr=> ∃j:Nat,j≤k∧i= .int .i64 j∧s= .int .i64 ((ct Ls j).length:Nat)∧w=wr) (fun _ i _=>k-(intOf i).toNat)
 case atStart=>exact⟨0,Nat.zero_le _,rfl,rfl,rfl⟩
 case round=>
  obtain⟨j,hj,rfl,rfl,rfl⟩:=hrel;have hle:=jv Ls j;obtain⟨S,hS⟩: ∃S,S=(ct Ls j).length:=⟨_,rfl⟩;rw[←hS]at hle⊢;by_cases hjk:j<k
  ·obtain⟨a,n,c,h1,h2⟩:=HS.out.row j (by omega);have c1:w.cell? ⟨g,j,none⟩=some (.slice a n c):=by rw[HK.out.cell,h1]
   have hle2:=jv Ls (j+1);obtain⟨T,hT⟩: ∃T,T=S+n:=⟨_,rfl⟩;have hT2:(ct Ls (j+1)).length=T:=by rw[jX _ _ (by omega),List.length_append,h2.1,hT,hS]
   rw[hT2]at hle2;have t1:(S:Int)+(n:Int)=(T:Int):=by omega
   have t2:IntKind.i64.wrap (T:Int)=(T:Int):=by rw[IntKind.wrap_i64];omega
   have t3: ¬(T:Int)<0:=by omega
   have j1:(j:Int)<(k:Int):=by omega
   have j0:(0:Int)≤(j:Int):=by omega
   have HT2:=hid hT2;clear hT2 hT hS h1 h2;go_wp2;exact⟨⟨j+1,by omega,by go_num,by rw[HT2.out],trivial⟩,by simp[intOf];omega⟩
  ·obtain rfl:j=k:=by omega
   have hSz:S≤140737488355328:=by omega
   clear hS;go_wp2_with fail;refine(wj S w hSz).mono ?_;rintro e w1 ⟨v,rfl,own,d1⟩;have O1:=hid own;have D1:=hid d1;clear own d1;go_wp2_with fail;go_loopw [6,27] (fun v i wr=> ∃q:Nat,q≤j∧i= .int .i64 q∧Own8 wr w.heap.size 5 v (ct Ls q)∧Below w.heap.size w wr) (fun _ i _=>j-(intOf i).toNat)
   case atStart=>exact⟨0,Nat.zero_le _,rfl,O1.out,D1.out⟩
   case round=>
    obtain⟨q,hq,rfl,hO,hB⟩:=hrel;have O2:=hid hO;have B2:=hid hB;clear hO hB O1 D1;by_cases hqj:q<j
    ·obtain⟨a,n,c,h1,h2⟩:=(HS.out.below B2.out).row q (by omega);have c1:wr.cell? ⟨g,q,none⟩=some (.slice a n c):=by rw[(HK.out.belowAll B2.out).cell,h1]
     have hle2:=jv Ls (q+1);have hT2:(ct Ls (q+1))=ct Ls q++Ls.getD q []:=jX _ _ (by omega);have hl2:(ct Ls q).length+n≤140737488355328:=by rw[hT2,List.length_append,h2.1]at hle2;omega
     have j1:(q:Int)<(j:Int):=by omega
     have j0:(0:Int)≤(q:Int):=by omega
     have HT2:=hid hT2;have H2:=hid h2;have HL2:=hid hl2;clear hT2 h1 h2 hle2 hl2;go_upto_region 13 with fail;refine aq [0,0,2,0] rfl (fun ops' K2 hK2=> ?_)
     repeat (first|((with_reducible refine zq0 ?_);refine zq0a ?_)|((with_reducible refine zq1 ?_);refine zq1a ?_))
     refine dE O2.out H2.out rfl rfl underlying22 bQ HL2.out B2.out.size (fun w5 v5 o5 g5 b5=> ?_);simp only[Act.put,zz1,zz2,zz3]
     repeat (first|((with_reducible refine zq0 ?_);refine zq0a ?_)|((with_reducible refine zq1 ?_);refine zq1a ?_))
     refine ak (hK2 _ _ ?_);rw[←HT2.out]at o5;have B5:=B2.out.trans b5;clear g5 b5;go_wp2;exact⟨⟨q+1,by omega,by go_num,o5,B5⟩,by simp[intOf];omega⟩
    ·obtain rfl:q=j:=by omega
     have o2:=O2.out;rw[show ct Ls q=Ls.flatten by rw[←hkl,pz]]at o2;have O3:=hid o2;clear o2;go_wp2;go_ret;exact⟨_,rfl,O3.out,B2.out⟩
open Go.RowKit
theorem lE(X N p:Nat)(w:World)(hp:w.cell? ⟨p,0,none⟩=some (.int .i64 N))(hX:X≤520)(h1:leF (flt X) (flt N)=true):
  Calls prog 201 #[.float .f64 (flt X),.pointer (some ⟨p,0,none⟩)] w fun e w' =>e= .returned (.bool true)∧w=w':=by
 obtain⟨q1,q2,q3,q4,q5,q6⟩:=ol X hX;have e1:floatOfInt .f64 (X:Int)=flt X:=rfl;obtain⟨C,hC⟩: ∃C,C=flt X:=⟨_,rfl⟩;have e2:floatOfInt .f64 (N:Int)=flt N:=rfl;obtain⟨D,hD⟩: ∃D,D=flt N:=⟨_,rfl⟩;rw[←hC]at q1 q2 q3 q4 q6 e1 h1⊢;rw[←hD]at e2 h1;have f1: ∀t,binOp .geq t (.float .f64 C) (.float .f64 0)=pure (.bool true):=fun t=>by
  rw[binOp_float_cmp_geq];exact congrArg (fun b=>pure (Value.bool b)) q2
 have f2: ∀t,binOp .leq t (.float .f64 C) (.float .f64 D)=pure (.bool true):=fun t=>by
  rw[binOp_float_cmp_leq];exact congrArg (fun b=>pure (Value.bool b)) h1
 have f3: ∀t,binOp .eql t (.float .f64 C) (.float .f64 C)=pure (.bool true):=fun t=>by
  rw[binOp_float_cmp_eql];exact congrArg (fun b=>pure (Value.bool b)) q4
 have f4: ∀w,(convert 297 3 (.float .f64 C)).run prog w= .ok (.int .i64 (X:Int)) w:=fun w=>run_convert_float_int w _ _ .f64 .i64 C X (by kernel_rfl) underlying3 q1;clear q1 q2 q3 q4 q5 q6 h1 hC hD;go_enter func201,ntmps201;go_wp2;go_ret;exact⟨rfl,rfl⟩
theorem uf(A M n:Nat)(w:World)(hA:A+M≤n)(hn:n≤520)(h1:leF (flt A) (flt n)=true)(h2:leF (flt M) (flt n)=true):
  Calls prog 198 #[.complex .f64 (flt A) (flt M),.int .i64 n] w fun e w' =>e= .returned (.tuple #[.int .i64 A,.int .i64 M,.bool true])∧Below w.heap.size w w':=by
 obtain⟨W,hW⟩: ∃W,(w.alloc (.cells #[.int .i64 n] 3))=W:=⟨_,rfl⟩;obtain⟨b0,hb,hz⟩:=new1 _ _ _ _ hW;have c0:W.cell? ⟨w.heap.size,0,none⟩=some (.int .i64 n):=b0.cell 0;have cA:=fun(w1:World) (hc:w1.cell? ⟨w.heap.size,0,none⟩=some (.int .i64 n))=>lE A n w.heap.size w1 hc (by omega) h1;have cM:=fun(w1:World) (hc:w1.cell? ⟨w.heap.size,0,none⟩=some (.int .i64 n))=>lE M n w.heap.size w1 hc (by omega) h2;have qA:=(ol A (by omega)).1;have qM:=(ol M (by omega)).1;obtain⟨C,hC⟩: ∃C,C=flt A:=⟨_,rfl⟩;obtain⟨D,hD⟩: ∃D,D=flt M:=⟨_,rfl⟩;rw[←hC]at qA cA⊢;rw[←hD]at qM cM⊢;have f4: ∀w,(convert 297 3 (.float .f64 C)).run prog w= .ok (.int .i64 (A:Int)) w:=fun w=>run_convert_float_int w _ _ .f64 .i64 C A (by kernel_rfl) underlying3 qA;have f5: ∀w,(convert 297 3 (.float .f64 D)).run prog w= .ok (.int .i64 (M:Int)) w:=fun w=>run_convert_float_int w _ _ .f64 .i64 D M (by kernel_rfl) underlying3 qM;obtain⟨E,hE⟩: ∃E,E=n-A:=⟨_,rfl⟩;have g1:(n:Int)-(A:Int)=(E:Int):=by omega
 have g2:IntKind.i64.wrap (E:Int)=(E:Int):=by rw[IntKind.wrap_i64];omega
 have g3: ¬(E:Int)<(M:Int):=by omega
 have B0:=hid hb;have CA:=hid cA;have CM:=hid cM;clear qA qM hC hD h1 h2 hE hb hz b0 cA cM;go_enter func198,ntmps198;go_wp2_with fail;refine(CA.out _ c0).mono ?_;rintro e w1 ⟨rfl,rfl⟩;go_wp2_with fail;refine(CM.out _ c0).mono ?_;rintro e w1 ⟨rfl,rfl⟩;go_wp2
 go_ret3
 exact⟨rfl,B0.out⟩
theorem wk(l:Y8)(a:Option Addr)(n c A M:Nat)(w:World)(hr:Rd8 w a n c l)(hA:A+M≤n)(hn:n≤520)(h1:leF (flt A) (flt n)=true)(h2:leF (flt M) (flt n)=true):
  Calls prog 199 #[.slice a n c,.complex .f64 (flt A) (flt M)] w fun e w' => ∃v,e= .returned (.tuple #[v,.bool true])∧Own8 w' w.heap.size 5 v ((l.drop A).take M)∧Below w.heap.size w w':=by
 have hwh:=uf A M n w hA hn h1 h2;obtain⟨C,hC⟩: ∃C,C=flt A:=⟨_,rfl⟩;obtain⟨D,hD⟩: ∃D,D=flt M:=⟨_,rfl⟩;rw[←hC,←hD]at hwh;rw[←hC,←hD];have R:=hid hr;have HW:=hid hwh;have hnc:=hr.2.1;obtain⟨T,hT⟩: ∃T,T=A+M:=⟨_,rfl⟩;have g1:(A:Int)+(M:Int)=(T:Int):=by omega
 have g2:IntKind.i64.wrap (T:Int)=(T:Int):=by rw[IntKind.wrap_i64];omega
 have g3:(0:Int)≤(A:Int):=by omega
 have g4:(A:Int)≤(T:Int):=by omega
 have g5:(T:Int)≤(c:Int):=by omega
 have HT:=hid hT;clear hC hD h1 h2 hr hwh hT;go_enter func199,ntmps199;go_wp2_with fail;refine HW.out.mono ?_;rintro e w1 ⟨rfl,d1⟩;have HC:=hid ((R.out.below d1).cut (j:=A) (k:=T) (by have:=HT.out;omega) (by have:=HT.out;omega));have hsz:T-A≤70368744177664:=by have:=HT.out;omega
 have D1:=hid d1;clear d1;go_wp2_with fail
 all_goals
  have hc:=HC.out
  first
   |(rw[if_neg (by assumption)]at hc)
   |(rw[if_neg (fun e=>by have:=e.symm;contradiction)]at hc)
   |(rw[if_pos (by omega),show c-A=0 by omega]at hc)
  refine(ju _ _ (T-A) _ w1 hc hsz).mono ?_;rintro e w2 ⟨v,rfl,ho,d2⟩;have hv:(l.take T).drop A=(l.drop A).take M:=by rw[List.drop_take,HT.out,Nat.add_sub_cancel_left]
  rw[hv]at ho;have O2:=hid (Own8.base ho D1.out.size);have D2:=hid (D1.out.trans (d2.mono D1.out.size));clear ho d2 hc hv;go_wp2;go_ret2;exact⟨_,rfl,O2.out,D2.out⟩
end Go.Proofs.YtlpkfdkhlffmlaaGreatDoor
