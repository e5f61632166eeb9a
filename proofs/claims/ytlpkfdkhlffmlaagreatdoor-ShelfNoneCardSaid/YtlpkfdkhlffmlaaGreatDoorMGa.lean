/-
  Words that all walks of this seat share:numbers of 8,32 and 64 bits as bit vectors behind plain definitions,and what the operations make of them. No program in sight.
-/
import Derived.WalkKit
import Derived.Lib.Hide
import Derived.Lib.MinMax
import Derived.Laws.CopyOwn
import Derived.Laws.EntriesVeiled
import Derived.Test.YtlpkfdkhlffmlaaGreatDoorRows
import Derived.Laws.OwnMore
namespace Go.Proofs.YtlpkfdkhlffmlaaGreatDoor
open Go.Proofs.Tryz
set_option linter.unusedSimpArgs false
set_option linter.unusedVariables false
set_option maxRecDepth 100000
set_option maxHeartbeats 1600000
abbrev Y8:=List (BitVec 8)
universe u
theorem zz1 {α:Type u}(l:List α)(i:Nat)(a:α):l.toArray.setIfInBounds i a=(l.set i a).toArray:=List.setIfInBounds_toArray l i a
theorem zz2 {α:Type u} {x:α} {xs:List α} {i:Nat} {a:α}:(x::xs).set (i+1) a=x::xs.set i a:=List.set_cons_succ
theorem zz3 {α:Type u} {x:α} {xs:List α} {a:α}:(x::xs).set 0 a=a::xs:=List.set_cons_zero
theorem zz4 {α:Type u} {xs:Array α} {i:Nat} {d:α}:xs.getD i d=xs[i]?.getD d:=Array.getD_eq_getD_getElem?
theorem zz5 {α:Type u} {xs:List α} {i:Nat}:xs.toArray[i]? =xs[i]?:=List.getElem?_toArray
theorem zz6 {α:Type u} {a:α} {i:Nat} {l:List α}:(a::l)[i+1]? =l[i]?:=List.getElem?_cons_succ
theorem zz7 {α:Type u} {a:α} {l:List α}:(a::l)[0]? =some a:=List.getElem?_cons_zero
theorem zz8 {α:Type u} {a b:α}:(some a).getD b=a:=Option.getD_some
open Go.RowKit
def v8(x:BitVec 8):Value:= .int .u8 (x.toNat:Int)
def v32(x:BitVec 32):Value:= .int .u32 (x.toNat:Int)
def v64(x:BitVec 64):Value:= .int .u64 (x.toNat:Int)
theorem bN(k:IntKind)(hk:k.signed=false)(n:Int):k.wrap n=((BitVec.ofInt k.bits n).toNat:Int):=by
 cases k<;>simp[IntKind.signed]at hk<;>simp[IntKind.wrap,IntKind.bits,IntKind.signed,BitVec.toNat_ofInt]<;>omega
theorem qw(n:Nat)(x y:Int):BitVec.ofInt n (x-y)=BitVec.ofInt n x-BitVec.ofInt n y:=by
 rw[Int.sub_eq_add_neg,BitVec.ofInt_add,BitVec.ofInt_neg,←BitVec.sub_eq_add_neg]
theorem ai(n:Nat)(x:BitVec n):BitVec.ofInt n (x.toNat:Int)=x:=by simp
def amt {n:Nat}(b:BitVec n):Nat:=b.toNat
def uv(k:IntKind)(x:BitVec k.bits):Value:= .int k (x.toNat:Int)
section
variable {k:IntKind} (hk:k.signed=false) (t:TypeId) (x y:Int) (a b:BitVec k.bits) (hx:BitVec.ofInt k.bits x=a) (hy:BitVec.ofInt k.bits y=b)
include hk hx hy
theorem nG:binOp .add t (.int k x) (.int k y)=pure (uv k (a+b)):=by
 subst hx hy;simp[binOp_add,Op.intArith,bN k hk,BitVec.ofInt_add,uv]
theorem sG:binOp .sub t (.int k x) (.int k y)=pure (uv k (a-b)):=by
 subst hx hy;simp[binOp_sub,Op.intArith,bN k hk,qw,uv,-BitVec.toNat_ofInt,-BitVec.toNat_sub]
theorem nH:binOp .mul t (.int k x) (.int k y)=pure (uv k (a*b)):=by
 subst hx hy;simp[binOp_mul,Op.intArith,bN k hk,BitVec.ofInt_mul,uv]
theorem ix:binOp .and t (.int k x) (.int k y)=pure (uv k (a&&&b)):=by
 subst hx hy;simp only[binOp_and,Op.intBits,bN k hk,uv,ai]
theorem qx:binOp .or t (.int k x) (.int k y)=pure (uv k (a|||b)):=by
 subst hx hy;simp only[binOp_or,Op.intBits,bN k hk,uv,ai]
theorem sH:binOp .xor t (.int k x) (.int k y)=pure (uv k (a^^^b)):=by
 subst hx hy;simp only[binOp_xor,Op.intBits,bN k hk,uv,ai]
end
theorem iy {k:IntKind}(hk:k.signed=false)(t:TypeId)(yk:IntKind)(a:BitVec k.bits)(n:Int)(hn:0≤n):binOp .shl t (uv k a) (.int yk n)=pure (uv k (a<<<n.toNat)):=by
 obtain⟨m,rfl⟩:=Int.eq_ofNat_of_zero_le hn;simp only[uv,binOp,Op.shift,if_neg (show¬(m:Int)<0 by omega),bN k hk];congr 3;rw[Int.toNat_natCast,show((a.toNat:Int)*2^min m k.bits)=((a.toNat*2^min m k.bits:Nat):Int) by simp];rw[BitVec.ofInt_natCast,BitVec.toNat_ofNat,BitVec.toNat_shiftLeft,Nat.shiftLeft_eq];by_cases h:m≤k.bits
 ·rw[Nat.min_eq_left h]
 ·rw[Nat.min_eq_right (by omega),Nat.mul_mod_left,show m=k.bits+(m-k.bits) by omega,Nat.pow_add,←Nat.mul_assoc,Nat.mul_right_comm,Nat.mul_mod_left]
theorem iz {k:IntKind}(t:TypeId)(yk:IntKind)(a:BitVec k.bits)(n:Int)(hn:0≤n):binOp .shr t (uv k a) (.int yk n)=pure (uv k (a>>>n.toNat)):=by
 obtain⟨m,rfl⟩:=Int.eq_ofNat_of_zero_le hn;simp only[uv,binOp,Op.shift,if_neg (show¬(m:Int)<0 by omega)];congr 2;rw[Int.toNat_natCast,BitVec.toNat_ushiftRight,Nat.shiftRight_eq_div_pow,Int.fdiv_eq_ediv_of_nonneg _ (by exact_mod_cast Nat.zero_le _)];have hp:(2:Int)^min m k.bits=((2^min m k.bits:Nat):Int):=by simp
 rw[hp,←Int.natCast_ediv];congr 1;by_cases h:m≤k.bits
 ·rw[Nat.min_eq_left h]
 ·have hb:=a.isLt;rw[Nat.min_eq_right (by omega),Nat.div_eq_of_lt hb,Nat.div_eq_of_lt (Nat.lt_of_lt_of_le hb (Nat.pow_le_pow_right (by omega) (by omega)))]
@[go_sem high] theorem Cc(t:TypeId)(a b:BitVec 8):binOp .mul t (v8 a) (v8 b)=pure (v8 (a*b)):=nH (k:= .u8) rfl t _ _ a b (ai 8 a) (ai 8 b)
@[go_sem high] theorem AL(t:TypeId)(a:BitVec 8)(m:Int):binOp .mul t (v8 a) (.int .u8 m)=pure (v8 (a*(BitVec.ofInt 8 m))):=nH (k:= .u8) rfl t _ _ a _ (ai 8 a) rfl
@[go_sem high] theorem vq(t:TypeId)(a b:BitVec 8):binOp .and t (v8 a) (v8 b)=pure (v8 (a&&&b)):=ix (k:= .u8) rfl t _ _ a b (ai 8 a) (ai 8 b)
@[go_sem high] theorem AM(t:TypeId)(a:BitVec 8)(m:Int):binOp .and t (v8 a) (.int .u8 m)=pure (v8 (a&&&(BitVec.ofInt 8 m))):=ix (k:= .u8) rfl t _ _ a _ (ai 8 a) rfl
@[go_sem high] theorem Cl(t:TypeId)(a b:BitVec 8):binOp .or t (v8 a) (v8 b)=pure (v8 (a|||b)):=qx (k:= .u8) rfl t _ _ a b (ai 8 a) (ai 8 b)
@[go_sem high] theorem Cd(t:TypeId)(a b:BitVec 8):binOp .xor t (v8 a) (v8 b)=pure (v8 (a^^^b)):=sH (k:= .u8) rfl t _ _ a b (ai 8 a) (ai 8 b)
@[go_sem high] theorem Ce(t:TypeId)(yk:IntKind)(a:BitVec 8)(m:Int)(hm:0≤m):binOp .shl t (v8 a) (.int yk m)=pure (v8 (a<<<m.toNat)):=iy (k:= .u8) rfl t yk a m hm
@[go_sem high] theorem Cf(t:TypeId)(yk:IntKind)(a:BitVec 8)(m:Int)(hm:0≤m):binOp .shr t (v8 a) (.int yk m)=pure (v8 (a>>>m.toNat)):=iz (k:= .u8) t yk a m hm
@[go_sem high] theorem yG(t:TypeId)(a b:BitVec 8):binOp .eql t (v8 a) (v8 b)=pure (.bool (a==b)):=by rw[v8,v8,binOp_eql];congr 2;rw[Bool.eq_iff_iff,beq_iff_eq,beq_iff_eq,Int.natCast_inj,BitVec.toNat_inj]
theorem yH(m:Nat)(h:m<2^8):Value.int .u8 (m:Int)=v8 (BitVec.ofNat 8 m):=by rw[v8,BitVec.toNat_ofNat,Nat.mod_eq_of_lt h]
@[go_sem high] theorem AN(t:TypeId)(a:BitVec 8)(m:Nat)(h:m<2^8):binOp .eql t (v8 a) (.int .u8 (no_index (OfNat.ofNat m)))=pure (.bool (a==BitVec.ofNat 8 m)):=by rw[←yG t a,←yH m h];rfl
@[go_sem high] theorem AO(op:BinOp)(t:TypeId)(x y:Operand)(a:BitVec 8)(v:Value):eqGuard op t x y (v8 a) v=pure ():=by unfold eqGuard v8;split<;>rfl
@[go_sem high] theorem vr(a:BitVec 8):(v8 a).cells= #[v8 a]:=rfl
@[go_sem high] theorem BS(a:BitVec 8):(v8 a).oneCell' =true:=rfl
@[go_sem high] theorem zT {P:Program}(w:World)(s d:TypeId)(m:Int)(hs:P.underlying s=some (.int .i64))(hd:P.underlying d=some (.int .u8)):(convert s d (.int .i64 m)).run P w= .ok (v8 (BitVec.ofInt 8 m)) w:=by simp[convert,run_underlying hs,run_underlying hd,v8,Conv.intToInt,bN .u8 rfl,-BitVec.toNat_ofInt];rfl
@[go_sem high] theorem vt {P:Program}(w:World)(a:Addr)(m:Mode)(n:BitVec 8):(store a (v8 n) m).run P w=stored P w a (v8 n) m:=run_store P w a _ m rfl
@[go_sem high] theorem zU(a:BitVec 8) {P:Program}(w:World)(s d:TypeId)(hs:P.underlying s=some (.int .u8))(hd:P.underlying d=some (.int .u32)):(convert s d (v8 a)).run P w= .ok (v32 (a.setWidth 32)) w:=by simp[convert,run_underlying hs,run_underlying hd,v8,v32,Conv.intToInt,bN .u32 rfl,IntKind.bits]
@[go_sem high] theorem yI(t:TypeId)(a:BitVec 8)(b:BitVec 64):binOp .shl t (v8 a) (v64 b)=pure (v8 (a<<<amt b)):=iy (k:= .u8) rfl t .u64 a (b.toNat:Int) (Int.natCast_nonneg _)
@[go_sem high] theorem yJ(t:TypeId)(a:BitVec 8)(b:BitVec 64):binOp .shr t (v8 a) (v64 b)=pure (v8 (a>>>amt b)):=iz (k:= .u8) t .u64 a (b.toNat:Int) (Int.natCast_nonneg _)
@[go_sem high] theorem zV(a:BitVec 8) {P:Program}(w:World)(s d:TypeId)(hs:P.underlying s=some (.int .u8))(hd:P.underlying d=some (.int .u64)):(convert s d (v8 a)).run P w= .ok (v64 (a.setWidth 64)) w:=by simp[convert,run_underlying hs,run_underlying hd,v8,v64,Conv.intToInt,bN .u64 rfl,IntKind.bits]
@[go_sem high] theorem BT(t:TypeId)(a b:BitVec 32):binOp .add t (v32 a) (v32 b)=pure (v32 (a+b)):=nG (k:= .u32) rfl t _ _ a b (ai 32 a) (ai 32 b)
@[go_sem high] theorem zW(t:TypeId)(a:BitVec 32)(m:Int):binOp .and t (v32 a) (.int .u32 m)=pure (v32 (a&&&(BitVec.ofInt 32 m))):=ix (k:= .u32) rfl t _ _ a _ (ai 32 a) rfl
@[go_sem high] theorem Cg(t:TypeId)(a b:BitVec 32):binOp .or t (v32 a) (v32 b)=pure (v32 (a|||b)):=qx (k:= .u32) rfl t _ _ a b (ai 32 a) (ai 32 b)
@[go_sem high] theorem BU(t:TypeId)(a b:BitVec 32):binOp .xor t (v32 a) (v32 b)=pure (v32 (a^^^b)):=sH (k:= .u32) rfl t _ _ a b (ai 32 a) (ai 32 b)
@[go_sem high] theorem BW(t:TypeId)(yk:IntKind)(a:BitVec 32)(m:Int)(hm:0≤m):binOp .shl t (v32 a) (.int yk m)=pure (v32 (a<<<m.toNat)):=iy (k:= .u32) rfl t yk a m hm
@[go_sem high] theorem BX(t:TypeId)(yk:IntKind)(a:BitVec 32)(m:Int)(hm:0≤m):binOp .shr t (v32 a) (.int yk m)=pure (v32 (a>>>m.toNat)):=iz (k:= .u32) t yk a m hm
@[go_sem high] theorem zX(op:BinOp)(t:TypeId)(x y:Operand)(a:BitVec 32)(v:Value):eqGuard op t x y (v32 a) v=pure ():=by unfold eqGuard v32;split<;>rfl
@[go_sem high] theorem tD(a:BitVec 32):(v32 a).cells= #[v32 a]:=rfl
@[go_sem high] theorem AP(a:BitVec 32):(v32 a).oneCell' =true:=rfl
@[go_sem high] theorem tE {P:Program}(w:World)(a:Addr)(m:Mode)(n:BitVec 32):(store a (v32 n) m).run P w=stored P w a (v32 n) m:=run_store P w a _ m rfl
@[go_sem high] theorem zY(a:BitVec 32) {P:Program}(w:World)(s d:TypeId)(hs:P.underlying s=some (.int .u32))(hd:P.underlying d=some (.int .u8)):(convert s d (v32 a)).run P w= .ok (v8 (a.setWidth 8)) w:=by simp[convert,run_underlying hs,run_underlying hd,v32,v8,Conv.intToInt,bN .u8 rfl,IntKind.bits]
@[go_sem high] theorem yn(t:TypeId)(a:BitVec 32)(b:BitVec 64):binOp .shl t (v32 a) (v64 b)=pure (v32 (a<<<amt b)):=iy (k:= .u32) rfl t .u64 a (b.toNat:Int) (Int.natCast_nonneg _)
@[go_sem high] theorem yo(t:TypeId)(a:BitVec 32)(b:BitVec 64):binOp .shr t (v32 a) (v64 b)=pure (v32 (a>>>amt b)):=iz (k:= .u32) t .u64 a (b.toNat:Int) (Int.natCast_nonneg _)
@[go_sem high] theorem qy(a:BitVec 32) {P:Program}(w:World)(s d:TypeId)(hs:P.underlying s=some (.int .u32))(hd:P.underlying d=some (.int .u64)):(convert s d (v32 a)).run P w= .ok (v64 (a.setWidth 64)) w:=by simp[convert,run_underlying hs,run_underlying hd,v32,v64,Conv.intToInt,bN .u64 rfl,IntKind.bits]
@[go_sem high] theorem kF(t:TypeId)(a b:BitVec 64):binOp .add t (v64 a) (v64 b)=pure (v64 (a+b)):=nG (k:= .u64) rfl t _ _ a b (ai 64 a) (ai 64 b)
@[go_sem high] theorem zZ(t:TypeId)(a:BitVec 64)(m:Int):binOp .add t (v64 a) (.int .u64 m)=pure (v64 (a+(BitVec.ofInt 64 m))):=nG (k:= .u64) rfl t _ _ a _ (ai 64 a) rfl
@[go_sem high] theorem xk(t:TypeId)(a b:BitVec 64):binOp .sub t (v64 a) (v64 b)=pure (v64 (a-b)):=sG (k:= .u64) rfl t _ _ a b (ai 64 a) (ai 64 b)
@[go_sem high] theorem Aa(t:TypeId)(b:BitVec 64)(m:Int):binOp .sub t (.int .u64 m) (v64 b)=pure (v64 ((BitVec.ofInt 64 m)-b)):=sG (k:= .u64) rfl t _ _ _ b rfl (ai 64 b)
@[go_sem high] theorem nI(t:TypeId)(a b:BitVec 64):binOp .mul t (v64 a) (v64 b)=pure (v64 (a*b)):=nH (k:= .u64) rfl t _ _ a b (ai 64 a) (ai 64 b)
@[go_sem high] theorem iA(t:TypeId)(a b:BitVec 64):binOp .and t (v64 a) (v64 b)=pure (v64 (a&&&b)):=ix (k:= .u64) rfl t _ _ a b (ai 64 a) (ai 64 b)
@[go_sem high] theorem Ab(t:TypeId)(a:BitVec 64)(m:Int):binOp .and t (v64 a) (.int .u64 m)=pure (v64 (a&&&(BitVec.ofInt 64 m))):=ix (k:= .u64) rfl t _ _ a _ (ai 64 a) rfl
@[go_sem high] theorem jl(t:TypeId)(a b:BitVec 64):binOp .or t (v64 a) (v64 b)=pure (v64 (a|||b)):=qx (k:= .u64) rfl t _ _ a b (ai 64 a) (ai 64 b)
@[go_sem high] theorem gn(t:TypeId)(yk:IntKind)(a:BitVec 64)(m:Int)(hm:0≤m):binOp .shl t (v64 a) (.int yk m)=pure (v64 (a<<<m.toNat)):=iy (k:= .u64) rfl t yk a m hm
@[go_sem high] theorem gp(t:TypeId)(yk:IntKind)(a:BitVec 64)(m:Int)(hm:0≤m):binOp .shr t (v64 a) (.int yk m)=pure (v64 (a>>>m.toNat)):=iz (k:= .u64) t yk a m hm
@[go_sem high] theorem Ac(op:BinOp)(t:TypeId)(x y:Operand)(a:BitVec 64)(v:Value):eqGuard op t x y (v64 a) v=pure ():=by unfold eqGuard v64;split<;>rfl
@[go_sem high] theorem tF(a:BitVec 64):(v64 a).cells= #[v64 a]:=rfl
@[go_sem high] theorem AQ(a:BitVec 64):(v64 a).oneCell' =true:=rfl
@[go_sem high] theorem yK(a:BitVec 64) {P:Program}(w:World)(s d:TypeId)(hs:P.underlying s=some (.int .u64))(hd:P.underlying d=some (.int .i64)):(convert s d (v64 a)).run P w= .ok (.int .i64 (IntKind.i64.wrap (a.toNat:Int))) w:=by simp[convert,run_underlying hs,run_underlying hd,v64,Conv.intToInt]
@[go_sem high] theorem yL {P:Program}(w:World)(s d:TypeId)(m:Int)(hs:P.underlying s=some (.int .i64))(hd:P.underlying d=some (.int .u64)):(convert s d (.int .i64 m)).run P w= .ok (v64 (BitVec.ofInt 64 m)) w:=by simp[convert,run_underlying hs,run_underlying hd,v64,Conv.intToInt,bN .u64 rfl,-BitVec.toNat_ofInt];rfl
@[go_sem high] theorem tG {P:Program}(w:World)(a:Addr)(m:Mode)(n:BitVec 64):(store a (v64 n) m).run P w=stored P w a (v64 n) m:=run_store P w a _ m rfl
@[go_sem high] theorem Ae(a:BitVec 64) {P:Program}(w:World)(s d:TypeId)(hs:P.underlying s=some (.int .u64))(hd:P.underlying d=some (.int .u8)):(convert s d (v64 a)).run P w= .ok (v8 (a.setWidth 8)) w:=by simp[convert,run_underlying hs,run_underlying hd,v64,v8,Conv.intToInt,bN .u8 rfl,IntKind.bits]
@[go_sem high] theorem yM(a:BitVec 64) {P:Program}(w:World)(s d:TypeId)(hs:P.underlying s=some (.int .u64))(hd:P.underlying d=some (.int .u32)):(convert s d (v64 a)).run P w= .ok (v32 (a.setWidth 32)) w:=by simp[convert,run_underlying hs,run_underlying hd,v64,v32,Conv.intToInt,bN .u32 rfl,IntKind.bits]
theorem nJ {fn:Func} {t u v x:Tmp}(h:fn.results= #[.tmp t,.tmp u,.tmp v,.tmp x])(tmps:Array Value)(P:Program)(w:World):
  (results fn tmps).run P w= .ok (.tuple #[tmps.getD t undef,tmps.getD u undef,tmps.getD v undef,tmps.getD x undef]) w:=by
 simp[results,h]
open Go.RowKit
def nth {n:Nat}(l:List (BitVec n))(i:Nat):BitVec n:=l.getD i 0#n
def aa(n m:Nat):List (BitVec n):=List.replicate m 0#n
@[simp] theorem af(n m:Nat):(aa n m).length=m:=by simp[aa]
theorem dv {n:Nat} {l:List (BitVec n)} {i:Nat}(h:i<l.length):l[i]? =some (nth l i):=by simp[nth,h]
theorem iB {n:Nat} {l:List (BitVec n)} {i:Nat}(h:i<l.length):l[i]=nth l i:=by simp[nth,h]
theorem dg {n:Nat}(l:List (BitVec n))(i j:Nat)(x:BitVec n)(h:i<l.length):nth (l.set i x) j=if i=j then x else nth l j:=by
 unfold nth;simp only[List.getD_eq_getElem?_getD,List.getElem?_set];by_cases e:i=j
 ·subst e;simp[h]
 ·simp[e]
theorem aD {n:Nat} {a b:List (BitVec n)}(hl:a.length=b.length)(h: ∀i,i<a.length→nth a i=nth b i):a=b:=by
 apply List.ext_getElem hl;intro i h1 h2;rw[iB h1,iB h2,h i h1]
theorem cT(n m i:Nat):nth (aa n m) i=0#n:=by
 unfold nth aa;simp only[List.getD_eq_getElem?_getD,List.getElem?_replicate]
 split<;>rfl
theorem bO {n:Nat}(a b:List (BitVec n))(i:Nat):nth (a++b) i=if i<a.length then nth a i else nth b (i-a.length):=by
 unfold nth;simp only[List.getD_eq_getElem?_getD,List.getElem?_append]
 split<;>rfl
theorem aJ {n:Nat}(a:List (BitVec n))(k i:Nat)(h:i<k):nth (a.take k) i=nth a i:=by
 unfold nth;simp[h]
theorem bv {n:Nat}(a:List (BitVec n))(k i:Nat):nth (a.drop k) i=nth a (k+i):=by
 unfold nth;simp
def A8(l:Y8):Array Value:=(l.map v8).toArray
def A32(l:List (BitVec 32)):Array Value:=(l.map v32).toArray
def A64(l:List (BitVec 64)):Array Value:=(l.map v64).toArray
def ones(cs:Array Value):Bool:=cs.all Value.oneCell'
def ce(t:TypeId)(x:Value):Sem Value:=Instr.loadAt t x
def bL(t:TypeId)(x y:Value):Sem Unit:=Instr.storeAt t x y
@[go_sem] theorem Af {P:Program}(w:World)(t:TypeId)(x:Value)(_h:(isAgg t).run P w= .ok false w):(ce t x).run P w=(Instr.loadAt t x).run P w:=rfl
@[go_sem] theorem Ag(t:TypeId)(x:Value)(k:IntKind)(n:Int):bL t x (.int k n)=Instr.storeAt t x (.int k n):=rfl
@[go_sem] theorem yN(t:TypeId)(x:Value)(b:Bool):bL t x (.bool b)=Instr.storeAt t x (.bool b):=rfl
@[go_sem] theorem xl(t:TypeId)(x:Value)(b:ByteArray):bL t x (.string b)=Instr.storeAt t x (.string b):=rfl
@[go_sem] theorem xa(t:TypeId)(x:Value)(b:Option Addr):bL t x (.pointer b)=Instr.storeAt t x (.pointer b):=rfl
@[go_sem] theorem yp(t:TypeId)(x:Value)(a:Option Addr)(n c:Nat):bL t x (.slice a n c)=Instr.storeAt t x (.slice a n c):=rfl
@[go_sem] theorem Ah(t:TypeId)(x:Value)(r:Option Nat):bL t x (.map r)=Instr.storeAt t x (.map r):=rfl
@[go_sem] theorem yO(t:TypeId)(x:Value)(f:Fn)(a c:Array Value):bL t x (.func f a c)=Instr.storeAt t x (.func f a c):=rfl
@[go_sem] theorem xb(t:TypeId)(x:Value):bL t x .nilFunc=Instr.storeAt t x .nilFunc:=rfl
@[go_sem] theorem yq(t:TypeId)(x:Value)(d:TypeId)(v:Value):bL t x (.iface d v)=Instr.storeAt t x (.iface d v):=rfl
@[go_sem] theorem vu(t:TypeId)(x:Value):bL t x .nilIface=Instr.storeAt t x .nilIface:=rfl
@[go_sem] theorem xc(t:TypeId)(x:Value)(k:FloatKind)(a b:Nat):bL t x (.complex k a b)=Instr.storeAt t x (.complex k a b):=rfl
@[go_sem high] theorem jm(l:Y8)(i:Nat)(h:i<l.length):(A8 l)[i]? =some (v8 (nth l i)):=by
 simp[A8,dv h]
@[go_sem high] theorem fd(l:Y8)(i:Nat)(x:BitVec 8):(A8 l).setIfInBounds i (v8 x)=A8 (l.set i x):=by
 simp[A8,List.map_set]
@[go_sem high] theorem au(l:Y8):(A8 l).size=l.length:=by simp[A8]
@[go_sem high] theorem aB(l:Y8):ones (A8 l)=true:=by
 simp[ones,A8,List.all_map]
 intros;rfl
@[go_sem high] theorem vw(l:Y8)(k:Nat)(h:l.length≤k):(A8 l).extract 0 k=A8 l:=by
 simp[A8,←List.map_take,List.take_of_length_le h]
@[go_sem] theorem yP(l:Y8)(j k:Nat):(A8 l).extract j k=A8 ((l.drop j).take (k-j)):=by
 simp[A8,←List.map_drop,←List.map_take]
theorem cU(l:Y8):(A8 l).toList=l.map v8:=by simp[A8]
@[go_sem high] theorem qz {P:Program}(w:World)(t:TypeId)(a:Addr)(x:BitVec 8)(h:(sizeOf t).run P w= .ok 1 w):
  (bL t (.pointer (some a)) (v8 x)).run P w=stored P w a (v8 x) .plain:=by
 simp[bL,Instr.storeAt,Instr.sureAddr,storeVar,h,vr,storeCells,Addr.add_zero',vt]
@[go_sem high] theorem nK(l:List (BitVec 32))(i:Nat)(h:i<l.length):(A32 l)[i]? =some (v32 (nth l i)):=by
 simp[A32,dv h]
@[go_sem high] theorem gu(l:List (BitVec 32))(i:Nat)(x:BitVec 32):(A32 l).setIfInBounds i (v32 x)=A32 (l.set i x):=by
 simp[A32,List.map_set]
@[go_sem high] theorem bI(l:List (BitVec 32)):(A32 l).size=l.length:=by simp[A32]
@[go_sem high] theorem vx(l:List (BitVec 32)):ones (A32 l)=true:=by
 simp[ones,A32,List.all_map]
 intros;rfl
@[go_sem high] theorem vi(l:List (BitVec 32))(k:Nat)(h:l.length≤k):(A32 l).extract 0 k=A32 l:=by
 simp[A32,←List.map_take,List.take_of_length_le h]
theorem qC(l:List (BitVec 32)):(A32 l).toList=l.map v32:=by simp[A32]
@[go_sem high] theorem jM {P:Program}(w:World)(t:TypeId)(a:Addr)(x:BitVec 32)(h:(sizeOf t).run P w= .ok 1 w):
  (bL t (.pointer (some a)) (v32 x)).run P w=stored P w a (v32 x) .plain:=by
 simp[bL,Instr.storeAt,Instr.sureAddr,storeVar,h,tD,storeCells,Addr.add_zero',tE]
@[go_sem high] theorem iC(l:List (BitVec 64))(i:Nat)(h:i<l.length):(A64 l)[i]? =some (v64 (nth l i)):=by
 simp[A64,dv h]
@[go_sem high] theorem fe(l:List (BitVec 64))(i:Nat)(x:BitVec 64):(A64 l).setIfInBounds i (v64 x)=A64 (l.set i x):=by
 simp[A64,List.map_set]
@[go_sem high] theorem dp(l:List (BitVec 64)):(A64 l).size=l.length:=by simp[A64]
@[go_sem high] theorem iD(l:List (BitVec 64)):ones (A64 l)=true:=by
 simp[ones,A64,List.all_map]
 intros;rfl
@[go_sem high] theorem vj(l:List (BitVec 64))(k:Nat)(h:l.length≤k):(A64 l).extract 0 k=A64 l:=by
 simp[A64,←List.map_take,List.take_of_length_le h]
@[go_sem] theorem yr(l:List (BitVec 64))(j k:Nat):(A64 l).extract j k=A64 ((l.drop j).take (k-j)):=by
 simp[A64,←List.map_drop,←List.map_take]
theorem qD(l:List (BitVec 64)):(A64 l).toList=l.map v64:=by simp[A64]
@[go_sem high] theorem oO {P:Program}(w:World)(t:TypeId)(a:Addr)(x:BitVec 64)(h:(sizeOf t).run P w= .ok 1 w):
  (bL t (.pointer (some a)) (v64 x)).run P w=stored P w a (v64 x) .plain:=by
 simp[bL,Instr.storeAt,Instr.sureAddr,storeVar,h,tF,storeCells,Addr.add_zero',tG]
theorem World.alloc_old'(w:World)(o:Obj)(n:Nat)(hn:n<w.heap.size):(w.alloc o).heap[n]? =w.heap[n]?:=by
 show(w.heap.push o)[n]? =_;rw[Array.getElem?_push,if_neg (Nat.ne_of_lt hn)]
def ar(w:World)(b:Nat):Array Value:=match w.heap[b]? with|some (.cells c _ _)=>c|_=> #[]
theorem aO(w:World)(b i:Nat):w.cell? ⟨b,i,none⟩=(ar w b)[i]?:=by
 unfold World.cell? ar;cases h:w.heap[b]? with
 |none=>simp
 |some o=>cases o<;>simp
def whole(w:World)(b:Nat):Bool:=match w.heap[b]? with|some (.cells _ _ (0,0))=>true|_=>false
theorem cV {w:World} {b:Nat}(h:whole w b=true): ∃c e,w.heap[b]? =some (.cells c e (0,0)):=by
 unfold whole at h
 split at h
 ·rename_i c e hh;exact⟨_,_,hh⟩
 ·cases h
@[go_sem] theorem vy(w:World)(c:Array Value)(t:TypeId)(n:Nat)(hn:n=w.heap.size):whole (w.alloc (.cells c t)) n=true:=by
 subst hn;unfold whole;rw[heap_alloc_new];rfl
@[go_sem] theorem tH(w:World)(o:Obj)(n:Nat)(hn:n<w.heap.size):whole (w.alloc o) n=whole w n:=by
 unfold whole;rw[World.alloc_old' w o n hn]
@[go_sem] theorem yQ(w:World)(n:Nat):whole w.drew n=whole w n:=rfl
@[go_sem] theorem vz(w:World)(c:Array Value)(t:TypeId)(n:Nat)(hn:n=w.heap.size):ar (w.alloc (.cells c t)) n=c:=by
 subst hn;unfold ar;rw[heap_alloc_new]
@[go_sem] theorem tI(w:World)(o:Obj)(n:Nat)(hn:n<w.heap.size):ar (w.alloc o) n=ar w n:=by
 unfold ar;rw[World.alloc_old' w o n hn]
@[go_sem] theorem yR(w:World)(n:Nat):ar w.drew n=ar w n:=rfl
@[go_sem] theorem dw(w:World)(c cs:Array Value)(t:TypeId)(n:Nat)(hn:n=w.heap.size):(w.alloc (.cells c t)).setRow n cs=w.alloc (.cells cs t):=by
 subst hn;simp only[World.setRow,World.alloc];congr 1;apply Array.ext_getElem?;intro i;simp only[Array.getElem?_modify,Array.getElem?_push]
 split
 ·rename_i h;subst h;simp
 ·rename_i h;rw[if_neg (fun h' =>h h'.symm),if_neg (fun h' =>h h'.symm)]
@[go_sem] theorem sI(w:World)(o:Obj)(cs:Array Value)(n:Nat)(hn:n<w.heap.size):(w.alloc o).setRow n cs=(w.setRow n cs).alloc o:=by
 simp only[World.setRow,World.alloc];congr 1;apply Array.ext_getElem?;intro i;simp only[Array.getElem?_modify,Array.getElem?_push,Array.size_modify];by_cases h:n=i
 ·subst h;simp[Nat.ne_of_lt hn]
 ·simp[h]
@[go_sem] theorem yt(w:World)(n:Nat)(cs:Array Value):w.drew.setRow n cs=(w.setRow n cs).drew:=rfl
section
variable {P:Program} (ρ:Operand→Value) (w:World) (dst:Option Tmp) (ty:TypeId) (pos:String) (after:Array Edge) (guard:Option (Nat×Bool))
@[go_sem ↓ high] theorem xd(e:TypeId):(execOp ρ ⟨dst,.alloc e,ty,pos,after,guard⟩).run P w=((Instr.alloc e true (.tuple #[])).run P w).andThen fun v w' => .ok (.value v) w':=by simp[execOp]
@[go_sem ↓ high] theorem xe(e:TypeId):(execOp ρ ⟨dst,.build e #[],ty,pos,after,guard⟩).run P w=((Instr.build e #[]).run P w).andThen fun v w' => .ok (.value v) w':=by simp[execOp]
@[go_sem ↓ high] theorem xm(e:TypeId)(x:Operand):(execOp ρ ⟨dst,.load e x,ty,pos,after,guard⟩).run P w=((ce e (ρ x)).run P w).andThen fun v w' => .ok (.value v) w':=by simp[execOp,ce]
@[go_sem ↓ high] theorem bD(e:TypeId)(x y:Operand):(execOp ρ ⟨dst,.store e x y,ty,pos,after,guard⟩).run P w=((bL e (ρ x) (ρ y)).run P w).andThen fun _ w' => .ok .skip w':=by simp[execOp,bL]
end
@[go_sem high] theorem cB {P:Program}(w:World)(t:TypeId)(b off:Nat)(h1:(isAgg t).run P w= .ok true w)(h2:(sizeOf t).run P w= .ok (P.cellsOf t) w)(h3:off+P.cellsOf t≤(ar w b).size):
  (ce t (.pointer (some ⟨b,off,none⟩))).run P w= .ok (.agg ((ar w b).extract off (off+P.cellsOf t))) w:=by
 generalize P.cellsOf t=n at h2 h3;have hc:=run_loadCells_list (P:=P) (w:=w) ⟨b,off,none⟩ ((ar w b).extract off (off+n)).toList (fun j v hj=>by
  rw[Addr.add_lit,aO];have hj':j<off+n-off:=by
   have:=(List.getElem?_eq_some_iff.1 hj).1;simp at this;omega
  rw[←hj,Array.getElem?_toList,Array.getElem?_extract];rw[if_pos (by omega)])
 have hl:((ar w b).extract off (off+n)).toList.length=n:=by simp;omega
 rw[hl,Array.toArray_toList]at hc;simp only[ce,Instr.loadAt,Instr.sureAddr,loadVar,Sem.run_bind,Sem.run_pure,Result.andThen_ok,h1,h2,hc,if_true]
@[go_sem high] theorem aV {P:Program}(w:World)(t:TypeId)(b:Nat)(cs:Array Value)(h2:(sizeOf t).run P w= .ok cs.size w)(h3:(ar w b).size=cs.size)(h4:ones cs=true)(h6:whole w b=true):
  (bL t (.pointer (some ⟨b,0,none⟩)) (.agg cs)).run P w= .ok () (w.setRow b cs):=by
 obtain⟨old,e,hg⟩:=cV h6;have hr:ar w b=old:=by unfold ar;rw[hg]
 rw[hr]at h3;have hst:=run_storeCells_at (P:=P) b 0 e cs.toList 0 old w hg (by simp;omega) (fun v hv=>by
  have:=Array.all_eq_true'.1 h4 v (by simpa using hv);exact this)
 have e1:(old.toList.take (0+0)++cs.toList++old.toList.drop (0+0+cs.toList.length)).toArray=cs:=by
  rw[List.drop_of_length_le (by simp;omega)];simp
 rw[e1]at hst;simp only[bL,Instr.storeAt,Instr.sureAddr,storeVar,Sem.run_bind,Sem.run_pure,Result.andThen_ok,h2,Value.cells,ne_eq,not_true_eq_false,if_false,hst]
def Rd8(w:World)(a:Option Addr)(n c:Nat)(l:Y8):Prop:=
 l.length=n∧n≤c∧c≤maxLen∧(0<n→ ∃b o,a=some ⟨b,o,none⟩∧b<w.heap.size∧ ∀i,i<n→w.cell? ⟨b,o+i,none⟩=some (v8 (nth l i)))
theorem Rd8.keep {w w':World} {a:Option Addr} {n c:Nat} {l:Y8}(h:Rd8 w a n c l)(hs:w.heap.size≤w'.heap.size)(hk: ∀p:Addr,p.block<w.heap.size→w'.cell? p=w.cell? p):Rd8 w' a n c l:=
 ⟨h.1,h.2.1,h.2.2.1,fun hn=>by
  obtain⟨b,o,ha,hb,hc⟩:=h.2.2.2 hn;exact⟨b,o,ha,by omega,fun i hi=>(hk _ hb).trans (hc i hi)⟩⟩
theorem Rd8.below {w w':World} {a:Option Addr} {n c:Nat} {l:Y8}(h:Rd8 w a n c l)(hb:Below w.heap.size w w'):Rd8 w' a n c l:=
 h.keep hb.size fun _ hp=>hb.cell hp
theorem Rd8.alloc {w:World} {a:Option Addr} {n c:Nat} {l:Y8}(h:Rd8 w a n c l)(o:Obj):Rd8 (w.alloc o) a n c l:=
 h.below ((Below.refl _ _).alloc (Nat.le_refl _) _)
theorem Rd8.drew {w:World} {a:Option Addr} {n c:Nat} {l:Y8}(h:Rd8 w a n c l):Rd8 w.drew a n c l:=h
theorem Rd8.cut {w:World} {a:Option Addr} {n c:Nat} {l:Y8}(h:Rd8 w a n c l) {j k:Nat}(hj:j≤k)(hk:k≤n):
  Rd8 w (if c=j then a else a.map (·.add j)) (k-j) (c-j) ((l.take k).drop j):=by
 obtain⟨h1,h2,h3,h4⟩:=h;refine⟨by simp;omega,by omega,by unfold maxLen at*;omega,fun hn=> ?_⟩;obtain⟨b,o,rfl,hb,hc⟩:=h4 (by omega);rw[if_neg (by omega)];refine⟨b,o+j,by simp[Addr.add_lit],hb,fun i hi=> ?_⟩;rw[Nat.add_assoc,hc (j+i) (by omega),bv,aJ _ _ _ (by omega)]
theorem Rd8.of_row {w:World} {b n:Nat} {l:Y8}(hr:ar w b=A8 l)(hl:l.length=n)(hb:b<w.heap.size)(hm:n≤maxLen):Rd8 w (some ⟨b,0,none⟩) n n l:=
 ⟨hl,Nat.le_refl _,hm,fun _=>⟨b,0,rfl,hb,fun i hi=>by rw[Nat.zero_add,aO,hr,jm l i (by omega)]⟩⟩
def Rd32(w:World)(a:Option Addr)(n c:Nat)(l:List (BitVec 32)):Prop:=
 l.length=n∧n≤c∧c≤maxLen∧(0<n→ ∃b o,a=some ⟨b,o,none⟩∧b<w.heap.size∧ ∀i,i<n→w.cell? ⟨b,o+i,none⟩=some (v32 (nth l i)))
theorem Rd32.keep {w w':World} {a:Option Addr} {n c:Nat} {l:List (BitVec 32)}(h:Rd32 w a n c l)(hs:w.heap.size≤w'.heap.size)(hk: ∀p:Addr,p.block<w.heap.size→w'.cell? p=w.cell? p):Rd32 w' a n c l:=
 ⟨h.1,h.2.1,h.2.2.1,fun hn=>by
  obtain⟨b,o,ha,hb,hc⟩:=h.2.2.2 hn;exact⟨b,o,ha,by omega,fun i hi=>(hk _ hb).trans (hc i hi)⟩⟩
theorem Rd32.below {w w':World} {a:Option Addr} {n c:Nat} {l:List (BitVec 32)}(h:Rd32 w a n c l)(hb:Below w.heap.size w w'):Rd32 w' a n c l:=
 h.keep hb.size fun _ hp=>hb.cell hp
theorem Rd32.alloc {w:World} {a:Option Addr} {n c:Nat} {l:List (BitVec 32)}(h:Rd32 w a n c l)(o:Obj):Rd32 (w.alloc o) a n c l:=
 h.below ((Below.refl _ _).alloc (Nat.le_refl _) _)
theorem Rd32.drew {w:World} {a:Option Addr} {n c:Nat} {l:List (BitVec 32)}(h:Rd32 w a n c l):Rd32 w.drew a n c l:=h
theorem Rd32.cut {w:World} {a:Option Addr} {n c:Nat} {l:List (BitVec 32)}(h:Rd32 w a n c l) {j k:Nat}(hj:j≤k)(hk:k≤n):
  Rd32 w (if c=j then a else a.map (·.add j)) (k-j) (c-j) ((l.take k).drop j):=by
 obtain⟨h1,h2,h3,h4⟩:=h;refine⟨by simp;omega,by omega,by unfold maxLen at*;omega,fun hn=> ?_⟩;obtain⟨b,o,rfl,hb,hc⟩:=h4 (by omega);rw[if_neg (by omega)];refine⟨b,o+j,by simp[Addr.add_lit],hb,fun i hi=> ?_⟩;rw[Nat.add_assoc,hc (j+i) (by omega),bv,aJ _ _ _ (by omega)]
theorem Rd32.of_row {w:World} {b n:Nat} {l:List (BitVec 32)}(hr:ar w b=A32 l)(hl:l.length=n)(hb:b<w.heap.size)(hm:n≤maxLen):Rd32 w (some ⟨b,0,none⟩) n n l:=
 ⟨hl,Nat.le_refl _,hm,fun _=>⟨b,0,rfl,hb,fun i hi=>by rw[Nat.zero_add,aO,hr,nK l i (by omega)]⟩⟩
def Rd64(w:World)(a:Option Addr)(n c:Nat)(l:List (BitVec 64)):Prop:=
 l.length=n∧n≤c∧c≤maxLen∧(0<n→ ∃b o,a=some ⟨b,o,none⟩∧b<w.heap.size∧ ∀i,i<n→w.cell? ⟨b,o+i,none⟩=some (v64 (nth l i)))
theorem Rd64.keep {w w':World} {a:Option Addr} {n c:Nat} {l:List (BitVec 64)}(h:Rd64 w a n c l)(hs:w.heap.size≤w'.heap.size)(hk: ∀p:Addr,p.block<w.heap.size→w'.cell? p=w.cell? p):Rd64 w' a n c l:=
 ⟨h.1,h.2.1,h.2.2.1,fun hn=>by
  obtain⟨b,o,ha,hb,hc⟩:=h.2.2.2 hn;exact⟨b,o,ha,by omega,fun i hi=>(hk _ hb).trans (hc i hi)⟩⟩
theorem Rd64.below {w w':World} {a:Option Addr} {n c:Nat} {l:List (BitVec 64)}(h:Rd64 w a n c l)(hb:Below w.heap.size w w'):Rd64 w' a n c l:=
 h.keep hb.size fun _ hp=>hb.cell hp
theorem Rd64.alloc {w:World} {a:Option Addr} {n c:Nat} {l:List (BitVec 64)}(h:Rd64 w a n c l)(o:Obj):Rd64 (w.alloc o) a n c l:=
 h.below ((Below.refl _ _).alloc (Nat.le_refl _) _)
theorem Rd64.drew {w:World} {a:Option Addr} {n c:Nat} {l:List (BitVec 64)}(h:Rd64 w a n c l):Rd64 w.drew a n c l:=h
theorem Rd64.cut {w:World} {a:Option Addr} {n c:Nat} {l:List (BitVec 64)}(h:Rd64 w a n c l) {j k:Nat}(hj:j≤k)(hk:k≤n):
  Rd64 w (if c=j then a else a.map (·.add j)) (k-j) (c-j) ((l.take k).drop j):=by
 obtain⟨h1,h2,h3,h4⟩:=h;refine⟨by simp;omega,by omega,by unfold maxLen at*;omega,fun hn=> ?_⟩;obtain⟨b,o,rfl,hb,hc⟩:=h4 (by omega);rw[if_neg (by omega)];refine⟨b,o+j,by simp[Addr.add_lit],hb,fun i hi=> ?_⟩;rw[Nat.add_assoc,hc (j+i) (by omega),bv,aJ _ _ _ (by omega)]
theorem Rd64.of_row {w:World} {b n:Nat} {l:List (BitVec 64)}(hr:ar w b=A64 l)(hl:l.length=n)(hb:b<w.heap.size)(hm:n≤maxLen):Rd64 w (some ⟨b,0,none⟩) n n l:=
 ⟨hl,Nat.le_refl _,hm,fun _=>⟨b,0,rfl,hb,fun i hi=>by rw[Nat.zero_add,aO,hr,iC l i (by omega)]⟩⟩
theorem cC {P:Program} {w:World} {ty:TypeId} {b n:Nat} {cs:Array Value}(h1:(isAgg ty).run P w= .ok true w)(h2:(sizeOf ty).run P w= .ok n w)(hn:cs.size=n)(hr:ar w b=cs):
  (loadVar ty ⟨b,0,none⟩).run P w= .ok (.agg cs) w:=by
 have hc:=run_loadCells_list (P:=P) (w:=w) ⟨b,0,none⟩ cs.toList (fun j v hj=>by
  rw[Addr.add_lit,Nat.zero_add,aO,hr,←hj,Array.getElem?_toList])
 rw[Array.length_toList,hn,Array.toArray_toList]at hc;simp[loadVar,Sem.run_bind,h1,h2,hc]
theorem ag {P:Program} {fn:Func} {R:Ending→World→Prop} {a:Act} {w:World} {p:Tmp} {ty:TypeId} {b n:Nat}(cs:Array Value)(h:fn.results= #[.cell p ty])(hd:a.defers=[])
  (hp:a.tmps.getD p undef= .pointer (some ⟨b,0,none⟩)) (h1:(isAgg ty).run P w= .ok true w) (h2:(sizeOf ty).run P w= .ok n w) (hn:cs.size=n) (hr:ar w b=cs) (hR:R (.returned (.agg cs)) w):bodyPost P fn R .ret a w:=by
 have hv:=cC h1 h2 hn hr;have hp':a.tmps[p]?.getD undef= .pointer (some ⟨b,0,none⟩):=by simpa using hp
 exact bodyPost_ret (v:= .agg cs) (by simp[results,h,hp',asAddr,hv]) hd hR
theorem aY {P:Program} {fn:Func} {R:Ending→World→Prop} {a:Act} {w:World} {p u:Tmp} {ty:TypeId} {b n:Nat}(cs:Array Value)(h:fn.results= #[.cell p ty,.tmp u])(hd:a.defers=[])
  (hp:a.tmps.getD p undef= .pointer (some ⟨b,0,none⟩)) (h1:(isAgg ty).run P w= .ok true w) (h2:(sizeOf ty).run P w= .ok n w) (hn:cs.size=n) (hr:ar w b=cs) (hR:R (.returned (.tuple #[.agg cs,a.tmps.getD u undef])) w):bodyPost P fn R .ret a w:=by
 have hv:=cC h1 h2 hn hr;have hp':a.tmps[p]?.getD undef= .pointer (some ⟨b,0,none⟩):=by simpa using hp
 exact bodyPost_ret (v:= .tuple #[.agg cs,a.tmps.getD u undef]) (by simp[results,h,hp',asAddr,hv]) hd hR
open Go.RowKit
theorem aA {P:Program} {t:TypeId} {cs:Array Value}(h: ∀w,(zeroValue t).run P w= .ok (.agg cs) w)(w:World):(Instr.alloc t true (.tuple #[])).run P w= .ok (.pointer (some ⟨w.heap.size,0,none⟩)) (w.alloc (.cells cs t)):=by
 simp[Instr.alloc,h,newVar,newRow,Value.cells]
@[go_sem] theorem Ai:prog.cellsOf 75=4:=by kernel_rfl
theorem yS(w:World):(zeroValue 75).run prog w= .ok (.agg (A8 (aa 8 4))) w:=by kernel_rfl
@[go_sem ↓ high] theorem BZ(w:World):(Instr.alloc 75 true (.tuple #[])).run prog w= .ok (.pointer (some ⟨w.heap.size,0,none⟩)) (w.alloc (.cells (A8 (aa 8 4)) 75)):=aA yS w
@[go_sem ↓ high] theorem AR(w:World):(Instr.build 75 #[]).run prog w= .ok (.agg (A8 (aa 8 4))) w:=by kernel_rfl
@[go_sem] theorem yT:prog.cellsOf 171=8:=by kernel_rfl
theorem xn(w:World):(zeroValue 171).run prog w= .ok (.agg (A8 (aa 8 8))) w:=by kernel_rfl
@[go_sem ↓ high] theorem AS(w:World):(Instr.alloc 171 true (.tuple #[])).run prog w= .ok (.pointer (some ⟨w.heap.size,0,none⟩)) (w.alloc (.cells (A8 (aa 8 8)) 171)):=aA xn w
@[go_sem ↓ high] theorem Aj(w:World):(Instr.build 171 #[]).run prog w= .ok (.agg (A8 (aa 8 8))) w:=by kernel_rfl
@[go_sem] theorem yU:prog.cellsOf 154=16:=by kernel_rfl
theorem xo(w:World):(zeroValue 154).run prog w= .ok (.agg (A8 (aa 8 16))) w:=by kernel_rfl
@[go_sem ↓ high] theorem AU(w:World):(Instr.alloc 154 true (.tuple #[])).run prog w= .ok (.pointer (some ⟨w.heap.size,0,none⟩)) (w.alloc (.cells (A8 (aa 8 16)) 154)):=aA xo w
@[go_sem ↓ high] theorem Ak(w:World):(Instr.build 154 #[]).run prog w= .ok (.agg (A8 (aa 8 16))) w:=by kernel_rfl
@[go_sem] theorem yV:prog.cellsOf 149=24:=by kernel_rfl
theorem xp(w:World):(zeroValue 149).run prog w= .ok (.agg (A8 (aa 8 24))) w:=by kernel_rfl
@[go_sem ↓ high] theorem AV(w:World):(Instr.alloc 149 true (.tuple #[])).run prog w= .ok (.pointer (some ⟨w.heap.size,0,none⟩)) (w.alloc (.cells (A8 (aa 8 24)) 149)):=aA xp w
@[go_sem ↓ high] theorem Al(w:World):(Instr.build 149 #[]).run prog w= .ok (.agg (A8 (aa 8 24))) w:=by kernel_rfl
@[go_sem] theorem yW:prog.cellsOf 143=32:=by kernel_rfl
theorem xq(w:World):(zeroValue 143).run prog w= .ok (.agg (A8 (aa 8 32))) w:=by kernel_rfl
@[go_sem ↓ high] theorem AW(w:World):(Instr.alloc 143 true (.tuple #[])).run prog w= .ok (.pointer (some ⟨w.heap.size,0,none⟩)) (w.alloc (.cells (A8 (aa 8 32)) 143)):=aA xq w
@[go_sem ↓ high] theorem Am(w:World):(Instr.build 143 #[]).run prog w= .ok (.agg (A8 (aa 8 32))) w:=by kernel_rfl
@[go_sem] theorem yX:prog.cellsOf 190=64:=by kernel_rfl
theorem xr(w:World):(zeroValue 190).run prog w= .ok (.agg (A8 (aa 8 64))) w:=by kernel_rfl
@[go_sem ↓ high] theorem AX(w:World):(Instr.alloc 190 true (.tuple #[])).run prog w= .ok (.pointer (some ⟨w.heap.size,0,none⟩)) (w.alloc (.cells (A8 (aa 8 64)) 190)):=aA xr w
@[go_sem ↓ high] theorem An(w:World):(Instr.build 190 #[]).run prog w= .ok (.agg (A8 (aa 8 64))) w:=by kernel_rfl
@[go_sem] theorem yY:prog.cellsOf 257=128:=by kernel_rfl
@[go_sem ↓ high] theorem Ao(w:World):(Instr.build 257 #[]).run prog w= .ok (.agg (A8 (aa 8 128))) w:=by kernel_rfl
@[go_sem] theorem yZ:prog.cellsOf 348=4:=by kernel_rfl
theorem xt(w:World):(zeroValue 348).run prog w= .ok (.agg (A32 (aa 32 4))) w:=by kernel_rfl
@[go_sem ↓ high] theorem AY(w:World):(Instr.alloc 348 true (.tuple #[])).run prog w= .ok (.pointer (some ⟨w.heap.size,0,none⟩)) (w.alloc (.cells (A32 (aa 32 4)) 348)):=aA xt w
@[go_sem ↓ high] theorem Ap(w:World):(Instr.build 348 #[]).run prog w= .ok (.agg (A32 (aa 32 4))) w:=by kernel_rfl
@[go_sem] theorem za:prog.cellsOf 341=5:=by kernel_rfl
@[go_sem ↓ high] theorem Aq(w:World):(Instr.build 341 #[]).run prog w= .ok (.agg (A32 (aa 32 5))) w:=by kernel_rfl
@[go_sem] theorem zb:prog.cellsOf 232=16:=by kernel_rfl
@[go_sem ↓ high] theorem Ar(w:World):(Instr.build 232 #[]).run prog w= .ok (.agg (A32 (aa 32 16))) w:=by kernel_rfl
@[go_sem] theorem zc:prog.cellsOf 240=8:=by kernel_rfl
@[go_sem ↓ high] theorem As(w:World):(Instr.build 240 #[]).run prog w= .ok (.agg (A64 (aa 64 8))) w:=by kernel_rfl
@[go_sem] theorem zd:prog.cellsOf 270=16:=by kernel_rfl
@[go_sem ↓ high] theorem Au(w:World):(Instr.build 270 #[]).run prog w= .ok (.agg (A64 (aa 64 16))) w:=by kernel_rfl
@[go_sem] theorem ze:prog.cellsOf 347=4:=by kernel_rfl
theorem xu(w:World):(zeroValue 347).run prog w= .ok (.agg (A64 (aa 64 4))) w:=by kernel_rfl
@[go_sem ↓ high] theorem AZ(w:World):(Instr.alloc 347 true (.tuple #[])).run prog w= .ok (.pointer (some ⟨w.heap.size,0,none⟩)) (w.alloc (.cells (A64 (aa 64 4)) 347)):=aA xu w
@[go_sem ↓ high] theorem Av(w:World):(Instr.build 347 #[]).run prog w= .ok (.agg (A64 (aa 64 4))) w:=by kernel_rfl
@[go_sem] theorem zf:prog.cellsOf 350=5:=by kernel_rfl
@[go_sem ↓ high] theorem Aw(w:World):(Instr.build 350 #[]).run prog w= .ok (.agg (A64 (aa 64 5))) w:=by kernel_rfl
@[go_sem] theorem Ax:prog.cellsOf 78=256:=by kernel_rfl
@[go_sem ↓ high] theorem Ba(w:World):(Instr.build 78 #[]).run prog w= .ok (.agg (A8 (aa 8 256))) w:=by kernel_rfl
@[go_sem] theorem Ay:prog.cellsOf 77=255:=by kernel_rfl
theorem zg(w:World):(zeroValue 77).run prog w= .ok (.agg (A8 (aa 8 255))) w:=by kernel_rfl
@[go_sem ↓ high] theorem Ca(w:World):(Instr.alloc 77 true (.tuple #[])).run prog w= .ok (.pointer (some ⟨w.heap.size,0,none⟩)) (w.alloc (.cells (A8 (aa 8 255)) 77)):=aA zg w
@[go_sem ↓ high] theorem Bb(w:World):(Instr.build 77 #[]).run prog w= .ok (.agg (A8 (aa 8 255))) w:=by kernel_rfl
@[go_sem] theorem zh:prog.cellsOf 233=16:=by kernel_rfl
theorem xv(w:World):(zeroValue 233).run prog w= .ok (.agg (A32 (aa 32 16))) w:=by kernel_rfl
@[go_sem ↓ high] theorem Bc(w:World):(Instr.alloc 233 true (.tuple #[])).run prog w= .ok (.pointer (some ⟨w.heap.size,0,none⟩)) (w.alloc (.cells (A32 (aa 32 16)) 233)):=aA xv w
@[go_sem ↓ high] theorem Az(w:World):(Instr.build 233 #[]).run prog w= .ok (.agg (A32 (aa 32 16))) w:=by kernel_rfl
@[go_sem] theorem zi:prog.cellsOf 342=5:=by kernel_rfl
theorem xw(w:World):(zeroValue 342).run prog w= .ok (.agg (A32 (aa 32 5))) w:=by kernel_rfl
@[go_sem ↓ high] theorem Bd(w:World):(Instr.alloc 342 true (.tuple #[])).run prog w= .ok (.pointer (some ⟨w.heap.size,0,none⟩)) (w.alloc (.cells (A32 (aa 32 5)) 342)):=aA xw w
@[go_sem ↓ high] theorem AA(w:World):(Instr.build 342 #[]).run prog w= .ok (.agg (A32 (aa 32 5))) w:=by kernel_rfl
@[go_sem] theorem zj:prog.cellsOf 351=5:=by kernel_rfl
theorem xx(w:World):(zeroValue 351).run prog w= .ok (.agg (A64 (aa 64 5))) w:=by kernel_rfl
@[go_sem ↓ high] theorem Be(w:World):(Instr.alloc 351 true (.tuple #[])).run prog w= .ok (.pointer (some ⟨w.heap.size,0,none⟩)) (w.alloc (.cells (A64 (aa 64 5)) 351)):=aA xx w
@[go_sem ↓ high] theorem AB(w:World):(Instr.build 351 #[]).run prog w= .ok (.agg (A64 (aa 64 5))) w:=by kernel_rfl
@[go_sem] theorem zk:prog.cellsOf 197=4:=by kernel_rfl
theorem xy(w:World):(zeroValue 197).run prog w= .ok (.agg (A8 (aa 8 4))) w:=by kernel_rfl
@[go_sem ↓ high] theorem Bf(w:World):(Instr.alloc 197 true (.tuple #[])).run prog w= .ok (.pointer (some ⟨w.heap.size,0,none⟩)) (w.alloc (.cells (A8 (aa 8 4)) 197)):=aA xy w
@[go_sem ↓ high] theorem AC(w:World):(Instr.build 197 #[]).run prog w= .ok (.agg (A8 (aa 8 4))) w:=by kernel_rfl
open Go.RowKit
def splc {n:Nat}(m:List (BitVec n))(o:Nat)(l:List (BitVec n)):List (BitVec n):=m.take o++l++m.drop (o+l.length)
theorem aL {n:Nat}(m:List (BitVec n))(o:Nat)(l:List (BitVec n))(h:o+l.length≤m.length):(splc m o l).length=m.length:=by simp[splc];omega
theorem oP {n:Nat}(m:List (BitVec n))(o:Nat):splc m o []=m:=by simp[splc]
theorem mG {n:Nat}(m l:List (BitVec n))(h:l.length=m.length):splc m 0 l=l:=by simp[splc,h]
theorem eJ {n:Nat}(m:List (BitVec n))(o:Nat)(l:List (BitVec n))(h:o+l.length≤m.length)(i:Nat):nth (splc m o l) i=if o≤i∧i<o+l.length then nth l (i-o)else nth m i:=by
 have e:(m.take o).length=o:=by simp;omega
 unfold splc;rw[List.append_assoc,bO,e];by_cases h1:i<o
 ·rw[if_pos h1,aJ _ _ _ h1,if_neg (by omega)]
 ·rw[if_neg h1,bO];by_cases h2:i-o<l.length
  ·rw[if_pos h2,if_pos (by omega)]
  ·rw[if_neg h2,if_neg (by omega),bv];congr 1;omega
theorem oQ {w:World} {g:Nat} {cs:Array Value}(hw:whole w g=true)(hr:ar w g=cs):w.setRow g cs=w:=by
 obtain⟨c,e,hg⟩:=cV hw;have:c=cs:=by rw[←hr];unfold ar;rw[hg]
 subst this;simp only[World.setRow];congr 1;apply Array.ext_getElem?;intro i;simp only[Array.getElem?_modify];by_cases h:g=i
 ·subst h;simp[hg]
 ·simp[h]
theorem ah {w:World} {g:Nat}(cs:Array Value)(hw:whole w g=true):ar (w.setRow g cs) g=cs:=by
 obtain⟨c,e,hg⟩:=cV hw;unfold ar;rw[setRow_heap w g c cs e _ hg]
theorem nL {w:World} {g:Nat}(hw:whole w g=true)(i:Nat):w.frozen? ⟨g,i,none⟩=false:=by
 obtain⟨c,e,hg⟩:=cV hw;simp[World.frozen?,hg]
theorem jN {B:Nat} {w w':World} {g:Nat}(hb:Below B w w')(h:g<B):ar w' g=ar w g:=by
 unfold ar;rw[hb.block g h]
def Blk(w:World)(g:Nat)(t:TypeId)(cs:Array Value):Prop:=w.heap[g]? =some (.cells cs t (0,0))
section
variable {w w':World} {g:Nat} {t:TypeId} {cs:Array Value}
theorem Blk.lt(h:Blk w g t cs):g<w.heap.size:=(Array.getElem?_eq_some_iff.1 h).1
theorem Blk.row(h:Blk w g t cs):ar w g=cs:=by unfold Blk at h;unfold ar;rw[h]
theorem Blk.whole(h:Blk w g t cs):whole w g=true:=by unfold Blk at h;unfold Go.Proofs.YtlpkfdkhlffmlaaGreatDoor.whole;rw[h];rfl
theorem Blk.cell(h:Blk w g t cs)(i:Nat):w.cell? ⟨g,i,none⟩=cs[i]?:=by rw[aO,h.row]
theorem Blk.frozen(h:Blk w g t cs)(i:Nat):w.frozen? ⟨g,i,none⟩=false:=nL h.whole i
theorem Blk.new(w:World)(t:TypeId)(cs:Array Value):Blk (w.alloc (.cells cs t)) w.heap.size t cs:=heap_alloc_new w _
theorem Blk.drew(h:Blk w g t cs):Blk w.drew g t cs:=h
theorem Blk.alloc(h:Blk w g t cs)(o:Obj):Blk (w.alloc o) g t cs:=(World.alloc_old' w o g h.lt).trans h
theorem Blk.set_(h:Blk w g t cs)(i:Nat)(u:Value):Blk (w.setCell ⟨g,i,none⟩ u) g t (cs.setIfInBounds i u):=heap_setCell_same w g i cs t u h
theorem Blk.far(h:Blk w g t cs) {p:Addr}(hp:g≠p.block)(u:Value):Blk (w.setCell p u) g t cs:=(heap_setCell_other w p g u hp).trans h
theorem Blk.put(h:Blk w g t cs)(cs':Array Value):Blk (w.setRow g cs') g t cs':=setRow_heap w g cs cs' t _ h
theorem Blk.farRow(h:Blk w g t cs) {k:Nat}(hp:g≠k)(cs':Array Value):Blk (w.setRow k cs') g t cs:=(setRow_other w k g cs' hp).trans h
theorem Blk.below {B:Nat}(h:Blk w g t cs)(hb:Below B w w')(hg:g<B):Blk w' g t cs:=(hb.block g hg).trans h
theorem Blk.belowAll(h:Blk w g t cs)(hb:Below w.heap.size w w'):Blk w' g t cs:=h.below hb h.lt
end
theorem av {a b c:World} {r:Option Nat}(h:a.grownBy b r)(k:b.grownBy c r):a.grownBy c r:=
 ⟨k.os.trans h.os,k.tape.trans h.tape,k.output.trans h.output,Nat.le_trans h.size k.size,fun j hj hr=>(k.block j (Nat.lt_of_lt_of_le hj h.size) hr).trans (h.block j hj hr)⟩
theorem dK(w:World)(r:Option Nat):w.grownBy w r:=⟨rfl,rfl,rfl,Nat.le_refl _,fun _ _ _=>rfl⟩
theorem kO {a b:World} {r:Option Nat}(h:a.grownBy b r):a.grownBy b.drew r:=⟨h.os,h.tape,h.output,h.size,h.block⟩
theorem aC(w:World)(g i:Nat)(v:Value):w.grownBy (w.setCell ⟨g,i,none⟩ v) (some g):=
 ⟨rfl,rfl,rfl,by simp,fun k _ hr=>heap_setCell_other w ⟨g,i,none⟩ k v (fun e=>hr (by rw[e]))⟩
theorem aP(w:World)(g:Nat)(cs:Array Value):w.grownBy (w.setRow g cs) (some g):=
 ⟨rfl,rfl,rfl,by simp,fun k _ hr=>setRow_other w g k cs (fun e=>hr (by rw[e]))⟩
theorem ac {B g:Nat} {w w':World}(h:w.grownBy w' (some g))(hB:B≤g)(hs:B≤w.heap.size):Below B w w':=(Below.refl B w).grown h hs (fun k hk=>by cases hk;exact hB)
theorem aW {w w':World}(h:Below w.heap.size w w')(r:Option Nat):w.grownBy w' r:=⟨h.os,h.tape,h.output,h.size,fun k hk _=>h.block k hk⟩
theorem Blk.grown {w w':World} {g:Nat} {t:TypeId} {cs:Array Value} {r:Option Nat}(h:Blk w g t cs)(hg:w.grownBy w' r)(hr:some g≠r):Blk w' g t cs:=(hg.block g h.lt hr).trans h
theorem Blk.cell8 {w:World} {g:Nat} {t:TypeId} {s:Y8} {m:Nat}(h:Blk w g t (A8 s))(hs:s.length=m)(i:Nat)(hi:i<m):w.cell? ⟨g,i,none⟩=some (v8 (nth s i)):=by
 rw[h.cell,jm s i (by omega)]
theorem Blk.cell32 {w:World} {g:Nat} {t:TypeId} {s:List (BitVec 32)} {m:Nat}(h:Blk w g t (A32 s))(hs:s.length=m)(i:Nat)(hi:i<m):w.cell? ⟨g,i,none⟩=some (v32 (nth s i)):=by
 rw[h.cell,nK s i (by omega)]
theorem Blk.cell64 {w:World} {g:Nat} {t:TypeId} {s:List (BitVec 64)} {m:Nat}(h:Blk w g t (A64 s))(hs:s.length=m)(i:Nat)(hi:i<m):w.cell? ⟨g,i,none⟩=some (v64 (nth s i)):=by
 rw[h.cell,iC s i (by omega)]
theorem Blk.rd8 {w:World} {g:Nat} {t:TypeId} {m:Y8}(h:Blk w g t (A8 m))(k:Nat)(hk:k≤m.length)(hm:m.length≤maxLen):Rd8 w (some ⟨g,0,none⟩) k m.length (m.take k):=
 ⟨by simp;omega,hk,hm,fun _=>⟨g,0,rfl,h.lt,fun i hi=>by rw[Nat.zero_add,h.cell,jm m i (by omega),aJ _ _ _ hi]⟩⟩
theorem Rd8.cells {w:World} {a:Option Addr} {n c:Nat} {l:Y8}(h:Rd8 w a n c l)(hn:0<n): ∃ad,a=some ad∧ ∀j v,(l.map v8)[j]? =some v→w.cell? (ad.add j)=some v:=by
 obtain⟨b,o,rfl,_,hc⟩:=h.2.2.2 hn;refine⟨_,rfl,fun j v hj=> ?_⟩;have hj':j<l.length:=by have:=(List.getElem?_eq_some_iff.1 hj).1;simpa using this
 rw[Addr.add_lit,hc j (by have:=h.1;omega),←hj,List.getElem?_map,dv hj'];rfl
section
variable {P:Program}
theorem jn(w:World)(dT sT ty elem:TypeId)(g o dLen dCap:Nat)(a:Option Addr)(sLen sCap:Nat)(m l:Y8)(hu:P.underlying dT=some (.slice elem))(hs:(P.info? elem).map (·.size)=some 1)
  (hw:whole w g=true) (hr:ar w g=A8 m) (hl:Rd8 w a sLen sCap l) (hfit:o+min sLen dLen≤m.length):
  (Builtin.copy_ #[dT,sT] ty #[.slice (some ⟨g,o,none⟩) dLen dCap,.slice a sLen sCap]).run P w= .ok (goInt (min sLen dLen)) (w.setRow g (A8 (splc m o (l.take (min sLen dLen))))):=by
 obtain⟨cur,e,hg⟩:=cV hw;have hcur:cur=A8 m:=by rw[←hr];unfold ar;rw[hg]
 subst hcur;by_cases hn:min sLen dLen=0
 ·rw[hn,List.take_zero,oP,oQ hw hr];have hn':Nat.min sLen dLen=0:=hn;have hz:min (sLen:Int) (dLen:Int)=0:=by omega
  cases hq:P.info? elem with
  |none=>simp[hq]at hs
  |some i=>
   cases a with
   |none=>simp[Builtin.copy_,run_underlying hu,Builtin.lenOf,Builtin.firstCells,sizeOf,typeInfo,hq,storeCells,hn',hz]
   |some x=>simp[Builtin.copy_,run_underlying hu,Builtin.lenOf,Builtin.firstCells,sizeOf,typeInfo,hq,storeCells,hn',hz,loadCells,loadCellsFrom]
 ·obtain⟨ad,rfl,hc⟩:=hl.cells (by omega);have hlen:(l.take (min sLen dLen)).length=min sLen dLen:=by rw[List.length_take,hl.1];omega
  have h:=run_copy_row (P:=P) w dT sT ty elem g o dLen dCap ad sLen sCap (A8 m) e ((l.take (min sLen dLen)).map v8) hu hs hg (by rw[List.length_map,hlen]) (fun j v hj=>by
   refine hc j v ?_;rw[List.map_take,List.getElem?_take]at hj
   split at hj
   ·exact hj
   ·cases hj) (by rw[List.length_map,hlen,au];exact hfit) (fun v hv=>by
    obtain⟨x,_,rfl⟩:=List.mem_map.1 hv;rfl)
  rw[h,List.length_map,hlen];have hg':goInt ((min sLen dLen:Nat):Int)=goInt (min (sLen:Int) (dLen:Int)):=by congr 1;omega
  have hrow:((A8 m).toList.take o++(l.take (min sLen dLen)).map v8++(A8 m).toList.drop (o+min sLen dLen)).toArray=A8 (splc m o (l.take (min sLen dLen))):=by
   apply Array.ext';rw[cU,cU];simp only[splc,hlen,List.map_append,List.map_take,List.map_drop]
  rw[hrow,hg']
theorem bZ(w:World)(t e:TypeId)(l c:Int)(ht:P.underlying t=some (.slice e))(hi:(P.info? e).map (fun i=>(i.zero,i.size,i.bytes))=some (some (.int .u8 0),1,1))(h0:0≤l)(hlc:l≤c)(hb:c≤281474976710656):
  (Instr.makeSlice t (.int .i64 l) (.int .i64 c)).run P w= .ok (.slice (some ⟨w.heap.size,0,none⟩) l.toNat c.toNat) (w.alloc (.cells (A8 (aa 8 c.toNat)) e)):=by
 obtain⟨i,hi,hz,hs,hby⟩:=info_parts hi;rw[run_make w t e i (.int .u8 0) ht hi hz .i64 .i64 l c h0 hlc (by rw[hby];omega) (by omega)];congr 3;apply Array.ext';rw[hs,Nat.mul_one];show(madeCells #[Value.int .u8 0] c.toNat).toList=_;rw[toList_madeCells_one,cU,aa,List.map_replicate];rfl
end
theorem new1(w W:World)(c0:Array Value)(t0:TypeId)(h:(w.alloc (.cells c0 t0))=W):Blk W w.heap.size t0 c0∧Below w.heap.size w W∧W.heap.size=w.heap.size+1:=by
 subst h;exact⟨Blk.new _ _ _,(Below.refl _ _).alloc (Nat.le_refl _) _,by simp⟩
theorem new2(w W:World)(c0 c1:Array Value)(t0 t1:TypeId)(h:((w.alloc (.cells c0 t0)).alloc (.cells c1 t1))=W):Blk W w.heap.size t0 c0∧Blk W (w.heap.size+1) t1 c1∧Below w.heap.size w W∧W.heap.size=w.heap.size+2:=by
 subst h;obtain⟨h0,hb,hz⟩:=new1 w _ c0 t0 rfl;have hn:=Blk.new (w.alloc (.cells c0 t0)) t1 c1;rw[hz]at hn;exact⟨h0.alloc _,hn,hb.alloc hb.size _,by rw[World.size_alloc,hz]⟩
theorem new3(w W:World)(c0 c1 c2:Array Value)(t0 t1 t2:TypeId)(h:(((w.alloc (.cells c0 t0)).alloc (.cells c1 t1)).alloc (.cells c2 t2))=W):Blk W w.heap.size t0 c0∧Blk W (w.heap.size+1) t1 c1∧Blk W (w.heap.size+2) t2 c2∧Below w.heap.size w W∧W.heap.size=w.heap.size+3:=by
 subst h;obtain⟨h0,h1,hb,hz⟩:=new2 w _ c0 c1 t0 t1 rfl;have hn:=Blk.new ((w.alloc (.cells c0 t0)).alloc (.cells c1 t1)) t2 c2;rw[hz]at hn;exact⟨h0.alloc _,h1.alloc _,hn,hb.alloc hb.size _,by rw[World.size_alloc,hz]⟩
theorem new4(w W:World)(c0 c1 c2 c3:Array Value)(t0 t1 t2 t3:TypeId)(h:((((w.alloc (.cells c0 t0)).alloc (.cells c1 t1)).alloc (.cells c2 t2)).alloc (.cells c3 t3))=W):Blk W w.heap.size t0 c0∧Blk W (w.heap.size+1) t1 c1∧Blk W (w.heap.size+2) t2 c2∧Blk W (w.heap.size+3) t3 c3∧Below w.heap.size w W∧W.heap.size=w.heap.size+4:=by
 subst h;obtain⟨h0,h1,h2,hb,hz⟩:=new3 w _ c0 c1 c2 t0 t1 t2 rfl;have hn:=Blk.new (((w.alloc (.cells c0 t0)).alloc (.cells c1 t1)).alloc (.cells c2 t2)) t3 c3;rw[hz]at hn;exact⟨h0.alloc _,h1.alloc _,h2.alloc _,hn,hb.alloc hb.size _,by rw[World.size_alloc,hz]⟩
def Own8(w:World)(B:Nat)(e:TypeId)(v:Value)(l:Y8):Prop:=w.ownsRow B e 1 v l.length (l.map v8)
theorem Own8.nil_(w:World)(B:Nat)(e:TypeId):Own8 w B e (.slice none 0 0) []:=World.ownsRow_nil w B e 1
theorem Own8.made(w:World)(B:Nat)(e:TypeId)(m:Y8)(n:Nat)(hB:B≤w.heap.size)(hn:n≤m.length)(hm:m.length≤maxLen):Own8 (w.alloc (.cells (A8 m) e)) B e (.slice (some ⟨w.heap.size,0,none⟩) n m.length) (m.take n):=by
 refine⟨by simp,.inr ⟨w.heap.size,m.length,A8 m,by simp[Nat.min_eq_left hn],hB,heap_alloc_new w _,by simp[Nat.min_eq_left hn,hn],hm,by simp[A8],by simp[A8,Nat.min_eq_left hn,List.map_take]⟩⟩
theorem Own8.blk {w:World} {B g:Nat} {e:TypeId} {m:Y8}(h:Blk w g e (A8 m))(n:Nat)(hB:B≤g)(hn:n≤m.length)(hm:m.length≤maxLen):Own8 w B e (.slice (some ⟨g,0,none⟩) n m.length) (m.take n):=by
 refine⟨by simp,.inr ⟨g,m.length,A8 m,by simp[Nat.min_eq_left hn],hB,h,by simp[Nat.min_eq_left hn,hn],hm,by simp[A8],by simp[A8,Nat.min_eq_left hn,List.map_take]⟩⟩
theorem Own8.rd {w:World} {B:Nat} {e:TypeId} {v:Value} {l:Y8}(h:Own8 w B e v l): ∃a c,v= .slice a l.length c∧Rd8 w a l.length c l∧(∀ad,a=some ad→B≤ad.block):=by
 rcases h.2 with⟨rfl,h0⟩|⟨g,cap,cur,rfl,hg,hh,hnc,hcm,hcs,hx⟩
 ·refine⟨_,_,by rw[h0],⟨rfl,by omega,by unfold maxLen;omega,fun hn=>by omega⟩,fun ad had=>by cases had⟩
 ·refine⟨_,_,rfl,⟨rfl,hnc,hcm,fun hn=>⟨g,0,rfl,(Array.getElem?_eq_some_iff.1 hh).1,fun i hi=> ?_⟩⟩,fun ad had=>by cases had;exact hg⟩;rw[Nat.zero_add,aO];unfold ar;rw[hh];have h2:=congrArg (fun l:List Value=>l[i]?) hx;simp only[Nat.mul_one,List.getElem?_take,hi,if_true,List.getElem?_map,dv hi]at h2;simpa using h2
theorem Own8.alloc {w:World} {B:Nat} {e:TypeId} {v:Value} {l:Y8}(h:Own8 w B e v l)(o:Obj):Own8 (w.alloc o) B e v l:=World.ownsRow.alloc h o
theorem Own8.drew {w:World} {B:Nat} {e:TypeId} {v:Value} {l:Y8}(h:Own8 w B e v l):Own8 w.drew B e v l:=h
theorem Own8.below {w w':World} {B:Nat} {e:TypeId} {v:Value} {l:Y8}(h:Own8 w B e v l)(hb:Below w.heap.size w w'):Own8 w' B e v l:=by
 refine⟨h.1,?_⟩;rcases h.2 with h0|⟨g,cap,cur,hv,hg,hh,hr⟩
 ·exact .inl h0
 ·exact .inr ⟨g,cap,cur,hv,hg,by rw[hb.block g (Array.getElem?_eq_some_iff.1 hh).1];exact hh,hr⟩
section
variable {P:Program}
theorem oS(w:World)(B:Nat)(t ty e:TypeId)(ht:P.underlying t=some (.slice e))(hi:(P.info? e).map (fun i=>(i.zero,i.size,i.bytes))=some (some (.int .u8 0),1,1))
  (v:Value) (l:Y8) (hown:Own8 w B e v l) (a:Option Addr) (m c:Nat) (s:Y8) (hr:Rd8 w a m c s) (hb:l.length+m≤140737488355328) (hbase:B≤w.heap.size):
  ∃v' w',(Builtin.append_ #[t,t] ty #[v,.slice a m c]).run P w= .ok v' w'∧Own8 w' B e v' (l++s)∧w.grownBy w' v.ownBlock∧Below B w w':=by
 obtain⟨i,hi,hz,hs,hby⟩:=info_parts hi;have hbel: ∀w',w.grownBy w' v.ownBlock→Below B w w':=fun w' hg=>(Below.refl B w).grown hg hbase (fun k hk=>(World.ownsRow.lt hown k hk).1);by_cases hm:m=0
 ·subst hm;have hs0:s=[]:=List.eq_nil_of_length_eq_zero hr.1;subst hs0;refine⟨v,w,?_,by rw[List.append_nil];exact hown,World.grownBy.refl w _,Below.refl _ _⟩;rcases hown.2 with⟨rfl,_⟩|⟨g,cap,cur,rfl,_,_,hnc,_⟩
  ·cases a<;>simp[Builtin.append_,run_underlying ht,sizeOf,typeInfo,hi,Builtin.lenOf,Builtin.firstCells,loadCells,loadCellsFrom]
  ·cases a<;>simp[Builtin.append_,run_underlying ht,sizeOf,typeInfo,hi,Builtin.lenOf,Builtin.firstCells,loadCells,loadCellsFrom,hnc,storeCells]
 ·obtain⟨ad,rfl,hc⟩:=hr.cells (by omega);obtain⟨v',w',hrun,hown',hg,_⟩:=run_append_own (P:=P) w B t ty e i (.int .u8 0) 1 1 ht hi hz hs hby rfl (by omega) v l.length (l.map v8) hown ad m c (s.map v8) (by simp[hr.1]) hc
   (fun u hu=>by obtain⟨x,_,rfl⟩:=List.mem_map.1 hu;rfl) (by unfold maxLen;omega) (by omega) hbase
  refine⟨v',w',hrun,?_,hg,hbel _ hg⟩;unfold Own8;rw[List.length_append,hr.1,List.map_append];exact hown'
end
end Go.Proofs.YtlpkfdkhlffmlaaGreatDoor
