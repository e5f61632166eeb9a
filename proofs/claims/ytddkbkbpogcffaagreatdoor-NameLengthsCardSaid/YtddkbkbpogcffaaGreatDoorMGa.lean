/-
  Words that all walks of this seat share:numbers of 8,32 and 64 bits as bit vectors behind plain definitions,and what the operations make of them. No program in sight.
-/
import Derived.WalkKit
import Derived.Lib.Hide
import Derived.Lib.MinMax
import Derived.Laws.CopyOwn
import Derived.Laws.EntriesVeiled
import Derived.Test.YtddkbkbpogcffaaGreatDoorRows
import Derived.Laws.OwnMore
namespace Go.Proofs.YtddkbkbpogcffaaGreatDoor
open Go.Proofs.Tryz
set_option linter.unusedSimpArgs false
set_option linter.unusedVariables false
set_option maxRecDepth 100000
set_option maxHeartbeats 1600000
abbrev Y8:=List (BitVec 8)
universe u
theorem zz1 {α:Type u}(l:List α)(i:Nat)(a:α):l.toArray.setIfInBounds i a=(l.set i a).toArray:=List.setIfInBounds_toArray l i a
theorem zz2 {α:Type u} {x:α} {xs:List α} {i:Nat} {a:α}:(x::xs).set (i+1) a=x::xs.set i a:=List.set_cons_succ
theorem zz3 {α:Type u} {x:α} {xs:List α} {a:α}:(x::xs).set 0 a=a::xs:=List.set_cons_zero
theorem zz4 {α:Type u} {xs:Array α} {i:Nat} {d:α}:xs.getD i d=xs[i]?.getD d:=Array.getD_eq_getD_getElem?
theorem zz5 {α:Type u} {xs:List α} {i:Nat}:xs.toArray[i]? =xs[i]?:=List.getElem?_toArray
theorem zz6 {α:Type u} {a:α} {i:Nat} {l:List α}:(a::l)[i+1]? =l[i]?:=List.getElem?_cons_succ
theorem zz7 {α:Type u} {a:α} {l:List α}:(a::l)[0]? =some a:=List.getElem?_cons_zero
theorem zz8 {α:Type u} {a b:α}:(some a).getD b=a:=Option.getD_some
open Go.RowKit
def v8(x:BitVec 8):Value:= .int .u8 (x.toNat:Int)
def v32(x:BitVec 32):Value:= .int .u32 (x.toNat:Int)
def v64(x:BitVec 64):Value:= .int .u64 (x.toNat:Int)
theorem dt(k:IntKind)(hk:k.signed=false)(n:Int):k.wrap n=((BitVec.ofInt k.bits n).toNat:Int):=by
 cases k<;>simp[IntKind.signed]at hk<;>simp[IntKind.wrap,IntKind.bits,IntKind.signed,BitVec.toNat_ofInt]<;>omega
theorem yM(n:Nat)(x y:Int):BitVec.ofInt n (x-y)=BitVec.ofInt n x-BitVec.ofInt n y:=by
 rw[Int.sub_eq_add_neg,BitVec.ofInt_add,BitVec.ofInt_neg,←BitVec.sub_eq_add_neg]
theorem aC(n:Nat)(x:BitVec n):BitVec.ofInt n (x.toNat:Int)=x:=by simp
def amt {n:Nat}(b:BitVec n):Nat:=b.toNat
def uv(k:IntKind)(x:BitVec k.bits):Value:= .int k (x.toNat:Int)
section
variable {k:IntKind} (hk:k.signed=false) (t:TypeId) (x y:Int) (a b:BitVec k.bits) (hx:BitVec.ofInt k.bits x=a) (hy:BitVec.ofInt k.bits y=b)
include hk hx hy
theorem qj:binOp .add t (.int k x) (.int k y)=pure (uv k (a+b)):=by
 subst hx hy;simp[binOp_add,Op.intArith,dt k hk,BitVec.ofInt_add,uv]
theorem vp:binOp .sub t (.int k x) (.int k y)=pure (uv k (a-b)):=by
 subst hx hy;simp[binOp_sub,Op.intArith,dt k hk,yM,uv,-BitVec.toNat_ofInt,-BitVec.toNat_sub]
theorem qk:binOp .mul t (.int k x) (.int k y)=pure (uv k (a*b)):=by
 subst hx hy;simp[binOp_mul,Op.intArith,dt k hk,BitVec.ofInt_mul,uv]
theorem mG:binOp .and t (.int k x) (.int k y)=pure (uv k (a&&&b)):=by
 subst hx hy;simp only[binOp_and,Op.intBits,dt k hk,uv,aC]
theorem yN:binOp .or t (.int k x) (.int k y)=pure (uv k (a|||b)):=by
 subst hx hy;simp only[binOp_or,Op.intBits,dt k hk,uv,aC]
theorem ql:binOp .xor t (.int k x) (.int k y)=pure (uv k (a^^^b)):=by
 subst hx hy;simp only[binOp_xor,Op.intBits,dt k hk,uv,aC]
end
theorem kW {k:IntKind}(hk:k.signed=false)(t:TypeId)(yk:IntKind)(a:BitVec k.bits)(n:Int)(hn:0≤n):binOp .shl t (uv k a) (.int yk n)=pure (uv k (a<<<n.toNat)):=by
 obtain⟨m,rfl⟩:=Int.eq_ofNat_of_zero_le hn;simp only[uv,binOp,Op.shift,if_neg (show¬(m:Int)<0 by omega),dt k hk];congr 3;rw[Int.toNat_natCast,show((a.toNat:Int)*2^min m k.bits)=((a.toNat*2^min m k.bits:Nat):Int) by simp];rw[BitVec.ofInt_natCast,BitVec.toNat_ofNat,BitVec.toNat_shiftLeft,Nat.shiftLeft_eq];by_cases h:m≤k.bits
 ·rw[Nat.min_eq_left h]
 ·rw[Nat.min_eq_right (by omega),Nat.mul_mod_left,show m=k.bits+(m-k.bits) by omega,Nat.pow_add,←Nat.mul_assoc,Nat.mul_right_comm,Nat.mul_mod_left]
theorem kX {k:IntKind}(t:TypeId)(yk:IntKind)(a:BitVec k.bits)(n:Int)(hn:0≤n):binOp .shr t (uv k a) (.int yk n)=pure (uv k (a>>>n.toNat)):=by
 obtain⟨m,rfl⟩:=Int.eq_ofNat_of_zero_le hn;simp only[uv,binOp,Op.shift,if_neg (show¬(m:Int)<0 by omega)];congr 2;rw[Int.toNat_natCast,BitVec.toNat_ushiftRight,Nat.shiftRight_eq_div_pow,Int.fdiv_eq_ediv_of_nonneg _ (by exact_mod_cast Nat.zero_le _)];have hp:(2:Int)^min m k.bits=((2^min m k.bits:Nat):Int):=by simp
 rw[hp,←Int.natCast_ediv];congr 1;by_cases h:m≤k.bits
 ·rw[Nat.min_eq_left h]
 ·have hb:=a.isLt;rw[Nat.min_eq_right (by omega),Nat.div_eq_of_lt hb,Nat.div_eq_of_lt (Nat.lt_of_lt_of_le hb (Nat.pow_le_pow_right (by omega) (by omega)))]
@[go_sem high] theorem LH(t:TypeId)(a:BitVec 8)(m:Int):binOp .add t (v8 a) (.int .u8 m)=pure (v8 (a+(BitVec.ofInt 8 m))):=qj (k:= .u8) rfl t _ _ a _ (aC 8 a) rfl
@[go_sem high] theorem LI(t:TypeId)(a:BitVec 8)(m:Int):binOp .sub t (v8 a) (.int .u8 m)=pure (v8 (a-(BitVec.ofInt 8 m))):=vp (k:= .u8) rfl t _ _ a _ (aC 8 a) rfl
@[go_sem high] theorem Nk(t:TypeId)(a b:BitVec 8):binOp .mul t (v8 a) (v8 b)=pure (v8 (a*b)):=qk (k:= .u8) rfl t _ _ a b (aC 8 a) (aC 8 b)
@[go_sem high] theorem LJ(t:TypeId)(a:BitVec 8)(m:Int):binOp .mul t (v8 a) (.int .u8 m)=pure (v8 (a*(BitVec.ofInt 8 m))):=qk (k:= .u8) rfl t _ _ a _ (aC 8 a) rfl
@[go_sem high] theorem Ek(t:TypeId)(a b:BitVec 8):binOp .and t (v8 a) (v8 b)=pure (v8 (a&&&b)):=mG (k:= .u8) rfl t _ _ a b (aC 8 a) (aC 8 b)
@[go_sem high] theorem LK(t:TypeId)(a:BitVec 8)(m:Int):binOp .and t (v8 a) (.int .u8 m)=pure (v8 (a&&&(BitVec.ofInt 8 m))):=mG (k:= .u8) rfl t _ _ a _ (aC 8 a) rfl
@[go_sem high] theorem Nu(t:TypeId)(a b:BitVec 8):binOp .or t (v8 a) (v8 b)=pure (v8 (a|||b)):=yN (k:= .u8) rfl t _ _ a b (aC 8 a) (aC 8 b)
@[go_sem high] theorem Nl(t:TypeId)(a b:BitVec 8):binOp .xor t (v8 a) (v8 b)=pure (v8 (a^^^b)):=ql (k:= .u8) rfl t _ _ a b (aC 8 a) (aC 8 b)
@[go_sem high] theorem Nm(t:TypeId)(yk:IntKind)(a:BitVec 8)(m:Int)(hm:0≤m):binOp .shl t (v8 a) (.int yk m)=pure (v8 (a<<<m.toNat)):=kW (k:= .u8) rfl t yk a m hm
@[go_sem high] theorem Nn(t:TypeId)(yk:IntKind)(a:BitVec 8)(m:Int)(hm:0≤m):binOp .shr t (v8 a) (.int yk m)=pure (v8 (a>>>m.toNat)):=kX (k:= .u8) t yk a m hm
@[go_sem high] theorem Jo(t:TypeId)(a b:BitVec 8):binOp .eql t (v8 a) (v8 b)=pure (.bool (a==b)):=by rw[v8,v8,binOp_eql];congr 2;rw[Bool.eq_iff_iff,beq_iff_eq,beq_iff_eq,Int.natCast_inj,BitVec.toNat_inj]
theorem Jq(m:Nat)(h:m<2^8):Value.int .u8 (m:Int)=v8 (BitVec.ofNat 8 m):=by rw[v8,BitVec.toNat_ofNat,Nat.mod_eq_of_lt h]
@[go_sem high] theorem LM(t:TypeId)(a:BitVec 8)(m:Nat)(h:m<2^8):binOp .eql t (v8 a) (.int .u8 (no_index (OfNat.ofNat m)))=pure (.bool (a==BitVec.ofNat 8 m)):=by rw[←Jo t a,←Jq m h];rfl
@[go_sem high] theorem LN(t:TypeId)(a:BitVec 8)(m:Nat):binOp .leq t (v8 a) (.int .u8 (no_index (OfNat.ofNat m)))=pure (.bool (decide (a.toNat≤m))):=by rw[show Value.int .u8 (OfNat.ofNat m)=Value.int .u8 (m:Int) from rfl,v8,binOp_leq];congr 2;simp
@[go_sem high] theorem LO(t:TypeId)(a:BitVec 8)(m:Nat):binOp .geq t (v8 a) (.int .u8 (no_index (OfNat.ofNat m)))=pure (.bool (decide (m≤a.toNat))):=by rw[show Value.int .u8 (OfNat.ofNat m)=Value.int .u8 (m:Int) from rfl,v8,binOp_geq];congr 2;simp
@[go_sem high] theorem LP(op:BinOp)(t:TypeId)(x y:Operand)(a:BitVec 8)(v:Value):eqGuard op t x y (v8 a) v=pure ():=by unfold eqGuard v8;split<;>rfl
@[go_sem high] theorem El(a:BitVec 8):(v8 a).cells= #[v8 a]:=rfl
@[go_sem high] theorem MY(a:BitVec 8):(v8 a).oneCell' =true:=rfl
@[go_sem high] theorem KH {P:Program}(w:World)(s d:TypeId)(m:Int)(hs:P.underlying s=some (.int .i64))(hd:P.underlying d=some (.int .u8)):(convert s d (.int .i64 m)).run P w= .ok (v8 (BitVec.ofInt 8 m)) w:=by simp[convert,run_underlying hs,run_underlying hd,v8,Conv.intToInt,dt .u8 rfl,-BitVec.toNat_ofInt];rfl
@[go_sem high] theorem Em {P:Program}(w:World)(a:Addr)(m:Mode)(n:BitVec 8):(store a (v8 n) m).run P w=stored P w a (v8 n) m:=run_store P w a _ m rfl
@[go_sem high] theorem KI(a:BitVec 8) {P:Program}(w:World)(s d:TypeId)(hs:P.underlying s=some (.int .u8))(hd:P.underlying d=some (.int .u32)):(convert s d (v8 a)).run P w= .ok (v32 (a.setWidth 32)) w:=by simp[convert,run_underlying hs,run_underlying hd,v8,v32,Conv.intToInt,dt .u32 rfl,IntKind.bits]
@[go_sem high] theorem Js(t:TypeId)(a:BitVec 8)(b:BitVec 64):binOp .shl t (v8 a) (v64 b)=pure (v8 (a<<<amt b)):=kW (k:= .u8) rfl t .u64 a (b.toNat:Int) (Int.natCast_nonneg _)
@[go_sem high] theorem Jt(t:TypeId)(a:BitVec 8)(b:BitVec 64):binOp .shr t (v8 a) (v64 b)=pure (v8 (a>>>amt b)):=kX (k:= .u8) t .u64 a (b.toNat:Int) (Int.natCast_nonneg _)
@[go_sem high] theorem KJ(a:BitVec 8) {P:Program}(w:World)(s d:TypeId)(hs:P.underlying s=some (.int .u8))(hd:P.underlying d=some (.int .u64)):(convert s d (v8 a)).run P w= .ok (v64 (a.setWidth 64)) w:=by simp[convert,run_underlying hs,run_underlying hd,v8,v64,Conv.intToInt,dt .u64 rfl,IntKind.bits]
@[go_sem high] theorem MZ(t:TypeId)(a b:BitVec 32):binOp .add t (v32 a) (v32 b)=pure (v32 (a+b)):=qj (k:= .u32) rfl t _ _ a b (aC 32 a) (aC 32 b)
@[go_sem high] theorem KL(t:TypeId)(a:BitVec 32)(m:Int):binOp .and t (v32 a) (.int .u32 m)=pure (v32 (a&&&(BitVec.ofInt 32 m))):=mG (k:= .u32) rfl t _ _ a _ (aC 32 a) rfl
@[go_sem high] theorem Np(t:TypeId)(a b:BitVec 32):binOp .or t (v32 a) (v32 b)=pure (v32 (a|||b)):=yN (k:= .u32) rfl t _ _ a b (aC 32 a) (aC 32 b)
@[go_sem high] theorem Na(t:TypeId)(a b:BitVec 32):binOp .xor t (v32 a) (v32 b)=pure (v32 (a^^^b)):=ql (k:= .u32) rfl t _ _ a b (aC 32 a) (aC 32 b)
@[go_sem high] theorem Nb(t:TypeId)(yk:IntKind)(a:BitVec 32)(m:Int)(hm:0≤m):binOp .shl t (v32 a) (.int yk m)=pure (v32 (a<<<m.toNat)):=kW (k:= .u32) rfl t yk a m hm
@[go_sem high] theorem Nc(t:TypeId)(yk:IntKind)(a:BitVec 32)(m:Int)(hm:0≤m):binOp .shr t (v32 a) (.int yk m)=pure (v32 (a>>>m.toNat)):=kX (k:= .u32) t yk a m hm
@[go_sem high] theorem KM(op:BinOp)(t:TypeId)(x y:Operand)(a:BitVec 32)(v:Value):eqGuard op t x y (v32 a) v=pure ():=by unfold eqGuard v32;split<;>rfl
@[go_sem high] theorem BT(a:BitVec 32):(v32 a).cells= #[v32 a]:=rfl
@[go_sem high] theorem LQ(a:BitVec 32):(v32 a).oneCell' =true:=rfl
@[go_sem high] theorem BW {P:Program}(w:World)(a:Addr)(m:Mode)(n:BitVec 32):(store a (v32 n) m).run P w=stored P w a (v32 n) m:=run_store P w a _ m rfl
@[go_sem high] theorem KO(a:BitVec 32) {P:Program}(w:World)(s d:TypeId)(hs:P.underlying s=some (.int .u32))(hd:P.underlying d=some (.int .u8)):(convert s d (v32 a)).run P w= .ok (v8 (a.setWidth 8)) w:=by simp[convert,run_underlying hs,run_underlying hd,v32,v8,Conv.intToInt,dt .u8 rfl,IntKind.bits]
@[go_sem high] theorem zqA(t:TypeId)(a:BitVec 32)(b:BitVec 64):binOp .shl t (v32 a) (v64 b)=pure (v32 (a<<<amt b)):=kW (k:= .u32) rfl t .u64 a (b.toNat:Int) (Int.natCast_nonneg _)
@[go_sem high] theorem IP(t:TypeId)(a:BitVec 32)(b:BitVec 64):binOp .shr t (v32 a) (v64 b)=pure (v32 (a>>>amt b)):=kX (k:= .u32) t .u64 a (b.toNat:Int) (Int.natCast_nonneg _)
@[go_sem high] theorem yO(a:BitVec 32) {P:Program}(w:World)(s d:TypeId)(hs:P.underlying s=some (.int .u32))(hd:P.underlying d=some (.int .u64)):(convert s d (v32 a)).run P w= .ok (v64 (a.setWidth 64)) w:=by simp[convert,run_underlying hs,run_underlying hd,v32,v64,Conv.intToInt,dt .u64 rfl,IntKind.bits]
@[go_sem high] theorem qm(t:TypeId)(a b:BitVec 64):binOp .add t (v64 a) (v64 b)=pure (v64 (a+b)):=qj (k:= .u64) rfl t _ _ a b (aC 64 a) (aC 64 b)
@[go_sem high] theorem KP(t:TypeId)(a:BitVec 64)(m:Int):binOp .add t (v64 a) (.int .u64 m)=pure (v64 (a+(BitVec.ofInt 64 m))):=qj (k:= .u64) rfl t _ _ a _ (aC 64 a) rfl
@[go_sem high] theorem GE(t:TypeId)(a b:BitVec 64):binOp .sub t (v64 a) (v64 b)=pure (v64 (a-b)):=vp (k:= .u64) rfl t _ _ a b (aC 64 a) (aC 64 b)
@[go_sem high] theorem KQ(t:TypeId)(b:BitVec 64)(m:Int):binOp .sub t (.int .u64 m) (v64 b)=pure (v64 ((BitVec.ofInt 64 m)-b)):=vp (k:= .u64) rfl t _ _ _ b rfl (aC 64 b)
@[go_sem high] theorem vq(t:TypeId)(a b:BitVec 64):binOp .mul t (v64 a) (v64 b)=pure (v64 (a*b)):=qk (k:= .u64) rfl t _ _ a b (aC 64 a) (aC 64 b)
@[go_sem high] theorem KR(t:TypeId)(a:BitVec 64)(m:Int):binOp .mul t (v64 a) (.int .u64 m)=pure (v64 (a*(BitVec.ofInt 64 m))):=qk (k:= .u64) rfl t _ _ a _ (aC 64 a) rfl
@[go_sem high] theorem mH(t:TypeId)(a b:BitVec 64):binOp .and t (v64 a) (v64 b)=pure (v64 (a&&&b)):=mG (k:= .u64) rfl t _ _ a b (aC 64 a) (aC 64 b)
@[go_sem high] theorem KS(t:TypeId)(a:BitVec 64)(m:Int):binOp .and t (v64 a) (.int .u64 m)=pure (v64 (a&&&(BitVec.ofInt 64 m))):=mG (k:= .u64) rfl t _ _ a _ (aC 64 a) rfl
@[go_sem high] theorem kr(t:TypeId)(a b:BitVec 64):binOp .or t (v64 a) (v64 b)=pure (v64 (a|||b)):=yN (k:= .u64) rfl t _ _ a b (aC 64 a) (aC 64 b)
@[go_sem high] theorem GG(t:TypeId)(a b:BitVec 64):binOp .xor t (v64 a) (v64 b)=pure (v64 (a^^^b)):=ql (k:= .u64) rfl t _ _ a b (aC 64 a) (aC 64 b)
@[go_sem high] theorem BX(t:TypeId)(b:BitVec 64)(m:Int):binOp .xor t (.int .u64 m) (v64 b)=pure (v64 ((BitVec.ofInt 64 m)^^^b)):=ql (k:= .u64) rfl t _ _ _ b rfl (aC 64 b)
@[go_sem high] theorem jy(t:TypeId)(yk:IntKind)(a:BitVec 64)(m:Int)(hm:0≤m):binOp .shl t (v64 a) (.int yk m)=pure (v64 (a<<<m.toNat)):=kW (k:= .u64) rfl t yk a m hm
@[go_sem high] theorem jz(t:TypeId)(yk:IntKind)(a:BitVec 64)(m:Int)(hm:0≤m):binOp .shr t (v64 a) (.int yk m)=pure (v64 (a>>>m.toNat)):=kX (k:= .u64) t yk a m hm
@[go_sem high] theorem GH(t:TypeId)(a b:BitVec 64):binOp .eql t (v64 a) (v64 b)=pure (.bool (a==b)):=by rw[v64,v64,binOp_eql];congr 2;rw[Bool.eq_iff_iff,beq_iff_eq,beq_iff_eq,Int.natCast_inj,BitVec.toNat_inj]
theorem GI(m:Nat)(h:m<2^64):Value.int .u64 (m:Int)=v64 (BitVec.ofNat 64 m):=by rw[v64,BitVec.toNat_ofNat,Nat.mod_eq_of_lt h]
@[go_sem high] theorem KU(t:TypeId)(a:BitVec 64)(m:Nat)(h:m<2^64):binOp .eql t (v64 a) (.int .u64 (no_index (OfNat.ofNat m)))=pure (.bool (a==BitVec.ofNat 64 m)):=by rw[←GH t a,←GI m h];rfl
@[go_sem high] theorem KV(t:TypeId)(a:BitVec 64)(m:Nat):binOp .gtr t (v64 a) (.int .u64 (no_index (OfNat.ofNat m)))=pure (.bool (decide (m<a.toNat))):=by rw[show Value.int .u64 (OfNat.ofNat m)=Value.int .u64 (m:Int) from rfl,v64,binOp_gtr];congr 2;simp
@[go_sem high] theorem Nd(a:BitVec 64):Op.unary .xor (v64 a)=pure (v64 (~~~a)):=by have e:BitVec.ofInt 64 IntKind.u64.max=BitVec.allOnes 64:=(by decide);have h:=BX 0 a IntKind.u64.max;rw[e,BitVec.allOnes_xor]at h;exact h
@[go_sem high] theorem KW(op:BinOp)(t:TypeId)(x y:Operand)(a:BitVec 64)(v:Value):eqGuard op t x y (v64 a) v=pure ():=by unfold eqGuard v64;split<;>rfl
@[go_sem high] theorem Ca(a:BitVec 64):(v64 a).cells= #[v64 a]:=rfl
@[go_sem high] theorem LR(a:BitVec 64):(v64 a).oneCell' =true:=rfl
@[go_sem high] theorem qC {P:Program}(w:World)(s d:TypeId)(m:Int)(hs:P.underlying s=some (.int .i64))(hd:P.underlying d=some (.int .u64)):(convert s d (.int .i64 m)).run P w= .ok (v64 (BitVec.ofInt 64 m)) w:=by simp[convert,run_underlying hs,run_underlying hd,v64,Conv.intToInt,dt .u64 rfl,-BitVec.toNat_ofInt];rfl
@[go_sem high] theorem Cb {P:Program}(w:World)(a:Addr)(m:Mode)(n:BitVec 64):(store a (v64 n) m).run P w=stored P w a (v64 n) m:=run_store P w a _ m rfl
@[go_sem high] theorem KX(a:BitVec 64) {P:Program}(w:World)(s d:TypeId)(hs:P.underlying s=some (.int .u64))(hd:P.underlying d=some (.int .u8)):(convert s d (v64 a)).run P w= .ok (v8 (a.setWidth 8)) w:=by simp[convert,run_underlying hs,run_underlying hd,v64,v8,Conv.intToInt,dt .u8 rfl,IntKind.bits]
@[go_sem high] theorem Ju(a:BitVec 64) {P:Program}(w:World)(s d:TypeId)(hs:P.underlying s=some (.int .u64))(hd:P.underlying d=some (.int .u32)):(convert s d (v64 a)).run P w= .ok (v32 (a.setWidth 32)) w:=by simp[convert,run_underlying hs,run_underlying hd,v64,v32,Conv.intToInt,dt .u32 rfl,IntKind.bits]
@[go_sem high] theorem IQ(t:TypeId)(a:BitVec 64)(b:BitVec 64):binOp .shl t (v64 a) (v64 b)=pure (v64 (a<<<amt b)):=kW (k:= .u64) rfl t .u64 a (b.toNat:Int) (Int.natCast_nonneg _)
@[go_sem high] theorem zqC(t:TypeId)(a:BitVec 64)(b:BitVec 64):binOp .shr t (v64 a) (v64 b)=pure (v64 (a>>>amt b)):=kX (k:= .u64) t .u64 a (b.toNat:Int) (Int.natCast_nonneg _)
theorem vr {fn:Func} {t u v x:Tmp}(h:fn.results= #[.tmp t,.tmp u,.tmp v,.tmp x])(tmps:Array Value)(P:Program)(w:World):
  (results fn tmps).run P w= .ok (.tuple #[tmps.getD t undef,tmps.getD u undef,tmps.getD v undef,tmps.getD x undef]) w:=by
 simp[results,h]
open Go.RowKit
def nth {n:Nat}(l:List (BitVec n))(i:Nat):BitVec n:=l.getD i 0#n
def ac(n m:Nat):List (BitVec n):=List.replicate m 0#n
@[simp] theorem ah(n m:Nat):(ac n m).length=m:=by simp[ac]
theorem eH {n:Nat} {l:List (BitVec n)} {i:Nat}(h:i<l.length):l[i]? =some (nth l i):=by simp[nth,h]
theorem mI {n:Nat} {l:List (BitVec n)} {i:Nat}(h:i<l.length):l[i]=nth l i:=by simp[nth,h]
theorem eK {n:Nat}(l:List (BitVec n))(i j:Nat)(x:BitVec n)(h:i<l.length):nth (l.set i x) j=if i=j then x else nth l j:=by
 unfold nth;simp only[List.getD_eq_getElem?_getD,List.getElem?_set];by_cases e:i=j
 ·subst e;simp[h]
 ·simp[e]
theorem aO {n:Nat} {a b:List (BitVec n)}(hl:a.length=b.length)(h: ∀i,i<a.length→nth a i=nth b i):a=b:=by
 apply List.ext_getElem hl;intro i h1 h2;rw[mI h1,mI h2,h i h1]
theorem dg(n m i:Nat):nth (ac n m) i=0#n:=by
 unfold nth ac;simp only[List.getD_eq_getElem?_getD,List.getElem?_replicate]
 split<;>rfl
theorem bK {n:Nat}(a b:List (BitVec n))(i:Nat):nth (a++b) i=if i<a.length then nth a i else nth b (i-a.length):=by
 unfold nth;simp only[List.getD_eq_getElem?_getD,List.getElem?_append]
 split<;>rfl
theorem br {n:Nat}(a:List (BitVec n))(k i:Nat)(h:i<k):nth (a.take k) i=nth a i:=by
 unfold nth;simp[h]
theorem bQ {n:Nat}(a:List (BitVec n))(k i:Nat):nth (a.drop k) i=nth a (k+i):=by
 unfold nth;simp
def A8(l:Y8):Array Value:=(l.map v8).toArray
def A32(l:List (BitVec 32)):Array Value:=(l.map v32).toArray
def A64(l:List (BitVec 64)):Array Value:=(l.map v64).toArray
def ones(cs:Array Value):Bool:=cs.all Value.oneCell'
def bt(t:TypeId)(x:Value):Sem Value:=Instr.loadAt t x
def bR(t:TypeId)(x y:Value):Sem Unit:=Instr.storeAt t x y
@[go_sem] theorem KY {P:Program}(w:World)(t:TypeId)(x:Value)(_h:(isAgg t).run P w= .ok false w):(bt t x).run P w=(Instr.loadAt t x).run P w:=rfl
@[go_sem] theorem KZ(t:TypeId)(x:Value)(k:IntKind)(n:Int):bR t x (.int k n)=Instr.storeAt t x (.int k n):=rfl
@[go_sem] theorem Jv(t:TypeId)(x:Value)(b:Bool):bR t x (.bool b)=Instr.storeAt t x (.bool b):=rfl
@[go_sem] theorem GJ(t:TypeId)(x:Value)(b:ByteArray):bR t x (.string b)=Instr.storeAt t x (.string b):=rfl
@[go_sem] theorem Gs(t:TypeId)(x:Value)(b:Option Addr):bR t x (.pointer b)=Instr.storeAt t x (.pointer b):=rfl
@[go_sem] theorem IT(t:TypeId)(x:Value)(a:Option Addr)(n c:Nat):bR t x (.slice a n c)=Instr.storeAt t x (.slice a n c):=rfl
@[go_sem] theorem Lb(t:TypeId)(x:Value)(r:Option Nat):bR t x (.map r)=Instr.storeAt t x (.map r):=rfl
@[go_sem] theorem Jw(t:TypeId)(x:Value)(f:Fn)(a c:Array Value):bR t x (.func f a c)=Instr.storeAt t x (.func f a c):=rfl
@[go_sem] theorem Gt(t:TypeId)(x:Value):bR t x .nilFunc=Instr.storeAt t x .nilFunc:=rfl
@[go_sem] theorem IU(t:TypeId)(x:Value)(d:TypeId)(v:Value):bR t x (.iface d v)=Instr.storeAt t x (.iface d v):=rfl
@[go_sem] theorem En(t:TypeId)(x:Value):bR t x .nilIface=Instr.storeAt t x .nilIface:=rfl
@[go_sem] theorem Gu(t:TypeId)(x:Value)(k:FloatKind)(a b:Nat):bR t x (.complex k a b)=Instr.storeAt t x (.complex k a b):=rfl
@[go_sem high] theorem kt(l:Y8)(i:Nat)(h:i<l.length):(A8 l)[i]? =some (v8 (nth l i)):=by
 simp[A8,eH h]
@[go_sem high] theorem eL(l:Y8)(i:Nat)(x:BitVec 8):(A8 l).setIfInBounds i (v8 x)=A8 (l.set i x):=by
 simp[A8,List.map_set]
@[go_sem high] theorem ag(l:Y8):(A8 l).size=l.length:=by simp[A8]
@[go_sem high] theorem aH(l:Y8):ones (A8 l)=true:=by
 simp[ones,A8,List.all_map]
 intros;rfl
@[go_sem high] theorem qD(l:Y8)(k:Nat)(h:l.length≤k):(A8 l).extract 0 k=A8 l:=by
 simp[A8,←List.map_take,List.take_of_length_le h]
@[go_sem] theorem Jy(l:Y8)(j k:Nat):(A8 l).extract j k=A8 ((l.drop j).take (k-j)):=by
 simp[A8,←List.map_drop,←List.map_take]
theorem fy(l:Y8):(A8 l).toList=l.map v8:=by simp[A8]
@[go_sem high] theorem yP {P:Program}(w:World)(t:TypeId)(a:Addr)(x:BitVec 8)(h:(sizeOf t).run P w= .ok 1 w):
  (bR t (.pointer (some a)) (v8 x)).run P w=stored P w a (v8 x) .plain:=by
 simp[bR,Instr.storeAt,Instr.sureAddr,storeVar,h,El,storeCells,Addr.add_zero',Em]
@[go_sem high] theorem vt(l:List (BitVec 32))(i:Nat)(h:i<l.length):(A32 l)[i]? =some (v32 (nth l i)):=by
 simp[A32,eH h]
@[go_sem high] theorem kY(l:List (BitVec 32))(i:Nat)(x:BitVec 32):(A32 l).setIfInBounds i (v32 x)=A32 (l.set i x):=by
 simp[A32,List.map_set]
@[go_sem high] theorem dh(l:List (BitVec 32)):(A32 l).size=l.length:=by simp[A32]
@[go_sem high] theorem Eo(l:List (BitVec 32)):ones (A32 l)=true:=by
 simp[ones,A32,List.all_map]
 intros;rfl
@[go_sem high] theorem Eb(l:List (BitVec 32))(k:Nat)(h:l.length≤k):(A32 l).extract 0 k=A32 l:=by
 simp[A32,←List.map_take,List.take_of_length_le h]
theorem yQ(l:List (BitVec 32)):(A32 l).toList=l.map v32:=by simp[A32]
@[go_sem high] theorem oS {P:Program}(w:World)(t:TypeId)(a:Addr)(x:BitVec 32)(h:(sizeOf t).run P w= .ok 1 w):
  (bR t (.pointer (some a)) (v32 x)).run P w=stored P w a (v32 x) .plain:=by
 simp[bR,Instr.storeAt,Instr.sureAddr,storeVar,h,BT,storeCells,Addr.add_zero',BW]
@[go_sem high] theorem mJ(l:List (BitVec 64))(i:Nat)(h:i<l.length):(A64 l)[i]? =some (v64 (nth l i)):=by
 simp[A64,eH h]
@[go_sem high] theorem eN(l:List (BitVec 64))(i:Nat)(x:BitVec 64):(A64 l).setIfInBounds i (v64 x)=A64 (l.set i x):=by
 simp[A64,List.map_set]
@[go_sem high] theorem bS(l:List (BitVec 64)):(A64 l).size=l.length:=by simp[A64]
@[go_sem high] theorem dY(l:List (BitVec 64)):ones (A64 l)=true:=by
 simp[ones,A64,List.all_map]
 intros;rfl
@[go_sem high] theorem Ec(l:List (BitVec 64))(k:Nat)(h:l.length≤k):(A64 l).extract 0 k=A64 l:=by
 simp[A64,←List.map_take,List.take_of_length_le h]
@[go_sem] theorem IV(l:List (BitVec 64))(j k:Nat):(A64 l).extract j k=A64 ((l.drop j).take (k-j)):=by
 simp[A64,←List.map_drop,←List.map_take]
theorem qE(l:List (BitVec 64)):(A64 l).toList=l.map v64:=by simp[A64]
@[go_sem high] theorem oT {P:Program}(w:World)(t:TypeId)(a:Addr)(x:BitVec 64)(h:(sizeOf t).run P w= .ok 1 w):
  (bR t (.pointer (some a)) (v64 x)).run P w=stored P w a (v64 x) .plain:=by
 simp[bR,Instr.storeAt,Instr.sureAddr,storeVar,h,Ca,storeCells,Addr.add_zero',Cb]
theorem World.alloc_old'(w:World)(o:Obj)(n:Nat)(hn:n<w.heap.size):(w.alloc o).heap[n]? =w.heap[n]?:=by
 show(w.heap.push o)[n]? =_;rw[Array.getElem?_push,if_neg (Nat.ne_of_lt hn)]
def aF(w:World)(b:Nat):Array Value:=match w.heap[b]? with|some (.cells c _ _)=>c|_=> #[]
theorem bW(w:World)(b i:Nat):w.cell? ⟨b,i,none⟩=(aF w b)[i]?:=by
 unfold World.cell? aF;cases h:w.heap[b]? with
 |none=>simp
 |some o=>cases o<;>simp
def whole(w:World)(b:Nat):Bool:=match w.heap[b]? with|some (.cells _ _ (0,0))=>true|_=>false
theorem fz {w:World} {b:Nat}(h:whole w b=true): ∃c e,w.heap[b]? =some (.cells c e (0,0)):=by
 unfold whole at h
 split at h
 ·rename_i c e hh;exact⟨_,_,hh⟩
 ·cases h
@[go_sem] theorem Ep(w:World)(c:Array Value)(t:TypeId)(n:Nat)(hn:n=w.heap.size):whole (w.alloc (.cells c t)) n=true:=by
 subst hn;unfold whole;rw[heap_alloc_new];rfl
@[go_sem] theorem Cc(w:World)(o:Obj)(n:Nat)(hn:n<w.heap.size):whole (w.alloc o) n=whole w n:=by
 unfold whole;rw[World.alloc_old' w o n hn]
@[go_sem] theorem Jz(w:World)(n:Nat):whole w.drew n=whole w n:=rfl
@[go_sem] theorem Eq(w:World)(c:Array Value)(t:TypeId)(n:Nat)(hn:n=w.heap.size):aF (w.alloc (.cells c t)) n=c:=by
 subst hn;unfold aF;rw[heap_alloc_new]
@[go_sem] theorem Cd(w:World)(o:Obj)(n:Nat)(hn:n<w.heap.size):aF (w.alloc o) n=aF w n:=by
 unfold aF;rw[World.alloc_old' w o n hn]
@[go_sem] theorem JA(w:World)(n:Nat):aF w.drew n=aF w n:=rfl
@[go_sem] theorem Ed(w:World)(c cs:Array Value)(t:TypeId)(n:Nat)(hn:n=w.heap.size):(w.alloc (.cells c t)).setRow n cs=w.alloc (.cells cs t):=by
 subst hn;simp only[World.setRow,World.alloc];congr 1;apply Array.ext_getElem?;intro i;simp only[Array.getElem?_modify,Array.getElem?_push]
 split
 ·rename_i h;subst h;simp
 ·rename_i h;rw[if_neg (fun h' =>h h'.symm),if_neg (fun h' =>h h'.symm)]
@[go_sem] theorem AZ(w:World)(o:Obj)(cs:Array Value)(n:Nat)(hn:n<w.heap.size):(w.alloc o).setRow n cs=(w.setRow n cs).alloc o:=by
 simp only[World.setRow,World.alloc];congr 1;apply Array.ext_getElem?;intro i;simp only[Array.getElem?_modify,Array.getElem?_push,Array.size_modify];by_cases h:n=i
 ·subst h;simp[Nat.ne_of_lt hn]
 ·simp[h]
@[go_sem] theorem IW(w:World)(n:Nat)(cs:Array Value):w.drew.setRow n cs=(w.setRow n cs).drew:=rfl
section
variable {P:Program} (ρ:Operand→Value) (w:World) (dst:Option Tmp) (ty:TypeId) (pos:String) (after:Array Edge) (guard:Option (Nat×Bool))
@[go_sem ↓ high] theorem Gv(e:TypeId):(execOp ρ ⟨dst,.alloc e,ty,pos,after,guard⟩).run P w=((Instr.alloc e true (.tuple #[])).run P w).andThen fun v w' => .ok (.value v) w':=by simp[execOp]
@[go_sem ↓ high] theorem Gw(e:TypeId):(execOp ρ ⟨dst,.build e #[],ty,pos,after,guard⟩).run P w=((Instr.build e #[]).run P w).andThen fun v w' => .ok (.value v) w':=by simp[execOp]
@[go_sem ↓ high] theorem GK(e:TypeId)(x:Operand):(execOp ρ ⟨dst,.load e x,ty,pos,after,guard⟩).run P w=((bt e (ρ x)).run P w).andThen fun v w' => .ok (.value v) w':=by simp[execOp,bt]
@[go_sem ↓ high] theorem aV(e:TypeId)(x y:Operand):(execOp ρ ⟨dst,.store e x y,ty,pos,after,guard⟩).run P w=((bR e (ρ x) (ρ y)).run P w).andThen fun _ w' => .ok .skip w':=by simp[execOp,bR]
end
@[go_sem high] theorem cO {P:Program}(w:World)(t:TypeId)(b off:Nat)(h1:(isAgg t).run P w= .ok true w)(h2:(sizeOf t).run P w= .ok (P.cellsOf t) w)(h3:off+P.cellsOf t≤(aF w b).size):
  (bt t (.pointer (some ⟨b,off,none⟩))).run P w= .ok (.agg ((aF w b).extract off (off+P.cellsOf t))) w:=by
 generalize P.cellsOf t=n at h2 h3;have hc:=run_loadCells_list (P:=P) (w:=w) ⟨b,off,none⟩ ((aF w b).extract off (off+n)).toList (fun j v hj=>by
  rw[Addr.add_lit,bW];have hj':j<off+n-off:=by
   have:=(List.getElem?_eq_some_iff.1 hj).1;simp at this;omega
  rw[←hj,Array.getElem?_toList,Array.getElem?_extract];rw[if_pos (by omega)])
 have hl:((aF w b).extract off (off+n)).toList.length=n:=by simp;omega
 rw[hl,Array.toArray_toList]at hc;simp only[bt,Instr.loadAt,Instr.sureAddr,loadVar,Sem.run_bind,Sem.run_pure,Result.andThen_ok,h1,h2,hc,if_true]
@[go_sem high] theorem qb {P:Program}(w:World)(t:TypeId)(b:Nat)(cs:Array Value)(h2:(sizeOf t).run P w= .ok cs.size w)(h3:(aF w b).size=cs.size)(h4:ones cs=true)(h6:whole w b=true):
  (bR t (.pointer (some ⟨b,0,none⟩)) (.agg cs)).run P w= .ok () (w.setRow b cs):=by
 obtain⟨old,e,hg⟩:=fz h6;have hr:aF w b=old:=by unfold aF;rw[hg]
 rw[hr]at h3;have hst:=run_storeCells_at (P:=P) b 0 e cs.toList 0 old w hg (by simp;omega) (fun v hv=>by
  have:=Array.all_eq_true'.1 h4 v (by simpa using hv);exact this)
 have e1:(old.toList.take (0+0)++cs.toList++old.toList.drop (0+0+cs.toList.length)).toArray=cs:=by
  rw[List.drop_of_length_le (by simp;omega)];simp
 rw[e1]at hst;simp only[bR,Instr.storeAt,Instr.sureAddr,storeVar,Sem.run_bind,Sem.run_pure,Result.andThen_ok,h2,Value.cells,ne_eq,not_true_eq_false,if_false,hst]
def Rd8(w:World)(a:Option Addr)(n c:Nat)(l:Y8):Prop:=
 l.length=n∧n≤c∧c≤maxLen∧(0<n→ ∃b o,a=some ⟨b,o,none⟩∧b<w.heap.size∧ ∀i,i<n→w.cell? ⟨b,o+i,none⟩=some (v8 (nth l i)))
theorem Rd8.keep {w w':World} {a:Option Addr} {n c:Nat} {l:Y8}(h:Rd8 w a n c l)(hs:w.heap.size≤w'.heap.size)(hk: ∀p:Addr,p.block<w.heap.size→w'.cell? p=w.cell? p):Rd8 w' a n c l:=
 ⟨h.1,h.2.1,h.2.2.1,fun hn=>by
  obtain⟨b,o,ha,hb,hc⟩:=h.2.2.2 hn;exact⟨b,o,ha,by omega,fun i hi=>(hk _ hb).trans (hc i hi)⟩⟩
theorem Rd8.below {w w':World} {a:Option Addr} {n c:Nat} {l:Y8}(h:Rd8 w a n c l)(hb:Below w.heap.size w w'):Rd8 w' a n c l:=
 h.keep hb.size fun _ hp=>hb.cell hp
theorem Rd8.alloc {w:World} {a:Option Addr} {n c:Nat} {l:Y8}(h:Rd8 w a n c l)(o:Obj):Rd8 (w.alloc o) a n c l:=
 h.below ((Below.refl _ _).alloc (Nat.le_refl _) _)
theorem Rd8.drew {w:World} {a:Option Addr} {n c:Nat} {l:Y8}(h:Rd8 w a n c l):Rd8 w.drew a n c l:=h
theorem Rd8.cut {w:World} {a:Option Addr} {n c:Nat} {l:Y8}(h:Rd8 w a n c l) {j k:Nat}(hj:j≤k)(hk:k≤n):
  Rd8 w (if c=j then a else a.map (·.add j)) (k-j) (c-j) ((l.take k).drop j):=by
 obtain⟨h1,h2,h3,h4⟩:=h;refine⟨by simp;omega,by omega,by unfold maxLen at*;omega,fun hn=> ?_⟩;obtain⟨b,o,rfl,hb,hc⟩:=h4 (by omega);rw[if_neg (by omega)];refine⟨b,o+j,by simp[Addr.add_lit],hb,fun i hi=> ?_⟩;rw[Nat.add_assoc,hc (j+i) (by omega),bQ,br _ _ _ (by omega)]
theorem Rd8.of_row {w:World} {b n:Nat} {l:Y8}(hr:aF w b=A8 l)(hl:l.length=n)(hb:b<w.heap.size)(hm:n≤maxLen):Rd8 w (some ⟨b,0,none⟩) n n l:=
 ⟨hl,Nat.le_refl _,hm,fun _=>⟨b,0,rfl,hb,fun i hi=>by rw[Nat.zero_add,bW,hr,kt l i (by omega)]⟩⟩
def Rd32(w:World)(a:Option Addr)(n c:Nat)(l:List (BitVec 32)):Prop:=
 l.length=n∧n≤c∧c≤maxLen∧(0<n→ ∃b o,a=some ⟨b,o,none⟩∧b<w.heap.size∧ ∀i,i<n→w.cell? ⟨b,o+i,none⟩=some (v32 (nth l i)))
theorem Rd32.keep {w w':World} {a:Option Addr} {n c:Nat} {l:List (BitVec 32)}(h:Rd32 w a n c l)(hs:w.heap.size≤w'.heap.size)(hk: ∀p:Addr,p.block<w.heap.size→w'.cell? p=w.cell? p):Rd32 w' a n c l:=
 ⟨h.1,h.2.1,h.2.2.1,fun hn=>by
  obtain⟨b,o,ha,hb,hc⟩:=h.2.2.2 hn;exact⟨b,o,ha,by omega,fun i hi=>(hk _ hb).trans (hc i hi)⟩⟩
theorem Rd32.below {w w':World} {a:Option Addr} {n c:Nat} {l:List (BitVec 32)}(h:Rd32 w a n c l)(hb:Below w.heap.size w w'):Rd32 w' a n c l:=
 h.keep hb.size fun _ hp=>hb.cell hp
theorem Rd32.alloc {w:World} {a:Option Addr} {n c:Nat} {l:List (BitVec 32)}(h:Rd32 w a n c l)(o:Obj):Rd32 (w.alloc o) a n c l:=
 h.below ((Below.refl _ _).alloc (Nat.le_refl _) _)
theorem Rd32.drew {w:World} {a:Option Addr} {n c:Nat} {l:List (BitVec 32)}(h:Rd32 w a n c l):Rd32 w.drew a n c l:=h
theorem Rd32.cut {w:World} {a:Option Addr} {n c:Nat} {l:List (BitVec 32)}(h:Rd32 w a n c l) {j k:Nat}(hj:j≤k)(hk:k≤n):
  Rd32 w (if c=j then a else a.map (·.add j)) (k-j) (c-j) ((l.take k).drop j):=by
 obtain⟨h1,h2,h3,h4⟩:=h;refine⟨by simp;omega,by omega,by unfold maxLen at*;omega,fun hn=> ?_⟩;obtain⟨b,o,rfl,hb,hc⟩:=h4 (by omega);rw[if_neg (by omega)];refine⟨b,o+j,by simp[Addr.add_lit],hb,fun i hi=> ?_⟩;rw[Nat.add_assoc,hc (j+i) (by omega),bQ,br _ _ _ (by omega)]
theorem Rd32.of_row {w:World} {b n:Nat} {l:List (BitVec 32)}(hr:aF w b=A32 l)(hl:l.length=n)(hb:b<w.heap.size)(hm:n≤maxLen):Rd32 w (some ⟨b,0,none⟩) n n l:=
 ⟨hl,Nat.le_refl _,hm,fun _=>⟨b,0,rfl,hb,fun i hi=>by rw[Nat.zero_add,bW,hr,vt l i (by omega)]⟩⟩
def Rd64(w:World)(a:Option Addr)(n c:Nat)(l:List (BitVec 64)):Prop:=
 l.length=n∧n≤c∧c≤maxLen∧(0<n→ ∃b o,a=some ⟨b,o,none⟩∧b<w.heap.size∧ ∀i,i<n→w.cell? ⟨b,o+i,none⟩=some (v64 (nth l i)))
theorem Rd64.keep {w w':World} {a:Option Addr} {n c:Nat} {l:List (BitVec 64)}(h:Rd64 w a n c l)(hs:w.heap.size≤w'.heap.size)(hk: ∀p:Addr,p.block<w.heap.size→w'.cell? p=w.cell? p):Rd64 w' a n c l:=
 ⟨h.1,h.2.1,h.2.2.1,fun hn=>by
  obtain⟨b,o,ha,hb,hc⟩:=h.2.2.2 hn;exact⟨b,o,ha,by omega,fun i hi=>(hk _ hb).trans (hc i hi)⟩⟩
theorem Rd64.below {w w':World} {a:Option Addr} {n c:Nat} {l:List (BitVec 64)}(h:Rd64 w a n c l)(hb:Below w.heap.size w w'):Rd64 w' a n c l:=
 h.keep hb.size fun _ hp=>hb.cell hp
theorem Rd64.alloc {w:World} {a:Option Addr} {n c:Nat} {l:List (BitVec 64)}(h:Rd64 w a n c l)(o:Obj):Rd64 (w.alloc o) a n c l:=
 h.below ((Below.refl _ _).alloc (Nat.le_refl _) _)
theorem Rd64.drew {w:World} {a:Option Addr} {n c:Nat} {l:List (BitVec 64)}(h:Rd64 w a n c l):Rd64 w.drew a n c l:=h
theorem Rd64.cut {w:World} {a:Option Addr} {n c:Nat} {l:List (BitVec 64)}(h:Rd64 w a n c l) {j k:Nat}(hj:j≤k)(hk:k≤n):
  Rd64 w (if c=j then a else a.map (·.add j)) (k-j) (c-j) ((l.take k).drop j):=by
 obtain⟨h1,h2,h3,h4⟩:=h;refine⟨by simp;omega,by omega,by unfold maxLen at*;omega,fun hn=> ?_⟩;obtain⟨b,o,rfl,hb,hc⟩:=h4 (by omega);rw[if_neg (by omega)];refine⟨b,o+j,by simp[Addr.add_lit],hb,fun i hi=> ?_⟩;rw[Nat.add_assoc,hc (j+i) (by omega),bQ,br _ _ _ (by omega)]
theorem Rd64.of_row {w:World} {b n:Nat} {l:List (BitVec 64)}(hr:aF w b=A64 l)(hl:l.length=n)(hb:b<w.heap.size)(hm:n≤maxLen):Rd64 w (some ⟨b,0,none⟩) n n l:=
 ⟨hl,Nat.le_refl _,hm,fun _=>⟨b,0,rfl,hb,fun i hi=>by rw[Nat.zero_add,bW,hr,mJ l i (by omega)]⟩⟩
theorem cT {P:Program} {w:World} {ty:TypeId} {b n:Nat} {cs:Array Value}(h1:(isAgg ty).run P w= .ok true w)(h2:(sizeOf ty).run P w= .ok n w)(hn:cs.size=n)(hr:aF w b=cs):
  (loadVar ty ⟨b,0,none⟩).run P w= .ok (.agg cs) w:=by
 have hc:=run_loadCells_list (P:=P) (w:=w) ⟨b,0,none⟩ cs.toList (fun j v hj=>by
  rw[Addr.add_lit,Nat.zero_add,bW,hr,←hj,Array.getElem?_toList])
 rw[Array.length_toList,hn,Array.toArray_toList]at hc;simp[loadVar,Sem.run_bind,h1,h2,hc]
theorem aj {P:Program} {fn:Func} {R:Ending→World→Prop} {a:Act} {w:World} {p:Tmp} {ty:TypeId} {b n:Nat}(cs:Array Value)(h:fn.results= #[.cell p ty])(hd:a.defers=[])
  (hp:a.tmps.getD p undef= .pointer (some ⟨b,0,none⟩)) (h1:(isAgg ty).run P w= .ok true w) (h2:(sizeOf ty).run P w= .ok n w) (hn:cs.size=n) (hr:aF w b=cs) (hR:R (.returned (.agg cs)) w):bodyPost P fn R .ret a w:=by
 have hv:=cT h1 h2 hn hr;have hp':a.tmps[p]?.getD undef= .pointer (some ⟨b,0,none⟩):=by simpa using hp
 exact bodyPost_ret (v:= .agg cs) (by simp[results,h,hp',asAddr,hv]) hd hR
theorem fC {P:Program} {fn:Func} {R:Ending→World→Prop} {a:Act} {w:World} {p u:Tmp} {ty:TypeId} {b n:Nat}(cs:Array Value)(h:fn.results= #[.cell p ty,.tmp u])(hd:a.defers=[])
  (hp:a.tmps.getD p undef= .pointer (some ⟨b,0,none⟩)) (h1:(isAgg ty).run P w= .ok true w) (h2:(sizeOf ty).run P w= .ok n w) (hn:cs.size=n) (hr:aF w b=cs) (hR:R (.returned (.tuple #[.agg cs,a.tmps.getD u undef])) w):bodyPost P fn R .ret a w:=by
 have hv:=cT h1 h2 hn hr;have hp':a.tmps[p]?.getD undef= .pointer (some ⟨b,0,none⟩):=by simpa using hp
 exact bodyPost_ret (v:= .tuple #[.agg cs,a.tmps.getD u undef]) (by simp[results,h,hp',asAddr,hv]) hd hR
open Go.RowKit
theorem aP {P:Program} {t:TypeId} {cs:Array Value}(h: ∀w,(zeroValue t).run P w= .ok (.agg cs) w)(w:World):(Instr.alloc t true (.tuple #[])).run P w= .ok (.pointer (some ⟨w.heap.size,0,none⟩)) (w.alloc (.cells cs t)):=by
 simp[Instr.alloc,h,newVar,newRow,Value.cells]
@[go_sem] theorem Lc:prog.cellsOf 98=4:=by kernel_rfl
theorem JB(w:World):(zeroValue 98).run prog w= .ok (.agg (A8 (ac 8 4))) w:=by kernel_rfl
@[go_sem ↓ high] theorem Ne(w:World):(Instr.alloc 98 true (.tuple #[])).run prog w= .ok (.pointer (some ⟨w.heap.size,0,none⟩)) (w.alloc (.cells (A8 (ac 8 4)) 98)):=aP JB w
@[go_sem ↓ high] theorem LS(w:World):(Instr.build 98 #[]).run prog w= .ok (.agg (A8 (ac 8 4))) w:=by kernel_rfl
@[go_sem] theorem JC:prog.cellsOf 107=8:=by kernel_rfl
theorem GL(w:World):(zeroValue 107).run prog w= .ok (.agg (A8 (ac 8 8))) w:=by kernel_rfl
@[go_sem ↓ high] theorem LU(w:World):(Instr.alloc 107 true (.tuple #[])).run prog w= .ok (.pointer (some ⟨w.heap.size,0,none⟩)) (w.alloc (.cells (A8 (ac 8 8)) 107)):=aP GL w
@[go_sem ↓ high] theorem Ld(w:World):(Instr.build 107 #[]).run prog w= .ok (.agg (A8 (ac 8 8))) w:=by kernel_rfl
@[go_sem] theorem Le:prog.cellsOf 42=16:=by kernel_rfl
theorem JD(w:World):(zeroValue 42).run prog w= .ok (.agg (A8 (ac 8 16))) w:=by kernel_rfl
@[go_sem ↓ high] theorem Nf(w:World):(Instr.alloc 42 true (.tuple #[])).run prog w= .ok (.pointer (some ⟨w.heap.size,0,none⟩)) (w.alloc (.cells (A8 (ac 8 16)) 42)):=aP JD w
@[go_sem ↓ high] theorem LV(w:World):(Instr.build 42 #[]).run prog w= .ok (.agg (A8 (ac 8 16))) w:=by kernel_rfl
@[go_sem] theorem JE:prog.cellsOf 149=24:=by kernel_rfl
theorem GM(w:World):(zeroValue 149).run prog w= .ok (.agg (A8 (ac 8 24))) w:=by kernel_rfl
@[go_sem ↓ high] theorem LW(w:World):(Instr.alloc 149 true (.tuple #[])).run prog w= .ok (.pointer (some ⟨w.heap.size,0,none⟩)) (w.alloc (.cells (A8 (ac 8 24)) 149)):=aP GM w
@[go_sem ↓ high] theorem Lg(w:World):(Instr.build 149 #[]).run prog w= .ok (.agg (A8 (ac 8 24))) w:=by kernel_rfl
@[go_sem] theorem Lh:prog.cellsOf 38=32:=by kernel_rfl
theorem JF(w:World):(zeroValue 38).run prog w= .ok (.agg (A8 (ac 8 32))) w:=by kernel_rfl
@[go_sem ↓ high] theorem Ng(w:World):(Instr.alloc 38 true (.tuple #[])).run prog w= .ok (.pointer (some ⟨w.heap.size,0,none⟩)) (w.alloc (.cells (A8 (ac 8 32)) 38)):=aP JF w
@[go_sem ↓ high] theorem LZ(w:World):(Instr.build 38 #[]).run prog w= .ok (.agg (A8 (ac 8 32))) w:=by kernel_rfl
@[go_sem] theorem JG:prog.cellsOf 195=64:=by kernel_rfl
theorem GO(w:World):(zeroValue 195).run prog w= .ok (.agg (A8 (ac 8 64))) w:=by kernel_rfl
@[go_sem ↓ high] theorem Ma(w:World):(Instr.alloc 195 true (.tuple #[])).run prog w= .ok (.pointer (some ⟨w.heap.size,0,none⟩)) (w.alloc (.cells (A8 (ac 8 64)) 195)):=aP GO w
@[go_sem ↓ high] theorem Li(w:World):(Instr.build 195 #[]).run prog w= .ok (.agg (A8 (ac 8 64))) w:=by kernel_rfl
@[go_sem] theorem JH:prog.cellsOf 271=128:=by kernel_rfl
theorem GP(w:World):(zeroValue 271).run prog w= .ok (.agg (A8 (ac 8 128))) w:=by kernel_rfl
@[go_sem ↓ high] theorem Mb(w:World):(Instr.alloc 271 true (.tuple #[])).run prog w= .ok (.pointer (some ⟨w.heap.size,0,none⟩)) (w.alloc (.cells (A8 (ac 8 128)) 271)):=aP GP w
@[go_sem ↓ high] theorem Lj(w:World):(Instr.build 271 #[]).run prog w= .ok (.agg (A8 (ac 8 128))) w:=by kernel_rfl
@[go_sem] theorem JI:prog.cellsOf 267=4:=by kernel_rfl
theorem GQ(w:World):(zeroValue 267).run prog w= .ok (.agg (A32 (ac 32 4))) w:=by kernel_rfl
@[go_sem ↓ high] theorem Mc(w:World):(Instr.alloc 267 true (.tuple #[])).run prog w= .ok (.pointer (some ⟨w.heap.size,0,none⟩)) (w.alloc (.cells (A32 (ac 32 4)) 267)):=aP GQ w
@[go_sem ↓ high] theorem Lk(w:World):(Instr.build 267 #[]).run prog w= .ok (.agg (A32 (ac 32 4))) w:=by kernel_rfl
@[go_sem] theorem JJ:prog.cellsOf 332=5:=by kernel_rfl
@[go_sem ↓ high] theorem Ll(w:World):(Instr.build 332 #[]).run prog w= .ok (.agg (A32 (ac 32 5))) w:=by kernel_rfl
@[go_sem] theorem JK:prog.cellsOf 235=16:=by kernel_rfl
@[go_sem ↓ high] theorem Lm(w:World):(Instr.build 235 #[]).run prog w= .ok (.agg (A32 (ac 32 16))) w:=by kernel_rfl
@[go_sem] theorem JL:prog.cellsOf 190=8:=by kernel_rfl
theorem GR(w:World):(zeroValue 190).run prog w= .ok (.agg (A64 (ac 64 8))) w:=by kernel_rfl
@[go_sem ↓ high] theorem Md(w:World):(Instr.alloc 190 true (.tuple #[])).run prog w= .ok (.pointer (some ⟨w.heap.size,0,none⟩)) (w.alloc (.cells (A64 (ac 64 8)) 190)):=aP GR w
@[go_sem ↓ high] theorem Ln(w:World):(Instr.build 190 #[]).run prog w= .ok (.agg (A64 (ac 64 8))) w:=by kernel_rfl
@[go_sem] theorem JM:prog.cellsOf 238=16:=by kernel_rfl
theorem GS(w:World):(zeroValue 238).run prog w= .ok (.agg (A64 (ac 64 16))) w:=by kernel_rfl
@[go_sem ↓ high] theorem Me(w:World):(Instr.alloc 238 true (.tuple #[])).run prog w= .ok (.pointer (some ⟨w.heap.size,0,none⟩)) (w.alloc (.cells (A64 (ac 64 16)) 238)):=aP GS w
@[go_sem ↓ high] theorem Lo(w:World):(Instr.build 238 #[]).run prog w= .ok (.agg (A64 (ac 64 16))) w:=by kernel_rfl
@[go_sem] theorem JN:prog.cellsOf 338=4:=by kernel_rfl
theorem GT(w:World):(zeroValue 338).run prog w= .ok (.agg (A64 (ac 64 4))) w:=by kernel_rfl
@[go_sem ↓ high] theorem Mf(w:World):(Instr.alloc 338 true (.tuple #[])).run prog w= .ok (.pointer (some ⟨w.heap.size,0,none⟩)) (w.alloc (.cells (A64 (ac 64 4)) 338)):=aP GT w
@[go_sem ↓ high] theorem Lp(w:World):(Instr.build 338 #[]).run prog w= .ok (.agg (A64 (ac 64 4))) w:=by kernel_rfl
@[go_sem] theorem JO:prog.cellsOf 340=5:=by kernel_rfl
@[go_sem ↓ high] theorem Lr(w:World):(Instr.build 340 #[]).run prog w= .ok (.agg (A64 (ac 64 5))) w:=by kernel_rfl
@[go_sem] theorem Lt:prog.cellsOf 35=256:=by kernel_rfl
@[go_sem ↓ high] theorem Mg(w:World):(Instr.build 35 #[]).run prog w= .ok (.agg (A8 (ac 8 256))) w:=by kernel_rfl
@[go_sem] theorem JP:prog.cellsOf 100=255:=by kernel_rfl
theorem GU(w:World):(zeroValue 100).run prog w= .ok (.agg (A8 (ac 8 255))) w:=by kernel_rfl
@[go_sem ↓ high] theorem Mh(w:World):(Instr.alloc 100 true (.tuple #[])).run prog w= .ok (.pointer (some ⟨w.heap.size,0,none⟩)) (w.alloc (.cells (A8 (ac 8 255)) 100)):=aP GU w
@[go_sem ↓ high] theorem Lu(w:World):(Instr.build 100 #[]).run prog w= .ok (.agg (A8 (ac 8 255))) w:=by kernel_rfl
@[go_sem] theorem JQ:prog.cellsOf 243=16:=by kernel_rfl
theorem GV(w:World):(zeroValue 243).run prog w= .ok (.agg (A32 (ac 32 16))) w:=by kernel_rfl
@[go_sem ↓ high] theorem Mi(w:World):(Instr.alloc 243 true (.tuple #[])).run prog w= .ok (.pointer (some ⟨w.heap.size,0,none⟩)) (w.alloc (.cells (A32 (ac 32 16)) 243)):=aP GV w
@[go_sem ↓ high] theorem Lv(w:World):(Instr.build 243 #[]).run prog w= .ok (.agg (A32 (ac 32 16))) w:=by kernel_rfl
@[go_sem] theorem JR:prog.cellsOf 333=5:=by kernel_rfl
theorem GW(w:World):(zeroValue 333).run prog w= .ok (.agg (A32 (ac 32 5))) w:=by kernel_rfl
@[go_sem ↓ high] theorem Mj(w:World):(Instr.alloc 333 true (.tuple #[])).run prog w= .ok (.pointer (some ⟨w.heap.size,0,none⟩)) (w.alloc (.cells (A32 (ac 32 5)) 333)):=aP GW w
@[go_sem ↓ high] theorem Lw(w:World):(Instr.build 333 #[]).run prog w= .ok (.agg (A32 (ac 32 5))) w:=by kernel_rfl
@[go_sem] theorem JT:prog.cellsOf 341=5:=by kernel_rfl
theorem GX(w:World):(zeroValue 341).run prog w= .ok (.agg (A64 (ac 64 5))) w:=by kernel_rfl
@[go_sem ↓ high] theorem Mk(w:World):(Instr.alloc 341 true (.tuple #[])).run prog w= .ok (.pointer (some ⟨w.heap.size,0,none⟩)) (w.alloc (.cells (A64 (ac 64 5)) 341)):=aP GX w
@[go_sem ↓ high] theorem Lx(w:World):(Instr.build 341 #[]).run prog w= .ok (.agg (A64 (ac 64 5))) w:=by kernel_rfl
@[go_sem] theorem JU:prog.cellsOf 201=4:=by kernel_rfl
theorem GY(w:World):(zeroValue 201).run prog w= .ok (.agg (A8 (ac 8 4))) w:=by kernel_rfl
@[go_sem ↓ high] theorem Ml(w:World):(Instr.alloc 201 true (.tuple #[])).run prog w= .ok (.pointer (some ⟨w.heap.size,0,none⟩)) (w.alloc (.cells (A8 (ac 8 4)) 201)):=aP GY w
@[go_sem ↓ high] theorem Ly(w:World):(Instr.build 201 #[]).run prog w= .ok (.agg (A8 (ac 8 4))) w:=by kernel_rfl
open Go.RowKit
def splc {n:Nat}(m:List (BitVec n))(o:Nat)(l:List (BitVec n)):List (BitVec n):=m.take o++l++m.drop (o+l.length)
theorem bq {n:Nat}(m:List (BitVec n))(o:Nat)(l:List (BitVec n))(h:o+l.length≤m.length):(splc m o l).length=m.length:=by simp[splc];omega
theorem wK {n:Nat}(m:List (BitVec n))(o:Nat):splc m o []=m:=by simp[splc]
theorem nN {n:Nat}(m l:List (BitVec n))(h:l.length=m.length):splc m 0 l=l:=by simp[splc,h]
theorem gU {n:Nat}(m:List (BitVec n))(o:Nat)(l:List (BitVec n))(h:o+l.length≤m.length)(i:Nat):nth (splc m o l) i=if o≤i∧i<o+l.length then nth l (i-o)else nth m i:=by
 have e:(m.take o).length=o:=by simp;omega
 unfold splc;rw[List.append_assoc,bK,e];by_cases h1:i<o
 ·rw[if_pos h1,br _ _ _ h1,if_neg (by omega)]
 ·rw[if_neg h1,bK];by_cases h2:i-o<l.length
  ·rw[if_pos h2,if_pos (by omega)]
  ·rw[if_neg h2,if_neg (by omega),bQ];congr 1;omega
theorem wL {w:World} {g:Nat} {cs:Array Value}(hw:whole w g=true)(hr:aF w g=cs):w.setRow g cs=w:=by
 obtain⟨c,e,hg⟩:=fz hw;have:c=cs:=by rw[←hr];unfold aF;rw[hg]
 subst this;simp only[World.setRow];congr 1;apply Array.ext_getElem?;intro i;simp only[Array.getElem?_modify];by_cases h:g=i
 ·subst h;simp[hg]
 ·simp[h]
theorem an {w:World} {g:Nat}(cs:Array Value)(hw:whole w g=true):aF (w.setRow g cs) g=cs:=by
 obtain⟨c,e,hg⟩:=fz hw;unfold aF;rw[setRow_heap w g c cs e _ hg]
theorem vu {w:World} {g:Nat}(hw:whole w g=true)(i:Nat):w.frozen? ⟨g,i,none⟩=false:=by
 obtain⟨c,e,hg⟩:=fz hw;simp[World.frozen?,hg]
theorem oU {B:Nat} {w w':World} {g:Nat}(hb:Below B w w')(h:g<B):aF w' g=aF w g:=by
 unfold aF;rw[hb.block g h]
def Blk(w:World)(g:Nat)(t:TypeId)(cs:Array Value):Prop:=w.heap[g]? =some (.cells cs t (0,0))
section
variable {w w':World} {g:Nat} {t:TypeId} {cs:Array Value}
theorem Blk.lt(h:Blk w g t cs):g<w.heap.size:=(Array.getElem?_eq_some_iff.1 h).1
theorem Blk.row(h:Blk w g t cs):aF w g=cs:=by unfold Blk at h;unfold aF;rw[h]
theorem Blk.whole(h:Blk w g t cs):whole w g=true:=by unfold Blk at h;unfold Go.Proofs.YtddkbkbpogcffaaGreatDoor.whole;rw[h];rfl
theorem Blk.cell(h:Blk w g t cs)(i:Nat):w.cell? ⟨g,i,none⟩=cs[i]?:=by rw[bW,h.row]
theorem Blk.frozen(h:Blk w g t cs)(i:Nat):w.frozen? ⟨g,i,none⟩=false:=vu h.whole i
theorem Blk.new(w:World)(t:TypeId)(cs:Array Value):Blk (w.alloc (.cells cs t)) w.heap.size t cs:=heap_alloc_new w _
theorem Blk.drew(h:Blk w g t cs):Blk w.drew g t cs:=h
theorem Blk.alloc(h:Blk w g t cs)(o:Obj):Blk (w.alloc o) g t cs:=(World.alloc_old' w o g h.lt).trans h
theorem Blk.set_(h:Blk w g t cs)(i:Nat)(u:Value):Blk (w.setCell ⟨g,i,none⟩ u) g t (cs.setIfInBounds i u):=heap_setCell_same w g i cs t u h
theorem Blk.far(h:Blk w g t cs) {p:Addr}(hp:g≠p.block)(u:Value):Blk (w.setCell p u) g t cs:=(heap_setCell_other w p g u hp).trans h
theorem Blk.put(h:Blk w g t cs)(cs':Array Value):Blk (w.setRow g cs') g t cs':=setRow_heap w g cs cs' t _ h
theorem Blk.farRow(h:Blk w g t cs) {k:Nat}(hp:g≠k)(cs':Array Value):Blk (w.setRow k cs') g t cs:=(setRow_other w k g cs' hp).trans h
theorem Blk.below {B:Nat}(h:Blk w g t cs)(hb:Below B w w')(hg:g<B):Blk w' g t cs:=(hb.block g hg).trans h
theorem Blk.belowAll(h:Blk w g t cs)(hb:Below w.heap.size w w'):Blk w' g t cs:=h.below hb h.lt
end
theorem ao {a b c:World} {r:Option Nat}(h:a.grownBy b r)(k:b.grownBy c r):a.grownBy c r:=
 ⟨k.os.trans h.os,k.tape.trans h.tape,k.output.trans h.output,Nat.le_trans h.size k.size,fun j hj hr=>(k.block j (Nat.lt_of_lt_of_le hj h.size) hr).trans (h.block j hj hr)⟩
theorem dv(w:World)(r:Option Nat):w.grownBy w r:=⟨rfl,rfl,rfl,Nat.le_refl _,fun _ _ _=>rfl⟩
theorem qF {a b:World} {r:Option Nat}(h:a.grownBy b r):a.grownBy b.drew r:=⟨h.os,h.tape,h.output,h.size,h.block⟩
theorem aW(w:World)(g i:Nat)(v:Value):w.grownBy (w.setCell ⟨g,i,none⟩ v) (some g):=
 ⟨rfl,rfl,rfl,by simp,fun k _ hr=>heap_setCell_other w ⟨g,i,none⟩ k v (fun e=>hr (by rw[e]))⟩
theorem aK(w:World)(g:Nat)(cs:Array Value):w.grownBy (w.setRow g cs) (some g):=
 ⟨rfl,rfl,rfl,by simp,fun k _ hr=>setRow_other w g k cs (fun e=>hr (by rw[e]))⟩
theorem ae {B g:Nat} {w w':World}(h:w.grownBy w' (some g))(hB:B≤g)(hs:B≤w.heap.size):Below B w w':=(Below.refl B w).grown h hs (fun k hk=>by cases hk;exact hB)
theorem aD {w w':World}(h:Below w.heap.size w w')(r:Option Nat):w.grownBy w' r:=⟨h.os,h.tape,h.output,h.size,fun k hk _=>h.block k hk⟩
theorem Blk.grown {w w':World} {g:Nat} {t:TypeId} {cs:Array Value} {r:Option Nat}(h:Blk w g t cs)(hg:w.grownBy w' r)(hr:some g≠r):Blk w' g t cs:=(hg.block g h.lt hr).trans h
theorem Blk.cell8 {w:World} {g:Nat} {t:TypeId} {s:Y8} {m:Nat}(h:Blk w g t (A8 s))(hs:s.length=m)(i:Nat)(hi:i<m):w.cell? ⟨g,i,none⟩=some (v8 (nth s i)):=by
 rw[h.cell,kt s i (by omega)]
theorem Blk.cell32 {w:World} {g:Nat} {t:TypeId} {s:List (BitVec 32)} {m:Nat}(h:Blk w g t (A32 s))(hs:s.length=m)(i:Nat)(hi:i<m):w.cell? ⟨g,i,none⟩=some (v32 (nth s i)):=by
 rw[h.cell,vt s i (by omega)]
theorem Blk.cell64 {w:World} {g:Nat} {t:TypeId} {s:List (BitVec 64)} {m:Nat}(h:Blk w g t (A64 s))(hs:s.length=m)(i:Nat)(hi:i<m):w.cell? ⟨g,i,none⟩=some (v64 (nth s i)):=by
 rw[h.cell,mJ s i (by omega)]
theorem Blk.rd8 {w:World} {g:Nat} {t:TypeId} {m:Y8}(h:Blk w g t (A8 m))(k:Nat)(hk:k≤m.length)(hm:m.length≤maxLen):Rd8 w (some ⟨g,0,none⟩) k m.length (m.take k):=
 ⟨by simp;omega,hk,hm,fun _=>⟨g,0,rfl,h.lt,fun i hi=>by rw[Nat.zero_add,h.cell,kt m i (by omega),br _ _ _ hi]⟩⟩
theorem Rd8.cells {w:World} {a:Option Addr} {n c:Nat} {l:Y8}(h:Rd8 w a n c l)(hn:0<n): ∃ad,a=some ad∧ ∀j v,(l.map v8)[j]? =some v→w.cell? (ad.add j)=some v:=by
 obtain⟨b,o,rfl,_,hc⟩:=h.2.2.2 hn;refine⟨_,rfl,fun j v hj=> ?_⟩;have hj':j<l.length:=by have:=(List.getElem?_eq_some_iff.1 hj).1;simpa using this
 rw[Addr.add_lit,hc j (by have:=h.1;omega),←hj,List.getElem?_map,eH hj'];rfl
section
variable {P:Program}
theorem ja(w:World)(dT sT ty elem:TypeId)(g o dLen dCap:Nat)(a:Option Addr)(sLen sCap:Nat)(m l:Y8)(hu:P.underlying dT=some (.slice elem))(hs:(P.info? elem).map (·.size)=some 1)
  (hw:whole w g=true) (hr:aF w g=A8 m) (hl:Rd8 w a sLen sCap l) (hfit:o+min sLen dLen≤m.length):
  (Builtin.copy_ #[dT,sT] ty #[.slice (some ⟨g,o,none⟩) dLen dCap,.slice a sLen sCap]).run P w= .ok (goInt (min sLen dLen)) (w.setRow g (A8 (splc m o (l.take (min sLen dLen))))):=by
 obtain⟨cur,e,hg⟩:=fz hw;have hcur:cur=A8 m:=by rw[←hr];unfold aF;rw[hg]
 subst hcur;by_cases hn:min sLen dLen=0
 ·rw[hn,List.take_zero,wK,wL hw hr];have hn':Nat.min sLen dLen=0:=hn;have hz:min (sLen:Int) (dLen:Int)=0:=by omega
  cases hq:P.info? elem with
  |none=>simp[hq]at hs
  |some i=>
   cases a with
   |none=>simp[Builtin.copy_,run_underlying hu,Builtin.lenOf,Builtin.firstCells,sizeOf,typeInfo,hq,storeCells,hn',hz]
   |some x=>simp[Builtin.copy_,run_underlying hu,Builtin.lenOf,Builtin.firstCells,sizeOf,typeInfo,hq,storeCells,hn',hz,loadCells,loadCellsFrom]
 ·obtain⟨ad,rfl,hc⟩:=hl.cells (by omega);have hlen:(l.take (min sLen dLen)).length=min sLen dLen:=by rw[List.length_take,hl.1];omega
  have h:=run_copy_row (P:=P) w dT sT ty elem g o dLen dCap ad sLen sCap (A8 m) e ((l.take (min sLen dLen)).map v8) hu hs hg (by rw[List.length_map,hlen]) (fun j v hj=>by
   refine hc j v ?_;rw[List.map_take,List.getElem?_take]at hj
   split at hj
   ·exact hj
   ·cases hj) (by rw[List.length_map,hlen,ag];exact hfit) (fun v hv=>by
    obtain⟨x,_,rfl⟩:=List.mem_map.1 hv;rfl)
  rw[h,List.length_map,hlen];have hg':goInt ((min sLen dLen:Nat):Int)=goInt (min (sLen:Int) (dLen:Int)):=by congr 1;omega
  have hrow:((A8 m).toList.take o++(l.take (min sLen dLen)).map v8++(A8 m).toList.drop (o+min sLen dLen)).toArray=A8 (splc m o (l.take (min sLen dLen))):=by
   apply Array.ext';rw[fy,fy];simp only[splc,hlen,List.map_append,List.map_take,List.map_drop]
  rw[hrow,hg']
theorem cE(w:World)(t e:TypeId)(l c:Int)(ht:P.underlying t=some (.slice e))(hi:(P.info? e).map (fun i=>(i.zero,i.size,i.bytes))=some (some (.int .u8 0),1,1))(h0:0≤l)(hlc:l≤c)(hb:c≤281474976710656):
  (Instr.makeSlice t (.int .i64 l) (.int .i64 c)).run P w= .ok (.slice (some ⟨w.heap.size,0,none⟩) l.toNat c.toNat) (w.alloc (.cells (A8 (ac 8 c.toNat)) e)):=by
 obtain⟨i,hi,hz,hs,hby⟩:=info_parts hi;rw[run_make w t e i (.int .u8 0) ht hi hz .i64 .i64 l c h0 hlc (by rw[hby];omega) (by omega)];congr 3;apply Array.ext';rw[hs,Nat.mul_one];show(madeCells #[Value.int .u8 0] c.toNat).toList=_;rw[toList_madeCells_one,fy,ac,List.map_replicate];rfl
end
theorem new1(w W:World)(c0:Array Value)(t0:TypeId)(h:(w.alloc (.cells c0 t0))=W):Blk W w.heap.size t0 c0∧Below w.heap.size w W∧W.heap.size=w.heap.size+1:=by
 subst h;exact⟨Blk.new _ _ _,(Below.refl _ _).alloc (Nat.le_refl _) _,by simp⟩
theorem new2(w W:World)(c0 c1:Array Value)(t0 t1:TypeId)(h:((w.alloc (.cells c0 t0)).alloc (.cells c1 t1))=W):Blk W w.heap.size t0 c0∧Blk W (w.heap.size+1) t1 c1∧Below w.heap.size w W∧W.heap.size=w.heap.size+2:=by
 subst h;obtain⟨h0,hb,hz⟩:=new1 w _ c0 t0 rfl;have hn:=Blk.new (w.alloc (.cells c0 t0)) t1 c1;rw[hz]at hn;exact⟨h0.alloc _,hn,hb.alloc hb.size _,by rw[World.size_alloc,hz]⟩
theorem new3(w W:World)(c0 c1 c2:Array Value)(t0 t1 t2:TypeId)(h:(((w.alloc (.cells c0 t0)).alloc (.cells c1 t1)).alloc (.cells c2 t2))=W):Blk W w.heap.size t0 c0∧Blk W (w.heap.size+1) t1 c1∧Blk W (w.heap.size+2) t2 c2∧Below w.heap.size w W∧W.heap.size=w.heap.size+3:=by
 subst h;obtain⟨h0,h1,hb,hz⟩:=new2 w _ c0 c1 t0 t1 rfl;have hn:=Blk.new ((w.alloc (.cells c0 t0)).alloc (.cells c1 t1)) t2 c2;rw[hz]at hn;exact⟨h0.alloc _,h1.alloc _,hn,hb.alloc hb.size _,by rw[World.size_alloc,hz]⟩
theorem new4(w W:World)(c0 c1 c2 c3:Array Value)(t0 t1 t2 t3:TypeId)(h:((((w.alloc (.cells c0 t0)).alloc (.cells c1 t1)).alloc (.cells c2 t2)).alloc (.cells c3 t3))=W):Blk W w.heap.size t0 c0∧Blk W (w.heap.size+1) t1 c1∧Blk W (w.heap.size+2) t2 c2∧Blk W (w.heap.size+3) t3 c3∧Below w.heap.size w W∧W.heap.size=w.heap.size+4:=by
 subst h;obtain⟨h0,h1,h2,hb,hz⟩:=new3 w _ c0 c1 c2 t0 t1 t2 rfl;have hn:=Blk.new (((w.alloc (.cells c0 t0)).alloc (.cells c1 t1)).alloc (.cells c2 t2)) t3 c3;rw[hz]at hn;exact⟨h0.alloc _,h1.alloc _,h2.alloc _,hn,hb.alloc hb.size _,by rw[World.size_alloc,hz]⟩
theorem new5(w W:World)(c0 c1 c2 c3 c4:Array Value)(t0 t1 t2 t3 t4:TypeId)(h:(((((w.alloc (.cells c0 t0)).alloc (.cells c1 t1)).alloc (.cells c2 t2)).alloc (.cells c3 t3)).alloc (.cells c4 t4))=W):Blk W w.heap.size t0 c0∧Blk W (w.heap.size+1) t1 c1∧Blk W (w.heap.size+2) t2 c2∧Blk W (w.heap.size+3) t3 c3∧Blk W (w.heap.size+4) t4 c4∧Below w.heap.size w W∧W.heap.size=w.heap.size+5:=by
 subst h;obtain⟨h0,h1,h2,h3,hb,hz⟩:=new4 w _ c0 c1 c2 c3 t0 t1 t2 t3 rfl;have hn:=Blk.new ((((w.alloc (.cells c0 t0)).alloc (.cells c1 t1)).alloc (.cells c2 t2)).alloc (.cells c3 t3)) t4 c4;rw[hz]at hn;exact⟨h0.alloc _,h1.alloc _,h2.alloc _,h3.alloc _,hn,hb.alloc hb.size _,by rw[World.size_alloc,hz]⟩
theorem new6(w W:World)(c0 c1 c2 c3 c4 c5:Array Value)(t0 t1 t2 t3 t4 t5:TypeId)(h:((((((w.alloc (.cells c0 t0)).alloc (.cells c1 t1)).alloc (.cells c2 t2)).alloc (.cells c3 t3)).alloc (.cells c4 t4)).alloc (.cells c5 t5))=W):Blk W w.heap.size t0 c0∧Blk W (w.heap.size+1) t1 c1∧Blk W (w.heap.size+2) t2 c2∧Blk W (w.heap.size+3) t3 c3∧Blk W (w.heap.size+4) t4 c4∧Blk W (w.heap.size+5) t5 c5∧Below w.heap.size w W∧W.heap.size=w.heap.size+6:=by
 subst h;obtain⟨h0,h1,h2,h3,h4,hb,hz⟩:=new5 w _ c0 c1 c2 c3 c4 t0 t1 t2 t3 t4 rfl;have hn:=Blk.new (((((w.alloc (.cells c0 t0)).alloc (.cells c1 t1)).alloc (.cells c2 t2)).alloc (.cells c3 t3)).alloc (.cells c4 t4)) t5 c5;rw[hz]at hn;exact⟨h0.alloc _,h1.alloc _,h2.alloc _,h3.alloc _,h4.alloc _,hn,hb.alloc hb.size _,by rw[World.size_alloc,hz]⟩
def Own8(w:World)(B:Nat)(e:TypeId)(v:Value)(l:Y8):Prop:=w.ownsRow B e 1 v l.length (l.map v8)
theorem Own8.nil_(w:World)(B:Nat)(e:TypeId):Own8 w B e (.slice none 0 0) []:=World.ownsRow_nil w B e 1
theorem Own8.made(w:World)(B:Nat)(e:TypeId)(m:Y8)(n:Nat)(hB:B≤w.heap.size)(hn:n≤m.length)(hm:m.length≤maxLen):Own8 (w.alloc (.cells (A8 m) e)) B e (.slice (some ⟨w.heap.size,0,none⟩) n m.length) (m.take n):=by
 refine⟨by simp,.inr ⟨w.heap.size,m.length,A8 m,by simp[Nat.min_eq_left hn],hB,heap_alloc_new w _,by simp[Nat.min_eq_left hn,hn],hm,by simp[A8],by simp[A8,Nat.min_eq_left hn,List.map_take]⟩⟩
theorem Own8.blk {w:World} {B g:Nat} {e:TypeId} {m:Y8}(h:Blk w g e (A8 m))(n:Nat)(hB:B≤g)(hn:n≤m.length)(hm:m.length≤maxLen):Own8 w B e (.slice (some ⟨g,0,none⟩) n m.length) (m.take n):=by
 refine⟨by simp,.inr ⟨g,m.length,A8 m,by simp[Nat.min_eq_left hn],hB,h,by simp[Nat.min_eq_left hn,hn],hm,by simp[A8],by simp[A8,Nat.min_eq_left hn,List.map_take]⟩⟩
theorem Own8.rd {w:World} {B:Nat} {e:TypeId} {v:Value} {l:Y8}(h:Own8 w B e v l): ∃a c,v= .slice a l.length c∧Rd8 w a l.length c l∧(∀ad,a=some ad→B≤ad.block):=by
 rcases h.2 with⟨rfl,h0⟩|⟨g,cap,cur,rfl,hg,hh,hnc,hcm,hcs,hx⟩
 ·refine⟨_,_,by rw[h0],⟨rfl,by omega,by unfold maxLen;omega,fun hn=>by omega⟩,fun ad had=>by cases had⟩
 ·refine⟨_,_,rfl,⟨rfl,hnc,hcm,fun hn=>⟨g,0,rfl,(Array.getElem?_eq_some_iff.1 hh).1,fun i hi=> ?_⟩⟩,fun ad had=>by cases had;exact hg⟩;rw[Nat.zero_add,bW];unfold aF;rw[hh];have h2:=congrArg (fun l:List Value=>l[i]?) hx;simp only[Nat.mul_one,List.getElem?_take,hi,if_true,List.getElem?_map,eH hi]at h2;simpa using h2
theorem Own8.alloc {w:World} {B:Nat} {e:TypeId} {v:Value} {l:Y8}(h:Own8 w B e v l)(o:Obj):Own8 (w.alloc o) B e v l:=World.ownsRow.alloc h o
theorem Own8.drew {w:World} {B:Nat} {e:TypeId} {v:Value} {l:Y8}(h:Own8 w B e v l):Own8 w.drew B e v l:=h
theorem Own8.below {w w':World} {B:Nat} {e:TypeId} {v:Value} {l:Y8}(h:Own8 w B e v l)(hb:Below w.heap.size w w'):Own8 w' B e v l:=by
 refine⟨h.1,?_⟩;rcases h.2 with h0|⟨g,cap,cur,hv,hg,hh,hr⟩
 ·exact .inl h0
 ·exact .inr ⟨g,cap,cur,hv,hg,by rw[hb.block g (Array.getElem?_eq_some_iff.1 hh).1];exact hh,hr⟩
section
variable {P:Program}
theorem wM(w:World)(B:Nat)(t ty e:TypeId)(ht:P.underlying t=some (.slice e))(hi:(P.info? e).map (fun i=>(i.zero,i.size,i.bytes))=some (some (.int .u8 0),1,1))
  (v:Value) (l:Y8) (hown:Own8 w B e v l) (a:Option Addr) (m c:Nat) (s:Y8) (hr:Rd8 w a m c s) (hb:l.length+m≤140737488355328) (hbase:B≤w.heap.size):
  ∃v' w',(Builtin.append_ #[t,t] ty #[v,.slice a m c]).run P w= .ok v' w'∧Own8 w' B e v' (l++s)∧w.grownBy w' v.ownBlock∧Below B w w':=by
 obtain⟨i,hi,hz,hs,hby⟩:=info_parts hi;have hbel: ∀w',w.grownBy w' v.ownBlock→Below B w w':=fun w' hg=>(Below.refl B w).grown hg hbase (fun k hk=>(World.ownsRow.lt hown k hk).1);by_cases hm:m=0
 ·subst hm;have hs0:s=[]:=List.eq_nil_of_length_eq_zero hr.1;subst hs0;refine⟨v,w,?_,by rw[List.append_nil];exact hown,World.grownBy.refl w _,Below.refl _ _⟩;rcases hown.2 with⟨rfl,_⟩|⟨g,cap,cur,rfl,_,_,hnc,_⟩
  ·cases a<;>simp[Builtin.append_,run_underlying ht,sizeOf,typeInfo,hi,Builtin.lenOf,Builtin.firstCells,loadCells,loadCellsFrom]
  ·cases a<;>simp[Builtin.append_,run_underlying ht,sizeOf,typeInfo,hi,Builtin.lenOf,Builtin.firstCells,loadCells,loadCellsFrom,hnc,storeCells]
 ·obtain⟨ad,rfl,hc⟩:=hr.cells (by omega);obtain⟨v',w',hrun,hown',hg,_⟩:=run_append_own (P:=P) w B t ty e i (.int .u8 0) 1 1 ht hi hz hs hby rfl (by omega) v l.length (l.map v8) hown ad m c (s.map v8) (by simp[hr.1]) hc
   (fun u hu=>by obtain⟨x,_,rfl⟩:=List.mem_map.1 hu;rfl) (by unfold maxLen;omega) (by omega) hbase
  refine⟨v',w',hrun,?_,hg,hbel _ hg⟩;unfold Own8;rw[List.length_append,hr.1,List.map_append];exact hown'
end
end Go.Proofs.YtddkbkbpogcffaaGreatDoor
