/-Strings of bytes;append onto a slice that has no room. No function of the program in sight. -/
import Derived.Test.YtlpkfdkhlffmlaaGreatDoorMGt
import Derived.Test.YtlpkfdkhlffmlaaGreatDoorRows
import Derived.ProofKit
import Derived.OpenShut
import Derived.ShutString
import Derived.ChangeOld
import Derived.Below
import Derived.Test.YtlpkfdkhlffmlaaGreatDoorMGa
import Derived.ChangeKeysEq
import Derived.Laws.StructEq
namespace Go.Proofs.YtlpkfdkhlffmlaaGreatDoor
open Go.Proofs.Tryz
set_option linter.unusedSimpArgs false
set_option linter.unusedVariables false
set_option maxRecDepth 100000
set_option maxHeartbeats 1600000
open Go.RowKit
def str(l:Y8):ByteArray:=⟨(l.map UInt8.ofBitVec).toArray⟩
theorem eO(l:Y8):(str l).data.toList=l.map UInt8.ofBitVec:=by simp[str]
theorem qZ(l:Y8):(str l).toList=l.map UInt8.ofBitVec:=by
 rw[ByteArray.toList_eq,eO]
theorem bR(l:Y8):(str l).size=l.length:=by
 show(str l).data.size=_;simp[str]
theorem xA {a b:Y8}(h:str a=str b):a=b:=by
 have h':=congrArg (fun s:ByteArray=>s.data.toList) h;simp only[eO]at h';have e: ∀l:Y8,(l.map UInt8.ofBitVec).map UInt8.toBitVec=l:=by
  intro l;rw[List.map_map];have:(UInt8.toBitVec∘UInt8.ofBitVec)=id:=by funext x;rfl
  rw[this,List.map_id]
 rw[←e a,h',e b]
section
variable {P:Program}
theorem xB(w:World)(T S e:TypeId)(a:Option Addr)(n c:Nat)(l:Y8)(hT:P.underlying T=some (.slice e))(hS:P.underlying S=some .string)(he:P.underlying e=some (.int .u8))(hr:Rd8 w a n c l):
  (convert T S (.slice a n c)).run P w= .ok (.string (str l)) w:=by
 rw[run_convert_bytes_string w T S e a n c hT he hS];have key: ∀(l:Y8) (r:ByteArray),((l.map fun x=>(x.toNat:Int)).foldl (fun r n=>r.push (UInt8.ofNat n.toNat)) r)=⟨r.data++(l.map UInt8.ofBitVec).toArray⟩:=by
  intro l
  induction l with
  |nil=>intro r;simp
  |cons x l ih=>
   intro r;rw[List.map_cons,List.foldl_cons,ih];have hx:UInt8.ofNat (x.toNat:Int).toNat=UInt8.ofBitVec x:=by
    rw[Int.toNat_natCast,←UInt8.toNat_inj];simp
   rw[hx];show(⟨_⟩:ByteArray)=_;congr 1;simp[ByteArray.push]
 by_cases h0:n=0
 ·subst h0;have:l=[]:=List.eq_nil_of_length_eq_zero hr.1;subst this;cases a with
  |none=>rfl
  |some ad=>
   have:=run_bytesToString (P:=P) w ad 0 c [] (by simp[loadCells,loadCellsFrom]);rw[this];rfl
 ·obtain⟨ad,rfl,hc⟩:=hr.cells (by omega);have hl:=run_loadCells_list (P:=P) w ad (l.map v8) hc;rw[List.length_map,hr.1]at hl;have:=run_bytesToString (P:=P) w ad n c (l.map fun x=>(x.toNat:Int)) (by rw[hl,List.map_map];rfl);rw[this,key];congr 2;simp[str]
theorem nW(w:World)(t ty e:TypeId)(ht:P.underlying t=some (.slice e))(hi:(P.info? e).map (fun i=>(i.zero,i.size,i.bytes))=some (some (.int .u8 0),1,1))
  (a:Option Addr) (n c:Nat) (l:Y8) (hl:Rd8 w a n c l) (hn:0<n) (b:Option Addr) (m k:Nat) (s:Y8) (hr:Rd8 w b m k s) (hm:0<m) (hc:c<n+m) (hb:n+m≤140737488355328):
  ∃v' w',(Builtin.append_ #[t,t] ty #[.slice a n c,.slice b m k]).run P w= .ok v' w'∧Own8 w' w.heap.size e v' (l++s)∧Below w.heap.size w w':=by
 obtain⟨i,hi,hz,hs,hby⟩:=info_parts hi;obtain⟨ad,rfl,h1⟩:=hl.cells hn;obtain⟨bd,rfl,h2⟩:=hr.cells hm;obtain⟨v',w',hrun,hown,hg⟩:=run_append_arg_grows w t ty e i (.int .u8 0) 1 1 ht hi hz hs hby rfl (by omega) ad n c (l.map v8) (by simp[hl.1]) h1 bd m k (s.map v8) (by simp[hr.1]) h2 hc (by unfold maxLen;omega) (by omega);refine⟨v',w',hrun,?_,⟨hg.os,hg.tape,hg.output,hg.size,fun k hk=>hg.block k hk (by simp)⟩⟩;unfold Own8;rw[List.length_append,hl.1,hr.1,List.map_append];exact hown
end
open Go.ChangeShapes Go.WideShapes Go.ChangeAt Go.RowKit
theorem own:ownKnob prog.godebug=none:=by kernel_rfl
theorem sP:laidOutB prog=true:=by kernel_rfl
section
variable {H:Type} {enc:TypeId×Value→H} {P:Program} {w:World} {base:Nat} {spare:Nat→Bool} {held:Bool}
theorem zA {a:Int}(h:(Lit.int .u8 a).wf=true): ∃x:BitVec 8,Value.int .u8 a=v8 x:=by
 have hb:=bounds_u8 h;refine⟨BitVec.ofInt 8 a,?_⟩;unfold v8;congr 1;rw[BitVec.toNat_ofInt];omega
theorem sQ: ∀(zs:List Int),(∀n∈zs,(Lit.int .u8 n).wf=true)→ ∃l:Y8,zs.map (Value.int .u8)=l.map v8
 | [],_=>⟨[],rfl⟩
 |z::zs,h=>by
  obtain⟨x,hx⟩:=zA (h z (by simp));obtain⟨l,hl⟩:=sQ zs (fun n hn=>h n (by simp[hn]));exact⟨x::l,by simp[hx,hl]⟩
theorem rb {t e:TypeId} {a:Option Addr} {n c:Nat} {d:DataW H} {p:List MemPlace}(ht:P.underlying t=some (.slice e))(he:P.underlying e=some (.int .u8))(hce:P.cellsOf e=1)
  (h:DataW.Trod enc P w base spare held t (.slice a n c) d p): ∃l:Y8,Rd8 w a n c l:=by
 obtain⟨fuel,hf⟩:=h;rcases open_ints ht he hce hf with⟨hcs,_⟩|⟨x,l,c',zs,hcs,_,hl,hm,hz,hx,hcell,hwz⟩
 ·simp[Value.cells]at hcs;obtain⟨rfl,rfl,rfl⟩:=hcs;exact⟨[],rfl,Nat.le_refl _,by unfold maxLen;omega,fun h=>absurd h (by omega)⟩
 ·simp[Value.cells]at hcs;obtain⟨rfl,rfl,rfl⟩:=hcs;obtain⟨l',hl'⟩:=sQ zs hwz;have hzn:n≤zs.length:=by rw[hz];split<;>omega
  have hlen:l'.length=zs.length:=by have:=congrArg List.length hl';simp at this;omega
  refine⟨l'.take n,by simp;omega,hl,hm,fun hn=> ?_⟩;have hc0:=hcell 0 (by omega);obtain⟨b,off,spot⟩:=x;have hspot:spot=none:=by simpa[Addr.add]using World.cell?_spot hc0
  subst hspot;refine⟨b,off,rfl,?_,fun i hi=> ?_⟩
  ·have:=World.block_lt_of_cell? w _ hc0;simpa[Addr.add]using this
  ·have h1:=hcell i (by omega);rw[Addr.add_lit]at h1;rw[h1,aJ _ _ _ hi];have h2:=congrArg (fun l:List Value=>l[i]?) hl';have hi1:i<zs.length:=by omega
   have hi2:i<l'.length:=by omega
   simp only[List.getElem?_map,dv hi2,List.getElem?_eq_getElem hi1,Option.map_some]at h2;rw[←h2];congr 2;simp[hi1]
end
open Go.RowKit
theorem rh {n:Nat}: ∀(xs ys:List (BitVec n)),xs.length=ys.length→((List.range xs.length).all fun i=>nth xs i==nth ys i)=decide (xs=ys):=by
 intro xs ys h;rw[Bool.eq_iff_iff];simp only[List.all_eq_true,List.mem_range,beq_iff_eq,decide_eq_true_eq];exact⟨fun hh=>aD h (fun i hi=>hh i hi),fun e i _=>by rw[e]⟩
section
variable {P:Program} {e:TypeId}
theorem jV(d:Nat)(he:P.underlying e=some (.int .u64))(xs ys:List (BitVec 64))(w:World): ∀is:List Nat,(∀i∈is,i<xs.length∧i<ys.length)→(Op.eqItems (d+1) e 1 (A64 xs) (A64 ys) is).run P w= .ok (is.all fun i=>nth xs i==nth ys i) w
 | [],_=>by simp[Op.eqItems]
 |i::is,h=>by
  have h1:=h i (by simp);have hp: ∀zs:List (BitVec 64),i<zs.length→(part e (A64 zs) (i*1)).run P w= .ok (v64 (nth zs i)) w:=fun zs hz=>by
   simp[part,isAgg,run_underlying he,iC zs i hz]
  have pe:(Op.equalIn (d+1) e (v64 (nth xs i)) (v64 (nth ys i))).run P w= .ok (nth xs i==nth ys i) w:=by
   rw[v64,v64,run_equalIn_int w d e .u64 .u64 _ _ he];congr 1;rw[Bool.eq_iff_iff,beq_iff_eq,beq_iff_eq,Int.natCast_inj,BitVec.toNat_inj]
  simp only[Op.eqItems,Sem.run_bind,hp xs h1.1,hp ys h1.2,pe,Result.andThen_ok,List.all_cons];cases hb:(nth xs i==nth ys i)
  ·simp
  ·simpa using jV d he xs ys w is (fun j hj=>h j (by simp[hj]))
theorem sS {t:TypeId} {m:Nat}(ht:P.underlying t=some (.array m e))(he:P.underlying e=some (.int .u64))(hi:(P.info? e).isSome=true)(hc:P.cellsOf e=1)(xs ys:List (BitVec 64))(hx:xs.length=m)(hy:ys.length=m)(w:World):
  (binOp .eql t (.agg (A64 xs)) (.agg (A64 ys))).run P w= .ok (.bool (decide (xs=ys))) w∧(binOp .neq t (.agg (A64 xs)) (.agg (A64 ys))).run P w= .ok (.bool (!decide (xs=ys))) w:=by
 obtain⟨i,hi⟩:=Option.isSome_iff_exists.1 hi;have h:(Op.equalIn 10000 t (.agg (A64 xs)) (.agg (A64 ys))).run P w= .ok (decide (xs=ys)) w:=by
  rw[run_equalIn_array w 9999 (A64 xs) (A64 ys) ht hi,hc,jV 9998 he xs ys w _ (fun j hj=>by simp at hj;omega),←hx,rh xs ys (by omega)]
 constructor
 ·rw[run_eql_struct,h];rfl
 ·rw[run_neq_struct,h];rfl
end
@[go_sem ↓ high] theorem Bm(op:BinOp)(x y:Operand)(xs ys:Array Value)(w:World):(eqGuard op 154 x y (.agg xs) (.agg ys)).run prog w= .ok () w:=by cases op<;>kernel_rfl
@[go_sem ↓ high] theorem Bn(op:BinOp)(x y:Operand)(xs ys:Array Value)(w:World):(eqGuard op 143 x y (.agg xs) (.agg ys)).run prog w= .ok () w:=by cases op<;>kernel_rfl
@[go_sem ↓ high] theorem Bo(op:BinOp)(x y:Operand)(xs ys:Array Value)(w:World):(eqGuard op 190 x y (.agg xs) (.agg ys)).run prog w= .ok () w:=by cases op<;>kernel_rfl
@[go_sem ↓ high] theorem Bp(op:BinOp)(x y:Operand)(xs ys:Array Value)(w:World):(eqGuard op 348 x y (.agg xs) (.agg ys)).run prog w= .ok () w:=by cases op<;>kernel_rfl
@[go_sem ↓ high] theorem Bq(op:BinOp)(x y:Operand)(xs ys:Array Value)(w:World):(eqGuard op 232 x y (.agg xs) (.agg ys)).run prog w= .ok () w:=by cases op<;>kernel_rfl
@[go_sem ↓ high] theorem Br(op:BinOp)(x y:Operand)(xs ys:Array Value)(w:World):(eqGuard op 233 x y (.agg xs) (.agg ys)).run prog w= .ok () w:=by cases op<;>kernel_rfl
end Go.Proofs.YtlpkfdkhlffmlaaGreatDoor
