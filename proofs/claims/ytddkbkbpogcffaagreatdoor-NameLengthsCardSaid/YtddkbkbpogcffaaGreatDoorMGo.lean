/-The check of a long region,reckoned number by number. -/
import Derived.Test.YtddkbkbpogcffaaGreatDoorMGt
namespace Go.Proofs.YtddkbkbpogcffaaGreatDoor
set_option linter.unusedSimpArgs false
set_option linter.unusedVariables false
set_option maxRecDepth 100000
set_option maxHeartbeats 1600000
def lK {α:Type}(n:Nat)(k:Nat→α):α:=Nat.rec (k 0) (fun m _=>k (m+1)) n
theorem ii {α:Type}(n:Nat)(k:Nat→α):lK n k=k n:=by cases n<;>rfl
def vA(acc:List Nat)(o:Oper):Nat:=o.after.toList.foldl (fun s e=>lK s fun s=>if Region.binds .any e then s|||2^e.on|||acc.getD e.on 0 else s) 0
theorem zf(acc:List Nat)(o:Oper):vA acc o=ru acc o:=by
 unfold vA ru;congr 1;funext s e;rw[ii]
def ra {α:Type}:List Oper→List Nat→(List Nat→α)→α
 | [],acc,k=>k acc
 |o::r,acc,k=>lK (vA acc o) fun m=>ra r (acc++ [m]) k
theorem je {α:Type}(k:List Nat→α): ∀(l:List Oper) (acc:List Nat),ra l acc k=k (bA l acc)
 | [],_=>rfl
 |o::r,acc=>by
  unfold ra bA;rw[ii,je k r,zf]
def vB(ops:Array Oper)(ks:List Nat):Bool:=
 Region.noSelect ops&&decide (ks.length=ops.size)&&
 (List.range ops.size).all (fun i=>match ops[i]? with|some o=>o.after.toList.all fun e=> !Region.binds .any e||decide (e.on<i)|none=>true)&&
 ra ops.toList [] fun ms=>(List.range ops.size).all fun i=>lK (ms.getD i 0) fun m=>(List.range i).all fun x=>m.testBit x||rt ops (fun j=>ks.getD j 2) x i
theorem zg(ops:Array Oper)(ks:List Nat):vB ops ks=ry ops ks:=by
 unfold vB ry;rw[je];simp only[ii];rfl
section
variable {P:Program}
theorem aB {id:Nat} {Q:Exit→Act→World→Prop} {a:Act} {w:World} {l:List Oper}(ks:List Nat)(hm:P.follows .mixedOrders=true)(hok:vB l.toArray ks=true)
  (h: ∀(ops':Array Oper) (K:Act→World→Prop),(∀a w,Q .normal a w→K a w)→wpZ P ops' K ks l a w.drew):(Code.region id l.toArray true).wp P Q a w:=
 aZ ks hm (by rw[←zg];exact hok) h
end
section
variable {P:Program}
end
end Go.Proofs.YtddkbkbpogcffaaGreatDoor
