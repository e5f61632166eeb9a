/-The check of a long region,reckoned number by number. -/
import Derived.Test.YtlpkfdkhlffmlaaGreatDoorMGt
namespace Go.Proofs.YtlpkfdkhlffmlaaGreatDoor
set_option linter.unusedSimpArgs false
set_option linter.unusedVariables false
set_option maxRecDepth 100000
set_option maxHeartbeats 1600000
def lj {α:Type}(n:Nat)(k:Nat→α):α:=Nat.rec (k 0) (fun m _=>k (m+1)) n
theorem eN {α:Type}(n:Nat)(k:Nat→α):lj n k=k n:=by cases n<;>rfl
def nT(acc:List Nat)(o:Oper):Nat:=o.after.toList.foldl (fun s e=>lj s fun s=>if Region.binds .any e then s|||2^e.on|||acc.getD e.on 0 else s) 0
theorem qW(acc:List Nat)(o:Oper):nT acc o=lu acc o:=by
 unfold nT lu;congr 1;funext s e;rw[eN]
def mP {α:Type}:List Oper→List Nat→(List Nat→α)→α
 | [],acc,k=>k acc
 |o::r,acc,k=>lj (nT acc o) fun m=>mP r (acc++ [m]) k
theorem fM {α:Type}(k:List Nat→α): ∀(l:List Oper) (acc:List Nat),mP l acc k=k (aR l acc)
 | [],_=>rfl
 |o::r,acc=>by
  unfold mP aR;rw[eN,fM k r,qW]
def nU(ops:Array Oper)(ks:List Nat):Bool:=
 Region.noSelect ops&&decide (ks.length=ops.size)&&
 (List.range ops.size).all (fun i=>match ops[i]? with|some o=>o.after.toList.all fun e=> !Region.binds .any e||decide (e.on<i)|none=>true)&&
 mP ops.toList [] fun ms=>(List.range ops.size).all fun i=>lj (ms.getD i 0) fun m=>(List.range i).all fun x=>m.testBit x||ls ops (fun j=>ks.getD j 2) x i
theorem qX(ops:Array Oper)(ks:List Nat):nU ops ks=lw ops ks:=by
 unfold nU lw;rw[fM];simp only[eN];rfl
section
variable {P:Program}
theorem ao {id:Nat} {Q:Exit→Act→World→Prop} {a:Act} {w:World} {l:List Oper}(ks:List Nat)(hm:P.follows .mixedOrders=true)(hok:nU l.toArray ks=true)
  (h: ∀(ops':Array Oper) (K:Act→World→Prop),(∀a w,Q .normal a w→K a w)→wpZ P ops' K ks l a w.drew):(Code.region id l.toArray true).wp P Q a w:=
 az ks hm (by rw[←qX];exact hok) h
end
section
variable {P:Program}
end
end Go.Proofs.YtlpkfdkhlffmlaaGreatDoor
