/-octet:room,Padded,Marked-/
import Derived.Test.YtlpkfdkhlffmlaaGreatDoorMGb
namespace Go.Proofs.YtlpkfdkhlffmlaaGreatDoor
open Go.Proofs.Tryz
open Lib (hid)
set_option linter.unusedSimpArgs false
set_option linter.unusedVariables false
set_option maxRecDepth 100000
set_option maxHeartbeats 1600000
open Go.RowKit
theorem Rd8.away {w w':World} {a:Option Addr} {n c p:Nat} {l:Y8}(h:Rd8 w a n c l)(hg:w.grownBy w' (some p))(ha: ∀ad,a=some ad→ad.block≠p):Rd8 w' a n c l:=
 ⟨h.1,h.2.1,h.2.2.1,fun hn=>by
  obtain⟨b,o,rfl,hb,hc⟩:=h.2.2.2 hn;have hne:b≠p:=ha _ rfl;have hs:=hg.size;refine⟨b,o,rfl,by omega,fun i hi=> ?_⟩;rw[aO,show ar w' b=ar w b by unfold ar;rw[hg.block b hb (by intro e;cases e;exact hne rfl)],←aO];exact hc i hi⟩
def jR(n m:Nat):Nat:=(m-n %m) %m
theorem vV(n m:Nat)(w:World)(h0:0<m)(h1:m≤65536)(_:n≤maxLen):
  Calls prog 152 #[.int .i64 n,.int .i64 m] w fun e w' =>e= .returned (.int .i64 (jR n m))∧w=w':=by
 obtain⟨R,hR⟩: ∃R,R=n %m:=⟨_,rfl⟩;have hr:R<m:=by rw[hR];exact Nat.mod_lt _ h0
 have f1:(n:Int).tmod (m:Int)=(R:Int):=by rw[hR];rfl
 have f2:IntKind.i64.wrap (R:Int)=(R:Int):=by rw[IntKind.wrap_i64];omega
 obtain⟨S,hS⟩: ∃S,S=m-R:=⟨_,rfl⟩;have f3:(m:Int)-(R:Int)=(S:Int):=by omega
 have f4:IntKind.i64.wrap (S:Int)=(S:Int):=by rw[IntKind.wrap_i64];omega
 obtain⟨Q,hQ⟩: ∃Q,Q=S %m:=⟨_,rfl⟩;have hq:Q<m:=by rw[hQ];exact Nat.mod_lt _ h0
 have f5:(S:Int).tmod (m:Int)=(Q:Int):=by rw[hQ];rfl
 have f6:IntKind.i64.wrap (Q:Int)=(Q:Int):=by rw[IntKind.wrap_i64];omega
 have m1: ¬(m:Int)<1:=by omega
 have m0: ¬(m:Int)=0:=by omega
 have hfin:jR n m=Q:=by rw[jR,←hR,←hS,hQ]
 rw[hfin];clear hR hS hQ hfin;go_enter func152,ntmps152;go_wp2;go_ret;exact⟨rfl,rfl⟩
theorem mN(l:Y8)(N:Nat)(_:l.length≤N):splc (aa 8 N) 0 l=l++aa 8 (N-l.length):=by
 simp[splc,aa]
theorem qU(l:Y8)(a:Option Addr)(n c m:Nat)(w:World)(hr:Rd8 w a n c l)(h0:0<m)(h1:m≤65536)(hsz:n≤70368744177664):
  Calls prog 139 #[.slice a n c,.int .i64 m] w fun e w' => ∃v,e= .returned v∧Own8 w' w.heap.size 5 v (l++aa 8 (jR n m))∧Below w.heap.size w w':=by
 have hl:=hr.1;have hb1:=hr.2.2.1;obtain⟨R,hR⟩: ∃R,R=jR n m:=⟨_,rfl⟩;have hRm:R<m:=by rw[hR];exact Nat.mod_lt _ h0
 obtain⟨N,hN⟩: ∃N,N=n+R:=⟨_,rfl⟩;have f1:(n:Int)+(R:Int)=(N:Int):=by omega
 have f2:IntKind.i64.wrap (N:Int)=(N:Int):=by rw[IntKind.wrap_i64];omega
 have hmk:=bZ (P:=prog) w 22 5 (N:Int) (N:Int) underlying22 bQ (by omega) (by omega) (by omega);rw[Int.toNat_natCast]at hmk;obtain⟨W,hW⟩: ∃W,w.alloc (.cells (A8 (aa 8 N)) 5)=W:=⟨_,rfl⟩;rw[hW]at hmk;obtain⟨b0,hb,hz⟩:=new1 _ _ _ _ hW;have rW:=hr.below hb;have hcp:=fun ty=>jn (P:=prog) W 22 22 ty 5 w.heap.size 0 N N a n c (aa 8 N) l underlying22 (by kernel_rfl) b0.whole b0.row rW (by rw[af];omega);rw[show min n N=n by omega,List.take_of_length_le (by omega),mN _ _ (by omega),hl,show N-n=R by omega]at hcp;have hlen:(l++aa 8 R).length=N:=by rw[List.length_append,af];omega
 have own:=Own8.blk (B:=w.heap.size) (b0.put (A8 (l++aa 8 R))) N (Nat.le_refl _) (by omega) (by unfold maxLen;omega);rw[List.take_of_length_le (by omega),hlen]at own;have O:=hid own;have B:=hid (below_setRow hb (Nat.le_refl _) (A8 (l++aa 8 R)));rw[←hR];have hroom:=vV n m w h0 h1 (by unfold maxLen;omega);rw[←hR]at hroom;clear hR hN hW b0 hb hz rW own hlen hl hb1 hr;go_enter func139,ntmps139;go_wp2_with fail;refine hroom.mono ?_;rintro e w1 ⟨rfl,rfl⟩;go_wp2;go_ret;exact⟨_,rfl,O.out,B.out⟩
open Go.RowKit
open Go.RowKit
def Bj(J:Nat→Act→World→Prop)(Q:Exit→Act→World→Prop):Exit→Act→World→Prop
 | .goto l,a,w=>J l a w
 |e,a,w=>Q e a w
section
variable {P:Program} {a:Act} {w:World} {Q:Exit→Act→World→Prop}
@[go_sem] theorem AF {J:Nat→Act→World→Prop}:Bj J Q .ret a w=Q .ret a w:=rfl
def J3(J0 J1 J2:Act→World→Prop):Nat→Act→World→Prop
 |0=>J0
 |1=>J1
 |2=>J2
 |_=>fun _ _=>False
def R3(r0 r1 r2:Code):Nat→Code
 |0=>r0
 |1=>r1
 |_=>r2
end
end Go.Proofs.YtlpkfdkhlffmlaaGreatDoor
