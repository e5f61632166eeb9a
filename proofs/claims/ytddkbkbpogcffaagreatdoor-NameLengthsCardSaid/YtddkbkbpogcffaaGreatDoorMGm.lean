/-octet:room,Padded,Marked-/
import Derived.Test.YtddkbkbpogcffaaGreatDoorMGb
namespace Go.Proofs.YtddkbkbpogcffaaGreatDoor
open Go.Proofs.Tryz
open Lib (hid)
set_option linter.unusedSimpArgs false
set_option linter.unusedVariables false
set_option maxRecDepth 100000
set_option maxHeartbeats 1600000
open Go.RowKit
theorem Rd8.away {w w':World} {a:Option Addr} {n c p:Nat} {l:Y8}(h:Rd8 w a n c l)(hg:w.grownBy w' (some p))(ha: ∀ad,a=some ad→ad.block≠p):Rd8 w' a n c l:=
 ⟨h.1,h.2.1,h.2.2.1,fun hn=>by
  obtain⟨b,o,rfl,hb,hc⟩:=h.2.2.2 hn;have hne:b≠p:=ha _ rfl;have hs:=hg.size;refine⟨b,o,rfl,by omega,fun i hi=> ?_⟩;rw[bW,show aF w' b=aF w b by unfold aF;rw[hg.block b hb (by intro e;cases e;exact hne rfl)],←bW];exact hc i hi⟩
def bV(n m:Nat):Nat:=(m-n %m) %m
theorem EL(n m:Nat)(w:World)(h0:0<m)(h1:m≤65536)(_:n≤maxLen):
  Calls prog 188 #[.int .i64 n,.int .i64 m] w fun e w' =>e= .returned (.int .i64 (bV n m))∧w=w':=by
 obtain⟨R,hR⟩: ∃R,R=n %m:=⟨_,rfl⟩;have hr:R<m:=by rw[hR];exact Nat.mod_lt _ h0
 have f1:(n:Int).tmod (m:Int)=(R:Int):=by rw[hR];rfl
 have f2:IntKind.i64.wrap (R:Int)=(R:Int):=by rw[IntKind.wrap_i64];omega
 obtain⟨S,hS⟩: ∃S,S=m-R:=⟨_,rfl⟩;have f3:(m:Int)-(R:Int)=(S:Int):=by omega
 have f4:IntKind.i64.wrap (S:Int)=(S:Int):=by rw[IntKind.wrap_i64];omega
 obtain⟨Q,hQ⟩: ∃Q,Q=S %m:=⟨_,rfl⟩;have hq:Q<m:=by rw[hQ];exact Nat.mod_lt _ h0
 have f5:(S:Int).tmod (m:Int)=(Q:Int):=by rw[hQ];rfl
 have f6:IntKind.i64.wrap (Q:Int)=(Q:Int):=by rw[IntKind.wrap_i64];omega
 have m1: ¬(m:Int)<1:=by omega
 have m0: ¬(m:Int)=0:=by omega
 have hfin:bV n m=Q:=by rw[bV,←hR,←hS,hQ]
 rw[hfin];clear hR hS hQ hfin;go_enter func188,ntmps188;go_wp2;go_ret;exact⟨rfl,rfl⟩
theorem nR(l:Y8)(N:Nat)(_:l.length≤N):splc (ac 8 N) 0 l=l++ac 8 (N-l.length):=by
 simp[splc,ac]
theorem ie(l:Y8)(a:Option Addr)(n c m:Nat)(w:World)(hr:Rd8 w a n c l)(h0:0<m)(h1:m≤65536)(hsz:n≤70368744177664):
  Calls prog 173 #[.slice a n c,.int .i64 m] w fun e w' => ∃v,e= .returned v∧Own8 w' w.heap.size 5 v (l++ac 8 (bV n m))∧Below w.heap.size w w':=by
 have hl:=hr.1;have hb1:=hr.2.2.1;obtain⟨R,hR⟩: ∃R,R=bV n m:=⟨_,rfl⟩;have hRm:R<m:=by rw[hR];exact Nat.mod_lt _ h0
 obtain⟨N,hN⟩: ∃N,N=n+R:=⟨_,rfl⟩;have f1:(n:Int)+(R:Int)=(N:Int):=by omega
 have f2:IntKind.i64.wrap (N:Int)=(N:Int):=by rw[IntKind.wrap_i64];omega
 have hmk:=cE (P:=prog) w 22 5 (N:Int) (N:Int) underlying22 bM (by omega) (by omega) (by omega);rw[Int.toNat_natCast]at hmk;obtain⟨W,hW⟩: ∃W,w.alloc (.cells (A8 (ac 8 N)) 5)=W:=⟨_,rfl⟩;rw[hW]at hmk;obtain⟨b0,hb,hz⟩:=new1 _ _ _ _ hW;have rW:=hr.below hb;have hcp:=fun ty=>ja (P:=prog) W 22 22 ty 5 w.heap.size 0 N N a n c (ac 8 N) l underlying22 (by kernel_rfl) b0.whole b0.row rW (by rw[ah];omega);rw[show min n N=n by omega,List.take_of_length_le (by omega),nR _ _ (by omega),hl,show N-n=R by omega]at hcp;have hlen:(l++ac 8 R).length=N:=by rw[List.length_append,ah];omega
 have own:=Own8.blk (B:=w.heap.size) (b0.put (A8 (l++ac 8 R))) N (Nat.le_refl _) (by omega) (by unfold maxLen;omega);rw[List.take_of_length_le (by omega),hlen]at own;have O:=hid own;have B:=hid (below_setRow hb (Nat.le_refl _) (A8 (l++ac 8 R)));rw[←hR];have hroom:=EL n m w h0 h1 (by unfold maxLen;omega);rw[←hR]at hroom;clear hR hN hW b0 hb hz rW own hlen hl hb1 hr;go_enter func173,ntmps173;go_wp2_with fail;refine hroom.mono ?_;rintro e w1 ⟨rfl,rfl⟩;go_wp2;go_ret;exact⟨_,rfl,O.out,B.out⟩
open Go.RowKit
theorem EM(l:Y8)(x:BitVec 8):(l++ac 8 1).set l.length x=l++ [x]:=by
 simp[ac]
theorem mb(l:Y8)(a:Option Addr)(n c m:Nat)(x:BitVec 8)(w:World)(hr:Rd8 w a n c l)(h0:0<m)(h1:m≤65536)(hsz:n<70368744177664):
  Calls prog 288 #[.slice a n c,v8 x,.int .i64 m] w fun e w' => ∃v,e= .returned v∧Own8 w' w.heap.size 5 v (l++ [x]++ac 8 (bV (n+1) m))∧Below w.heap.size w w':=by
 have hl:=hr.1;obtain⟨N,hN⟩: ∃N,N=n+1:=⟨_,rfl⟩;have f1:(n:Int)+1=(N:Int):=by omega
 have f2:IntKind.i64.wrap (N:Int)=(N:Int):=by rw[IntKind.wrap_i64];omega
 have hmk:=cE (P:=prog) w 22 5 (N:Int) (N:Int) underlying22 bM (by omega) (by omega) (by omega);rw[Int.toNat_natCast]at hmk;obtain⟨W,hW⟩: ∃W,w.alloc (.cells (A8 (ac 8 N)) 5)=W:=⟨_,rfl⟩;rw[hW]at hmk;obtain⟨b0,hb,hz⟩:=new1 _ _ _ _ hW;have rW:=hr.below hb;have hcp:=fun ty=>ja (P:=prog) W 22 22 ty 5 w.heap.size 0 N N a n c (ac 8 N) l underlying22 (by kernel_rfl) b0.whole b0.row rW (by rw[ah];omega);rw[show min n N=n by omega,List.take_of_length_le (by omega),nR _ _ (by omega),hl,show N-n=1 by omega]at hcp;have b1:=b0.put (A8 (l++ac 8 1));have hB:=below_setRow hb (Nat.le_refl _) (A8 (l++ac 8 1));obtain⟨V,hV⟩: ∃V,W.setRow w.heap.size (A8 (l++ac 8 1))=V:=⟨_,rfl⟩;rw[hV]at hcp b1 hB;have k:=b1.set_ n (v8 x);have hs:=EM l x;rw[hl]at hs;rw[eL,hs]at k;have co:V.cell? ⟨w.heap.size,n,none⟩=some (v8 (nth (l++ac 8 1) n)):=by rw[b1.cell,kt _ _ (by rw[List.length_append,ah];omega)]
 have fo:=b1.frozen n;have i0:(0:Int)≤(n:Int):=by omega
 have i1:(n:Int)<(N:Int):=by omega
 have hlen:(l++ [x]).length=N:=by rw[List.length_append];simp;omega
 have rd:=k.rd8 N (by omega) (by unfold maxLen;omega);rw[hlen,List.take_of_length_le (by omega)]at rd;have hB2:=hid (hB.setCell (p:=⟨w.heap.size,n,none⟩) (Nat.le_refl _) (v8 x));have RD:=hid rd;have HN:=hid hN;have N1:N≤70368744177664:=by omega
 clear hN hW b0 hb hz rW hl hr hlen k hs b1 hB hV rd;go_enter func288,ntmps288;go_wp2_with fail;refine(ie (l++ [x]) _ N N m _ RD.out h0 h1 N1).mono ?_;rintro e w1 ⟨v,rfl,ho,d1⟩;have O:=hid ho;have D1:=hid (hB2.out.trans (d1.mono hB2.out.size));clear ho d1;go_wp2;go_ret;refine⟨v,rfl,?_,D1.out⟩;rw[←HN.out];exact Own8.base O.out hB2.out.size
open Go.RowKit
def gy(J:Nat→Act→World→Prop)(Q:Exit→Act→World→Prop):Exit→Act→World→Prop
 | .goto l,a,w=>J l a w
 |e,a,w=>Q e a w
section
variable {P:Program} {a:Act} {w:World} {Q:Exit→Act→World→Prop}
@[go_sem] theorem LA {J:Nat→Act→World→Prop}:gy J Q .ret a w=Q .ret a w:=rfl
theorem ka {c:Code}(J:Nat→Act→World→Prop)(μ:Nat→Act→World→Nat)(rest:Nat→Code)(ok: ∀l a w,J l a w→findLabel c l=some (Code.skip.seq (rest l)))
  (first:(∀l a w,J l a w→(rest l).wp P (gy J Q) a w)→c.wp P (gy J Q) a w)
  (pass: ∀l a w,J l a w→(rest l).wp P (gy (fun l' a' w' =>J l' a' w'∧μ l' a' w'<μ l a w) Q) a w):(Code.scope c).wp P Q a w:=by
 have first':=first fun l a w hJ=>Code.wp_mono (fun e a' w' h=>by cases e<;>first|exact h|exact h.1) (pass l a w hJ)
 have pass': ∀l a w,J l a w→(Code.skip.seq (rest l)).wp P (gy (fun l' a' w' =>J l' a' w'∧μ l' a' w'<μ l a w) Q) a w:=fun l a w hJ=>wp_seq (wp_skip (pass l a w hJ));intro b k cs;have hg: ∀l a w,J l a w→gotoIn l (.inScope c::k)=some (.code (Code.skip.seq (rest l)):: .inScope c::k):=fun l a w h=>by simp[gotoIn,ok l a w h]
 have key: ∀n l a w,μ l a w=n→J l a w→ ∃e a' w',Q e a' w'∧Arrives P (lone (b.at a (.code (Code.skip.seq (rest l)):: .inScope c::k)) cs w) b k cs e a' w':=by
  intro n
  induction n using Nat.strongRecOn with
  |_ n ih=>
   intro l a w hn hJ;obtain⟨e,a₁,w₁,hq,harr⟩:=pass' l a w hJ b (.inScope c::k) cs;cases e with
   |normal=>exact⟨.normal,a₁,w₁,hq,Steps.trans harr (.one step_inScope)⟩
   |exit id=>exact⟨.exit id,a₁,w₁,hq,fun k' hk=>harr k' (by simp[exitTo,hk])⟩
   |goto l' =>
    obtain⟨hJ',hlt⟩:=hq;obtain⟨e₂,a₂,w₂,hq₂,harr₂⟩:=ih _ (by omega) l' a₁ w₁ rfl hJ';exact⟨e₂,a₂,w₂,hq₂,.of_steps (harr _ (hg _ _ _ hJ')) harr₂⟩
   |ret=>exact⟨_,a₁,w₁,hq,harr⟩
   |panic ch=>exact⟨_,a₁,w₁,hq,harr⟩
   |outgrown=>exact⟨_,a₁,w₁,hq,harr⟩
 obtain⟨e,a₁,w₁,hq,harr⟩:=first' b (.inScope c::k) cs
 cases e with
 |normal=>exact⟨.normal,a₁,w₁,hq,.head step_scope (Steps.trans harr (.one step_inScope))⟩
 |exit id=>exact⟨.exit id,a₁,w₁,hq,fun k' hk=> .head step_scope (harr k' (by simp[exitTo,hk]))⟩
 |goto l' =>
  obtain⟨e₂,a₂,w₂,hq₂,harr₂⟩:=key _ l' a₁ w₁ rfl hq;exact⟨e₂,a₂,w₂,hq₂,.of_steps (.head step_scope (harr _ (hg _ _ _ hq))) harr₂⟩
 |ret=>exact⟨_,a₁,w₁,hq,.of_steps (.one step_scope) harr⟩
 |panic ch=>exact⟨_,a₁,w₁,hq,.of_steps (.one step_scope) harr⟩
 |outgrown=>exact⟨_,a₁,w₁,hq,.of_steps (.one step_scope) harr⟩
def J3(J0 J1 J2:Act→World→Prop):Nat→Act→World→Prop
 |0=>J0
 |1=>J1
 |2=>J2
 |_=>fun _ _=>False
def R3(r0 r1 r2:Code):Nat→Code
 |0=>r0
 |1=>r1
 |_=>r2
theorem Cu {c r0 r1 r2:Code}(J0 J1 J2:Act→World→Prop)(μ:Nat→Act→World→Nat)(h0:findLabel c 0=some (Code.skip.seq r0))(h1:findLabel c 1=some (Code.skip.seq r1))(h2:findLabel c 2=some (Code.skip.seq r2))
  (first:(∀a w,J0 a w→r0.wp P (gy (J3 J0 J1 J2) Q) a w)→c.wp P (gy (J3 J0 J1 J2) Q) a w)
  (p0: ∀a w,J0 a w→r0.wp P (gy (fun l' a' w' =>J3 J0 J1 J2 l' a' w'∧μ l' a' w'<μ 0 a w) Q) a w)
  (p1: ∀a w,J1 a w→r1.wp P (gy (fun l' a' w' =>J3 J0 J1 J2 l' a' w'∧μ l' a' w'<μ 1 a w) Q) a w)
  (p2: ∀a w,J2 a w→r2.wp P (gy (fun l' a' w' =>J3 J0 J1 J2 l' a' w'∧μ l' a' w'<μ 2 a w) Q) a w):(Code.scope c).wp P Q a w:=by
 refine ka (J3 J0 J1 J2) μ (R3 r0 r1 r2) ?_ (fun h=>first fun a w hJ=>h 0 a w hJ) ?_
 ·intro l a w h
  match l with
  |0=>exact h0
  |1=>exact h1
  |2=>exact h2
  |n+3=>exact h.elim
 ·intro l a w h
  match l with
  |0=>exact p0 a w h
  |1=>exact p1 a w h
  |2=>exact p2 a w h
  |n+3=>exact h.elim
end
end Go.Proofs.YtddkbkbpogcffaaGreatDoor
