/-strings that come in,as lists of bit vectors-/
import Derived.Test.YtddkbkbpogcffaaGreatDoorMGs
import Derived.ChangeMaps5
import Derived.Test.YtddkbkbpogcffaaGreatDoorMNa
import Derived.Test.YtddkbkbpogcffaaGreatDoorMNc
import Derived.Test.YtddkbkbpogcffaaGreatDoorMNb
import Derived.Test.YtddkbkbpogcffaaGreatDoorMHm
import Derived.Test.YtddkbkbpogcffaaGreatDoorMHj
import Derived.Test.YtddkbkbpogcffaaGreatDoorMGy
import Derived.Test.YtddkbkbpogcffaaGreatDoorMGh
import Derived.Test.YtddkbkbpogcffaaGreatDoorMKh
import Derived.Test.YtddkbkbpogcffaaGreatDoorMSix3
import Derived.Test.YtddkbkbpogcffaaGreatDoorMKk
namespace Go.Proofs.YtddkbkbpogcffaaGreatDoor
open Go.Proofs.Tryz
open Lib (hid)
set_option linter.unusedSimpArgs false
set_option linter.unusedVariables false
set_option maxRecDepth 100000
set_option maxHeartbeats 1600000
open Go.ChangeShapes Go.WideShapes Go.ChangeAt Go.RowKit
theorem KA(s:ByteArray): ∃l:Y8,s=str l∧l.length=s.size:=by
 refine⟨s.data.toList.map (·.toBitVec),?_,by simp⟩;unfold str;rw[List.map_map];have e:(UInt8.ofBitVec∘fun x:UInt8=>x.toBitVec)=id:=by funext x;rfl
 rw[e,List.map_id]
theorem Ok {H:Type} {enc:TypeId×Value→H} {P:Program} {w:World} {base:Nat} {spare:Nat→Bool} {held:Bool} {r:Reach} {b0:Nat} {t:TypeId} {v:Value} {d:DataW H} {p:List MemPlace}(ht:P.underlying t=some .string)
  (hv:Value.okWide P w r b0 t v) (h:DataW.Trod enc P w base spare held t v d p): ∃l:Y8,v= .string (str l)∧l.length≤maxLen:=by
 obtain⟨s,rfl,_,_,hs⟩:=Go.ChangeMaps.open_string ht hv h;obtain⟨l,rfl,hl⟩:=KA s;exact⟨l,rfl,by omega⟩
open Go.ChangeShapes Go.WideShapes Go.ChangeAt Go.RowKit
def NxC(alg:Int)(a:Option Addr)(n c:Nat)(pad:Int)(f:BitVec 64)(s:Y8):Array Value:= #[.int .i64 alg,.slice a n c,.int .i64 pad,v64 f,.string (str s)]
@[go_sem] theorem Dw:prog.cellsOf 25=5:=by kernel_rfl
section
variable {H:Type} {enc:TypeId×Value→H} {w:World} {base:Nat} {spare:Nat→Bool} {held:Bool}
theorem Ar {r:Reach} {b0:Nat} {v:Value} {d:DataW H} {p:List MemPlace}
  (hv:Value.okWide prog w r b0 25 v) (h:DataW.Trod enc prog w base spare held 25 v d p):
  ∃(alg:Int) (a:Option Addr) (n c:Nat) (key:Y8) (pad:Int) (f:BitVec 64) (s:Y8),Rd8 w a n c key∧s.length≤maxLen∧v= .agg (NxC alg a n c pad f s):=by
 unfold Value.okWide at hv;rw[underlying25]at hv;obtain⟨T,rfl,hs,_⟩:=hv;rw[Dw]at hs;obtain⟨fuel,hf⟩:=h;obtain⟨xs,m,rfl,_,hl,hxl,hi⟩:=DataW.trod_struct underlying25 hf;have get: ∀i,i<5→ ∃y,xs[i]? =some y:=fun i hi3=>⟨xs[i]'(by rw[hxl];simpa using hi3),List.getElem?_eq_getElem _⟩;obtain⟨y0,e0⟩:=get 0 (by omega);obtain⟨y1,e1⟩:=get 1 (by omega);obtain⟨y2,e2⟩:=get 2 (by omega);obtain⟨y3,e3⟩:=get 3 (by omega);obtain⟨y4,e4⟩:=get 4 (by omega);have h0:DataW.trod enc prog w base spare held m 3 ((T.toList.drop 0).take (prog.cellsOf 3))=some y0:=(hi 0 _ rfl).trans e0;have h1:DataW.trod enc prog w base spare held m 22 ((T.toList.drop 1).take (prog.cellsOf 22))=some y1:=(hi 1 _ rfl).trans e1;have h2:DataW.trod enc prog w base spare held m 3 ((T.toList.drop 2).take (prog.cellsOf 3))=some y2:=(hi 2 _ rfl).trans e2;have h3:DataW.trod enc prog w base spare held m 23 ((T.toList.drop 3).take (prog.cellsOf 23))=some y3:=(hi 3 _ rfl).trans e3;have h4:DataW.trod enc prog w base spare held m 9 ((T.toList.drop 4).take (prog.cellsOf 9))=some y4:=(hi 4 _ rfl).trans e4;rw[show prog.cellsOf 3=1 by kernel_rfl]at h0 h2;rw[show prog.cellsOf 22=1 by kernel_rfl]at h1;rw[show prog.cellsOf 23=1 by kernel_rfl]at h3;rw[show prog.cellsOf 9=1 by kernel_rfl]at h4;obtain⟨alg,c0,_,_⟩:=DataW.trod_int underlying3 h0;obtain⟨pad,c2,_,_⟩:=DataW.trod_int underlying3 h2;obtain⟨f0,c3,_,hw3⟩:=DataW.trod_int underlying23 h3;obtain⟨f,hf3⟩:=Hd hw3
 obtain⟨s0,c4,_,hs4⟩:=DataW.trod_string underlying9 h4;obtain⟨s,rfl,hsl⟩:=KA s0;have hb: ∃a len cap,((T.toList.drop 1).take 1)=[Value.slice a len cap]:=by
  rcases DataW.trod_slice underlying22 h1 with⟨hc,_⟩|⟨a,len,cap,_,_,_,_,hc,_⟩
  ·exact⟨_,_,_,hc⟩
  ·exact⟨_,_,_,hc⟩
 obtain⟨a,n,c,c1⟩:=hb;obtain⟨key,hr⟩:=zi (enc:=enc) (P:=prog) (w:=w) (base:=base) (spare:=spare) (held:=held) (t:=22) (a:=a) (n:=n) (c:=c) (d:=y1.1) (p:=y1.2) underlying22 underlying5 (by kernel_rfl) ⟨m,by
  show DataW.trod enc prog w base spare held m 22 [Value.slice a n c]=_;rw[←c1];exact h1⟩
 refine⟨alg,a,n,c,key,pad,f,s,hr,by omega,?_⟩;have hT:T.toList=[.int .i64 alg,.slice a n c,.int .i64 pad,v64 f,.string (str s)]:=by
  match hL:T.toList,(by simpa using hs:T.toList.length=5)with
  | [x0,x1,x2,x3,x4],_=>
   rw[hL]at c0 c1 c2 c3 c4;simp only[List.drop_zero,List.drop_succ_cons,List.take_succ_cons,List.take_zero,List.cons.injEq,and_true]at c0 c1 c2 c3 c4;rw[c0,c1,c2,c3,c4,hf3]
 rw[NxC,show T=T.toList.toArray from rfl,hT]
end
open Go.RowKit
theorem wv(p:Int)(w:World):
  Calls prog 19 #[.int .i64 p] w fun e w' =>e= .returned (.bool (decide (bU p=0)))∧w=w':=by
 go_enter func19,ntmps19;by_cases h1:p=16
 ·subst h1;go_wp2;go_ret;exact⟨rfl,rfl⟩
 ·have k1:(p==16)=false:=by simpa using h1
  by_cases h2:p=32
  ·subst h2;go_wp2;go_ret;exact⟨rfl,rfl⟩
  ·have k2:(p==32)=false:=by simpa using h2
   by_cases h3:p=64
   ·subst h3;go_wp2;go_ret;exact⟨rfl,rfl⟩
   ·have k3:(p==64)=false:=by simpa using h3
    have e:decide (bU p=0)=false:=by rw[bU,if_neg (by omega)];rfl
    go_wp2;go_ret
    first|exact⟨rfl,rfl⟩|exact⟨by rw[e];rfl,rfl⟩
theorem sU(l:Y8)(w:World)(hl:l.length≤9223372036854775807):
  Calls prog 12 #[.string (str l)] w fun e w' =>e= .returned (.bool (decide (bT l)))∧w=w':=by
 have hsz:=ee l;obtain⟨n,hn⟩: ∃n,n=l.length:=⟨_,rfl⟩;rw[←hn]at hsz hl;have HN:=hid hn;go_enter func12,ntmps12;clear hn;go_wp2_with fail;go_loopw [3] (fun i wr=> ∃j:Nat,j≤n∧i= .int .i64 j∧(∀t,t<j→nth l t≠0#8)∧w=wr) (fun i _=>n-(intOf i).toNat)
 case atStart=>exact⟨0,by omega,rfl,fun t h=>by omega,rfl⟩
 case round=>
  obtain⟨j,hj,rfl,hz,rfl⟩:=hrel;have HZ:=hid hz;clear hz;by_cases hjn:j<n
  ·have j1:(j:Int)<(n:Int):=by omega
   have hjl:j<l.length:=by rw[←HN.out];exact hjn
   obtain⟨J,hJ⟩: ∃J,J=j+1:=⟨_,rfl⟩;have a1:(j:Int)+1=(J:Int):=by omega
   have a2:IntKind.i64.wrap (J:Int)=(J:Int):=by rw[IntKind.wrap_i64];omega
   have HJ:=hid hJ;have hix:=fun w1=>AQ l j hjl w1;obtain⟨x,hx⟩: ∃x,x=nth l j:=⟨_,rfl⟩;rw[←hx]at hix;have HX:=hid hx;clear hJ hx hjl;by_cases h0:x=0#8
   ·have e0:(x==0#8)=true:=by simpa using h0
    have er:decide (bT l)=false:=decide_eq_false fun h=>h.2.2 j (by rw[←HN.out];exact hjn) (by rw[←HX.out];exact h0);clear h0;go_wp2;go_ret
    first|exact⟨rfl,rfl⟩|exact⟨by rw[er];rfl,rfl⟩
   ·have e0:(x==0#8)=false:=by simpa using h0
    have h3: ∀t,t<j+1→nth l t≠0#8:=fun t ht=>by
     by_cases e:t=j
     ·rw[e,←HX.out];exact h0
     ·exact HZ.out t (by omega)
    have H3:=hid h3;clear h0 h3;go_wp2;exact⟨⟨j+1,by omega,by rw[HJ.out],H3.out,trivial⟩,by have:=HJ.out;simp only[intOf,Int.toNat_natCast];omega⟩
  ·have hall: ∀t,t<l.length→nth l t≠0#8:=fun t ht=>HZ.out t (by have:=HN.out;omega);have j1: ¬(j:Int)<(n:Int):=by omega
   by_cases h1:1≤n
   ·have e1:(1:Int)≤(n:Int):=by omega
    by_cases h2:n≤255
    ·have e2:(n:Int)≤255:=by omega
     have er:decide (bT l)=true:=decide_eq_true ⟨by rw[←HN.out];exact h1,by rw[←HN.out];exact h2,hall⟩;clear hall;go_wp2;go_ret
     first|exact⟨rfl,rfl⟩|exact⟨by rw[er];rfl,rfl⟩
    ·have e2: ¬(n:Int)≤255:=by omega
     have er:decide (bT l)=false:=decide_eq_false fun h=>h2 (by have:=h.2.1;rw[←HN.out]at this;exact this);clear hall;go_wp2;go_ret
     first|exact⟨rfl,rfl⟩|exact⟨by rw[er];rfl,rfl⟩
   ·have e1: ¬(1:Int)≤(n:Int):=by omega
    have er:decide (bT l)=false:=decide_eq_false fun h=>h1 (by have:=h.1;rw[←HN.out]at this;exact this);clear hall;go_wp2;go_ret
    first|exact⟨rfl,rfl⟩|exact⟨by rw[er];rfl,rfl⟩
open Go.RowKit
def dJ(alg:Int)(n:Nat):Int:=if alg<1∨3<alg then 8 else if(alg=1∧n≠32)∨(alg=2∧ ¬(n=16∨n=24∨n=32))∨(alg=3∧ ¬(1≤n∧n≤128))then 2 else 0
theorem sV(n:Nat)(w:World):Calls prog 41 #[.int .i64 n] w fun e w' =>e= .returned (.bool (decide (n=16∨n=24∨n=32)))∧w=w':=by
 by_cases h:n=16∨n=24∨n=32
 ·rcases h with rfl|rfl|rfl
  all_goals
   go_enter func41,ntmps41;go_wp2;go_ret;exact⟨rfl,rfl⟩
 ·rw[decide_eq_false h];have g1:((n:Int)==16)=false:=by simp;omega
  have g2:((n:Int)==24)=false:=by simp;omega
  have g3:((n:Int)==32)=false:=by simp;omega
  clear h;go_enter func41,ntmps41;go_wp2;go_ret;exact⟨rfl,rfl⟩
theorem sW(a:Option Addr)(n c:Nat)(w:World):Calls prog 42 #[.slice a n c] w fun e w' =>e= .returned (.bool (decide (1≤n∧n≤128)))∧w=w':=by
 by_cases h1:1≤n
 ·have e1:(0:Int)<(n:Int):=by omega
  by_cases h2:n≤128
  ·rw[decide_eq_true ⟨h1,h2⟩];have e2:(n:Int)≤128:=by omega
   go_enter func42,ntmps42;go_wp2;go_ret;exact⟨rfl,rfl⟩
  ·rw[decide_eq_false (fun h=>h2 h.2)];have e2: ¬(n:Int)≤128:=by omega
   go_enter func42,ntmps42;go_wp2;go_ret;exact⟨rfl,rfl⟩
 ·rw[decide_eq_false (fun h=>h1 h.1)];have e1: ¬(0:Int)<(n:Int):=by omega
  go_enter func42,ntmps42;go_wp2;go_ret;exact⟨rfl,rfl⟩
theorem ye(alg:Int)(a:Option Addr)(n c:Nat)(w:World):Calls prog 18 #[.int .i64 alg,.slice a n c] w fun e w' =>e= .returned (.int .i64 (dJ alg n))∧w=w':=by
 by_cases h1:alg<1
 ·rw[dJ,if_pos (.inl h1)];go_enter func18,ntmps18;go_wp2;go_ret;exact⟨rfl,rfl⟩
 by_cases h3:3<alg
 ·rw[dJ,if_pos (.inr h3)];go_enter func18,ntmps18;go_wp2;go_ret;exact⟨rfl,rfl⟩
 rcases(by omega:alg=1∨alg=2∨alg=3)with rfl|rfl|rfl
 ·clear h1 h3;by_cases hn:n=32
  ·subst hn;rw[show dJ 1 32=0 from by decide];go_enter func18,ntmps18;go_wp2;go_ret;exact⟨rfl,rfl⟩
  ·rw[dJ,if_neg (by omega),if_pos (.inl ⟨rfl,hn⟩)];have e1:((n:Int)==32)=false:=by simp;omega
   have e2:((n:Int) !=32)=true:=by simp;omega
   go_enter func18,ntmps18;go_wp2;go_ret;exact⟨rfl,rfl⟩
 ·clear h1 h3;have RR:=hid (sV n w);by_cases hn:n=16∨n=24∨n=32
  ·rw[decide_eq_true hn]at RR;rw[dJ,if_neg (by omega),if_neg (by
    rintro(h|h|h)
    ·exact absurd h.1 (by decide)
    ·exact h.2 hn
    ·exact absurd h.1 (by decide))]
   clear hn;go_enter func18,ntmps18;go_wp2_with fail;refine RR.out.mono ?_;rintro e w1 ⟨rfl,rfl⟩;go_wp2;go_ret;exact⟨rfl,rfl⟩
  ·rw[decide_eq_false hn]at RR;rw[dJ,if_neg (by omega),if_pos (.inr (.inl ⟨rfl,hn⟩))];clear hn;go_enter func18,ntmps18;go_wp2_with fail;refine RR.out.mono ?_;rintro e w1 ⟨rfl,rfl⟩;go_wp2;go_ret;exact⟨rfl,rfl⟩
 ·clear h1 h3;have RR:=hid (sW a n c w);by_cases hn:1≤n∧n≤128
  ·rw[decide_eq_true hn]at RR;rw[dJ,if_neg (by omega),if_neg (by
    rintro(h|h|h)
    ·exact absurd h.1 (by decide)
    ·exact absurd h.1 (by decide)
    ·exact h.2 hn)]
   clear hn;go_enter func18,ntmps18;go_wp2_with fail;refine RR.out.mono ?_;rintro e w1 ⟨rfl,rfl⟩;go_wp2;go_ret;exact⟨rfl,rfl⟩
  ·rw[decide_eq_false hn]at RR;rw[dJ,if_neg (by omega),if_pos (.inr (.inr ⟨rfl,hn⟩))];clear hn;go_enter func18,ntmps18;go_wp2_with fail;refine RR.out.mono ?_;rintro e w1 ⟨rfl,rfl⟩;go_wp2;go_ret;exact⟨rfl,rfl⟩
def iP(alg:Int)(n:Nat)(pad:Int)(s:Y8):Prop:=n≤200∧dJ alg n=0∧bU pad=0∧s.length≤400
instance (alg:Int) (n:Nat) (pad:Int) (s:Y8):Decidable (iP alg n pad s):=inferInstanceAs (Decidable (_∧_∧_∧_))
theorem yg(alg:Int)(a:Option Addr)(n c:Nat)(pad:Int)(f:BitVec 64)(s:Y8)(w:World):
  Calls prog 9 #[.agg (NxC alg a n c pad f s)] w fun e w' =>e= .returned (.bool (decide (iP alg n pad s)))∧Below w.heap.size w w':=by
 have hsz:=ee s;have WR:=hid (fun w1=>ye alg a n c w1);have PD:=hid (fun w1=>wv pad w1);obtain⟨T,hTT⟩: ∃T,T=NxC alg a n c pad f s:=⟨_,rfl⟩;rw[←hTT];have s0:T.size=5:=by rw[hTT];rfl
 obtain⟨W,hW⟩: ∃W,w.alloc (.cells T 25)=W:=⟨_,rfl⟩;obtain⟨b0,hb,hz⟩:=new1 _ _ _ _ hW;have t0:W.cell? ⟨w.heap.size,0,none⟩=some (.int .i64 alg):=by rw[b0.cell,hTT];rfl
 have t1:W.cell? ⟨w.heap.size,1,none⟩=some (.slice a n c):=by rw[b0.cell,hTT];rfl
 have t2:W.cell? ⟨w.heap.size,2,none⟩=some (.int .i64 pad):=by rw[b0.cell,hTT];rfl
 have t4:W.cell? ⟨w.heap.size,4,none⟩=some (.string (str s)):=by rw[b0.cell,hTT];rfl
 have B0:=hid hb;clear b0 hb hz hTT;go_enter func9,ntmps9;by_cases h1:n≤200;rotate_left
 ·have e1: ¬(n:Int)≤200:=by omega
  have er:decide (iP alg n pad s)=false:=decide_eq_false (fun h=>h1 h.1);go_wp2;go_ret
  first|exact⟨rfl,B0.out⟩|exact⟨by rw[er];rfl,B0.out⟩
 have e1:(n:Int)≤200:=by omega
 go_wp2_with fail;refine(WR.out _).mono ?_;rintro e w1 ⟨rfl,rfl⟩;by_cases h2:dJ alg n=0;rotate_left
 ·have er:decide (iP alg n pad s)=false:=decide_eq_false (fun h=>h2 h.2.1);obtain⟨E,hE⟩: ∃E,E=dJ alg n:=⟨_,rfl⟩;rw[←hE]at h2⊢;have k1:(E==0)=false:=by simpa using h2
  clear hE WR;go_wp2;go_ret
  first|exact⟨rfl,B0.out⟩|exact⟨by rw[er];rfl,B0.out⟩
 rw[h2];go_wp2_with fail;refine(PD.out _).mono ?_;rintro e w1 ⟨rfl,rfl⟩;by_cases h3:bU pad=0;rotate_left
 ·have er:decide (iP alg n pad s)=false:=decide_eq_false (fun h=>h3 h.2.2.1);rw[decide_eq_false h3];go_wp2;go_ret
  first|exact⟨rfl,B0.out⟩|exact⟨by rw[er];rfl,B0.out⟩
 rw[decide_eq_true h3];obtain⟨m,hm⟩: ∃m,m=s.length:=⟨_,rfl⟩;rw[←hm]at hsz;by_cases h4:m≤400
 ·have e4:(m:Int)≤400:=by omega
  have er:decide (iP alg n pad s)=true:=decide_eq_true ⟨h1,h2,h3,by omega⟩;clear hm h2 h3;go_wp2;go_ret
  first|exact⟨rfl,B0.out⟩|exact⟨by rw[er];rfl,B0.out⟩
 ·have e4:decide ((m:Int)≤400)=false:=by simp;omega
  have er:decide (iP alg n pad s)=false:=decide_eq_false (fun h=>h4 (by have:=h.2.2.2;omega));clear hm h2 h3;go_wp2;go_ret
  first|exact⟨rfl,B0.out⟩|exact⟨by rw[er];rfl,B0.out⟩
open Go.RowKit
def SchAt(w:World)(alg:Int)(x:Value)(E D:Y8→Y8→Y8):Prop:=
 (∃(q p:Nat) (key:Y8),alg=1∧x= .iface 124 (.pointer (some ⟨q,0,none⟩))∧key.length=32∧AcAt w q p key∧E=encA key∧D=decA key)∨
 (∃(p k pt m:Nat) (L h lb:Y8),alg=2∧x= .iface 127 (.pointer (some ⟨p,0,none⟩))∧3≤m∧m≤100∧CiAt w p k pt m L h lb∧E=ew (encS L m) L m h lb∧D=ew (decS L m) L m h lb)∨
 (∃(p pt:Nat) (I J L:Y8),alg=3∧x= .iface 134 (.agg #[.pointer (some ⟨p,0,none⟩)])∧EzAt w p pt I J L∧E=ezEn I J L∧D=ezDe I J L)
section
variable {w w':World} {alg:Int} {x:Value} {E D:Y8→Y8→Y8}
theorem SchAt.below(h:SchAt w alg x E D)(hb:Below w.heap.size w w'):SchAt w' alg x E D:=by
 rcases h with⟨q,p,key,h1,h2,h3,h4,h5,h6⟩|⟨p,k,pt,m,L,h',lb,h1,h2,h3,h4,h5,h6,h7⟩|⟨p,pt,I,J,L,h1,h2,h3,h4,h5⟩
 ·exact .inl ⟨q,p,key,h1,h2,h3,h4.belowW hb,h5,h6⟩
 ·exact .inr (.inl ⟨p,k,pt,m,L,h',lb,h1,h2,h3,h4,h5.below hb,h6,h7⟩)
 ·exact .inr (.inr ⟨p,pt,I,J,L,h1,h2,h3.below hb,h4,h5⟩)
theorem SchAt.alg_or(h:SchAt w alg x E D):alg=1∨alg=2∨alg=3:=by
 rcases h with⟨_,_,_,h,_⟩|⟨_,_,_,_,_,_,_,h,_⟩|⟨_,_,_,_,_,h,_⟩<;>simp[h]
theorem SchAt.ok(h:SchAt w alg x E D):CipOk E D:=by
 rcases h with⟨q,p,key,_,_,_,_,rfl,rfl⟩|⟨p,k,pt,m,L,h',lb,_,_,hm,_,hc,rfl,rfl⟩|⟨p,pt,I,J,L,_,_,_,rfl,rfl⟩
 ·exact⟨fun tw M h _=>kM key tw M h,fun tw M h _=>xx key tw M h,fun tw M h _=>Fp key tw M h,fun tw M h _=>Fq key tw M h⟩
 ·have e1: ∀x:Y8,x.length=16→(encS L m x).length=16:=fun x _=>dp _ _ _;have d1: ∀x:Y8,x.length=16→(decS L m x).length=16:=fun x _=>fU _ _ _;obtain⟨_,g,c,_,hr⟩:=hc.key;have hL:L.length=m*16:=by have:=hr.1;omega
  exact⟨fun tw M h _=>mQ _ _ _ _ _ _ _ h,fun tw M h _=>mQ _ _ _ _ _ _ _ h,
   fun tw M h _=>uj _ _ e1 (fun x hx=>oY L m x hx hL hm) _ _ _ _ _ _ h,fun tw M h _=>uj _ _ d1 (fun x hx=>oZ L m x hx hL hm) _ _ _ _ _ _ h⟩
 ·exact MQ I J L
end
def XC(alg:Int)(x:Value):Array Value:= #[.int .i64 alg,x]
def WxAt(w:World)(g:Nat)(E D:Y8→Y8→Y8):Prop:= ∃alg x,Blk w g 91 (XC alg x)∧SchAt w alg x E D
theorem WxAt.below {w w':World} {g:Nat} {E D:Y8→Y8→Y8}(h:WxAt w g E D)(hb:Below w.heap.size w w'):WxAt w' g E D:=by
 obtain⟨alg,x,h1,h2⟩:=h;exact⟨alg,x,h1.belowAll hb,h2.below hb⟩
theorem WxAt.ok {w:World} {g:Nat} {E D:Y8→Y8→Y8}(h:WxAt w g E D):CipOk E D:=by
 obtain⟨alg,x,_,h2⟩:=h;exact h2.ok
theorem sX(g:Nat)(alg:Int)(x:Value)(w:World)(hg:Blk w g 91 (XC alg x))(ha:alg=1∨alg=2∨alg=3):
  Calls prog 73 #[.pointer (some ⟨g,0,none⟩)] w fun e w' =>e= .returned (.int .i64 (if alg=3 then 1 else 16))∧w=w':=by
 have c0:w.cell? ⟨g,0,none⟩=some (.int .i64 alg):=by rw[hg.cell];rfl
 clear hg;rcases ha with rfl|rfl|rfl
 ·go_enter func73,ntmps73;go_wp2;go_ret;exact⟨rfl,rfl⟩
 ·go_enter func73,ntmps73;go_wp2;go_ret;exact⟨rfl,rfl⟩
 ·go_enter func73,ntmps73;go_wp2;go_ret;exact⟨rfl,rfl⟩
theorem ly(g:Nat)(E D:Y8→Y8→Y8)(T M:Y8)(a b:Option Addr)(n c len d:Nat)(w:World)(hA:WxAt w g E D)(ht:Rd8 w a n c T)(hn:n≤1000)(hM:Rd8 w b len d M)(h16:16≤len)(hlen:len≤520):
  Calls prog 53 #[.pointer (some ⟨g,0,none⟩),.slice a n c,.slice b len d,.bool false] w fun e w' => ∃v,e= .returned (.tuple #[v,.int .i64 0])∧Own8 w' w.heap.size 5 v (E T M)∧Below w.heap.size w w':=by
 obtain⟨alg,x,hg,hS⟩:=hA;have c0:w.cell? ⟨g,0,none⟩=some (.int .i64 alg):=by rw[hg.cell];rfl
 have c1:w.cell? ⟨g,1,none⟩=some x:=by rw[hg.cell];rfl
 have hle:=sX g alg x w hg hS.alg_or;have e1: ¬(len:Int)<16:=by omega
 have e2: ¬(len:Int)<1:=by omega
 rcases hS with⟨q,p,key,rfl,rfl,hkl,h4,rfl,rfl⟩|⟨p,k,pt,m,L,h',lb,rfl,rfl,hm,hm2,h5,rfl,rfl⟩|⟨p,pt,I,J,L,rfl,rfl,h3,rfl,rfl⟩
 ·rw[if_neg (by decide)]at hle;have hmeth:=xz q p key T M a b n c len d w h4 hkl ht hM h16 hlen;have LE:=hid hle;have AE:=hid hmeth;clear ht hM hg h4;clear hle hmeth;go_enter func53,ntmps53;go_wp2_with fail;refine LE.out.mono ?_;rintro e w1 ⟨rfl,rfl⟩;go_wp2_with fail;refine AE.out.mono ?_;rintro e w2 ⟨v2,rfl,o2,d2⟩;have O2:=hid o2;have D2:=hid d2;clear o2 d2;go_wp2;go_ret2;exact⟨_,rfl,O2.out,D2.out⟩
 ·rw[if_neg (by decide)]at hle;have hmeth:=Fb p k pt m L h' lb T M a b n c len d w h5 hm hm2 ht hM hn h16 hlen;have LE:=hid hle;have AE:=hid hmeth;clear ht hM hg h5;clear hle hmeth;go_enter func53,ntmps53;go_wp2_with fail;refine LE.out.mono ?_;rintro e w1 ⟨rfl,rfl⟩;go_wp2_with fail;refine AE.out.mono ?_;rintro e w2 ⟨v2,rfl,o2,d2⟩;have O2:=hid o2;have D2:=hid d2;clear o2 d2;go_wp2;go_ret2;exact⟨_,rfl,O2.out,D2.out⟩
 ·rw[if_pos rfl]at hle;have hmeth:=sQ p pt I J L T M a b n c len d w h3 ht hn hM h16 hlen;have LE:=hid hle;have AE:=hid hmeth;clear ht hM hg h3;clear hle hmeth;go_enter func53,ntmps53;go_wp2_with fail;refine LE.out.mono ?_;rintro e w1 ⟨rfl,rfl⟩;go_wp2_with fail;refine AE.out.mono ?_;rintro e w2 ⟨v2,rfl,o2,d2⟩;have O2:=hid o2;have D2:=hid d2;clear o2 d2;go_wp2;go_ret2;exact⟨_,rfl,O2.out,D2.out⟩
theorem oD(g:Nat)(E D:Y8→Y8→Y8)(T M:Y8)(a b:Option Addr)(n c len d:Nat)(w:World)(hA:WxAt w g E D)(ht:Rd8 w a n c T)(hn:n≤1000)(hM:Rd8 w b len d M)(h16:16≤len)(hlen:len≤520):
  Calls prog 26 #[.pointer (some ⟨g,0,none⟩),.slice a n c,.slice b len d] w fun e w' => ∃v,e= .returned (.tuple #[v,.int .i64 0])∧Own8 w' w.heap.size 5 v (E T M)∧Below w.heap.size w w':=by
 have TU:=hid (ly g E D T M a b n c len d w hA ht hn hM h16 hlen);clear hA ht hM;go_enter func26,ntmps26;go_wp2_with fail;refine TU.out.mono ?_;rintro e w2 ⟨v2,rfl,o2,d2⟩;have O2:=hid o2;have D2:=hid d2;clear o2 d2;go_wp2;go_ret2;exact⟨_,rfl,O2.out,D2.out⟩
theorem lA(g:Nat)(E D:Y8→Y8→Y8)(T M:Y8)(a b:Option Addr)(n c len d:Nat)(w:World)(hA:WxAt w g E D)(ht:Rd8 w a n c T)(hn:n≤1000)(hM:Rd8 w b len d M)(h16:16≤len)(hlen:len≤520):
  Calls prog 53 #[.pointer (some ⟨g,0,none⟩),.slice a n c,.slice b len d,.bool true] w fun e w' => ∃v,e= .returned (.tuple #[v,.int .i64 0])∧Own8 w' w.heap.size 5 v (D T M)∧Below w.heap.size w w':=by
 obtain⟨alg,x,hg,hS⟩:=hA;have c0:w.cell? ⟨g,0,none⟩=some (.int .i64 alg):=by rw[hg.cell];rfl
 have c1:w.cell? ⟨g,1,none⟩=some x:=by rw[hg.cell];rfl
 have hle:=sX g alg x w hg hS.alg_or;have e1: ¬(len:Int)<16:=by omega
 have e2: ¬(len:Int)<1:=by omega
 rcases hS with⟨q,p,key,rfl,rfl,hkl,h4,rfl,rfl⟩|⟨p,k,pt,m,L,h',lb,rfl,rfl,hm,hm2,h5,rfl,rfl⟩|⟨p,pt,I,J,L,rfl,rfl,h3,rfl,rfl⟩
 ·rw[if_neg (by decide)]at hle;have hmeth:=Fr q p key T M a b n c len d w h4 hkl ht hM h16 hlen;have LE:=hid hle;have AE:=hid hmeth;clear ht hM hg h4;clear hle hmeth;go_enter func53,ntmps53;go_wp2_with fail;refine LE.out.mono ?_;rintro e w1 ⟨rfl,rfl⟩;go_wp2_with fail;refine AE.out.mono ?_;rintro e w2 ⟨v2,rfl,o2,d2⟩;have O2:=hid o2;have D2:=hid d2;clear o2 d2;go_wp2;go_ret2;exact⟨_,rfl,O2.out,D2.out⟩
 ·rw[if_neg (by decide)]at hle;have hmeth:=Fc p k pt m L h' lb T M a b n c len d w h5 hm hm2 ht hM hn h16 hlen;have LE:=hid hle;have AE:=hid hmeth;clear ht hM hg h5;clear hle hmeth;go_enter func53,ntmps53;go_wp2_with fail;refine LE.out.mono ?_;rintro e w1 ⟨rfl,rfl⟩;go_wp2_with fail;refine AE.out.mono ?_;rintro e w2 ⟨v2,rfl,o2,d2⟩;have O2:=hid o2;have D2:=hid d2;clear o2 d2;go_wp2;go_ret2;exact⟨_,rfl,O2.out,D2.out⟩
 ·rw[if_pos rfl]at hle;have hmeth:=sS p pt I J L T M a b n c len d w h3 ht hn hM h16 hlen;have LE:=hid hle;have AE:=hid hmeth;clear ht hM hg h3;clear hle hmeth;go_enter func53,ntmps53;go_wp2_with fail;refine LE.out.mono ?_;rintro e w1 ⟨rfl,rfl⟩;go_wp2_with fail;refine AE.out.mono ?_;rintro e w2 ⟨v2,rfl,o2,d2⟩;have O2:=hid o2;have D2:=hid d2;clear o2 d2;go_wp2;go_ret2;exact⟨_,rfl,O2.out,D2.out⟩
theorem oE(g:Nat)(E D:Y8→Y8→Y8)(T M:Y8)(a b:Option Addr)(n c len d:Nat)(w:World)(hA:WxAt w g E D)(ht:Rd8 w a n c T)(hn:n≤1000)(hM:Rd8 w b len d M)(h16:16≤len)(hlen:len≤520):
  Calls prog 37 #[.pointer (some ⟨g,0,none⟩),.slice a n c,.slice b len d] w fun e w' => ∃v,e= .returned (.tuple #[v,.int .i64 0])∧Own8 w' w.heap.size 5 v (D T M)∧Below w.heap.size w w':=by
 have TU:=hid (lA g E D T M a b n c len d w hA ht hn hM h16 hlen);clear hA ht hM;go_enter func37,ntmps37;go_wp2_with fail;refine TU.out.mono ?_;rintro e w2 ⟨v2,rfl,o2,d2⟩;have O2:=hid o2;have D2:=hid d2;clear o2 d2;go_wp2;go_ret2;exact⟨_,rfl,O2.out,D2.out⟩
open Go.RowKit
def NsAt(w:World)(h:Nat)(pad:Int)(E D:Y8→Y8→Y8):Prop:= ∃g,Blk w h 69 (NC g pad)∧WxAt w g E D
section
variable {w w':World} {h:Nat} {pad:Int} {E D:Y8→Y8→Y8}
theorem NsAt.below(k:NsAt w h pad E D)(hb:Below w.heap.size w w'):NsAt w' h pad E D:=by
 obtain⟨g,h1,h2⟩:=k;exact⟨g,h1.belowAll hb,h2.below hb⟩
theorem NsAt.ok(k:NsAt w h pad E D):CipOk E D:=by
 obtain⟨g,h1,h2⟩:=k;exact h2.ok
end
theorem kO(g:Nat)(E D:Y8→Y8→Y8)(M:Y8)(x:BitVec 64)(b:Option Addr)(len d:Nat)(w:World)(hA:WxAt w g E D)(hM:Rd8 w b len d M)(h16:16≤len)(hlen:len≤520):
  Calls prog 25 #[.func (.func 26) #[.pointer (some ⟨g,0,none⟩)] #[],v64 x,.slice b len d] w fun e w' => ∃v,e= .returned (.tuple #[v,.int .i64 0])∧Own8 w' w.heap.size 5 v (E (le64 x) M)∧Below w.heap.size w w':=by
 have A0:=hid hA;have M0:=hid hM;clear hA hM;go_enter func25,ntmps25;go_wp2_with fail;refine(aM x w).mono ?_;rintro e w1 ⟨rfl,d1⟩;obtain⟨L,hL⟩: ∃L,L=le64 x:=⟨_,rfl⟩;have hLl:L.length=8:=by rw[hL];rfl
 rw[←hL];have HL:=hid hL;clear hL;have q1:=(Blk.new w1 107 (A8 (ac 8 8))).row;have q3:=(Blk.new w1 107 (A8 (ac 8 8))).whole;obtain⟨w2,hw2⟩: ∃z,w1.alloc (.cells (A8 L) 107)=z:=⟨_,rfl⟩;obtain⟨n2,d2,z2⟩:=new1 _ _ _ _ hw2;obtain⟨g1,hg1⟩: ∃z,w1.heap.size=z:=⟨_,rfl⟩;have d12:=d1.trans (d2.mono d1.size);have n4:=n2.rd8 8 (by omega) (by rw[hLl];unfold maxLen;omega);rw[List.take_of_length_le (by omega),hLl]at n4;rw[hg1]at n4;have A2:=hid (A0.out.below d12);have M2:=hid (M0.out.below d12);have L2:=hid n4;have D2:=hid d12;have HG:=hid hg1;clear d1 n2 d2 z2 d12 n4 A0 M0;go_wp2_with fail;have hwe:=oD g E D L M (some ⟨g1,0,none⟩) b 8 8 len d w2 A2.out L2.out (by omega) M2.out h16 hlen;have WE:=hid hwe;clear hwe q1 q3;refine WE.out.mono ?_;rintro e w3 ⟨v3,rfl,o3,d3⟩;rw[HL.out]at o3;have O3:=hid (o3.base D2.out.size);have D3:=hid (D2.out.trans (d3.mono D2.out.size));clear o3 d3;go_wp2;go_ret2;exact⟨_,rfl,O3.out,D3.out⟩
theorem kP(g:Nat)(E D:Y8→Y8→Y8)(M:Y8)(x:BitVec 64)(b:Option Addr)(len d:Nat)(w:World)(hA:WxAt w g E D)(hM:Rd8 w b len d M)(h16:16≤len)(hlen:len≤520):
  Calls prog 25 #[.func (.func 37) #[.pointer (some ⟨g,0,none⟩)] #[],v64 x,.slice b len d] w fun e w' => ∃v,e= .returned (.tuple #[v,.int .i64 0])∧Own8 w' w.heap.size 5 v (D (le64 x) M)∧Below w.heap.size w w':=by
 have A0:=hid hA;have M0:=hid hM;clear hA hM;go_enter func25,ntmps25;go_wp2_with fail;refine(aM x w).mono ?_;rintro e w1 ⟨rfl,d1⟩;obtain⟨L,hL⟩: ∃L,L=le64 x:=⟨_,rfl⟩;have hLl:L.length=8:=by rw[hL];rfl
 rw[←hL];have HL:=hid hL;clear hL;have q1:=(Blk.new w1 107 (A8 (ac 8 8))).row;have q3:=(Blk.new w1 107 (A8 (ac 8 8))).whole;obtain⟨w2,hw2⟩: ∃z,w1.alloc (.cells (A8 L) 107)=z:=⟨_,rfl⟩;obtain⟨n2,d2,z2⟩:=new1 _ _ _ _ hw2;obtain⟨g1,hg1⟩: ∃z,w1.heap.size=z:=⟨_,rfl⟩;have d12:=d1.trans (d2.mono d1.size);have n4:=n2.rd8 8 (by omega) (by rw[hLl];unfold maxLen;omega);rw[List.take_of_length_le (by omega),hLl]at n4;rw[hg1]at n4;have A2:=hid (A0.out.below d12);have M2:=hid (M0.out.below d12);have L2:=hid n4;have D2:=hid d12;have HG:=hid hg1;clear d1 n2 d2 z2 d12 n4 A0 M0;go_wp2_with fail;have hwe:=oE g E D L M (some ⟨g1,0,none⟩) b 8 8 len d w2 A2.out L2.out (by omega) M2.out h16 hlen;have WE:=hid hwe;clear hwe q1 q3;refine WE.out.mono ?_;rintro e w3 ⟨v3,rfl,o3,d3⟩;rw[HL.out]at o3;have O3:=hid (o3.base D2.out.size);have D3:=hid (D2.out.trans (d3.mono D2.out.size));clear o3 d3;go_wp2;go_ret2;exact⟨_,rfl,O3.out,D3.out⟩
theorem tP(h q:Nat)(E D:Y8→Y8→Y8)(l:Y8)(x:BitVec 64)(w:World)(hN:NsAt w h (q:Int) E D)(hq:cY q)(hl1:l.length≤1000000):
  Calls prog 11 #[.pointer (some ⟨h,0,none⟩),v64 x,.string (str l)] w fun e w' =>e= .returned (.tuple #[.string (str (js E x l q)),.int .i64 (da l)])∧Below w.heap.size w w':=by
 have hok:=hN.ok;obtain⟨g,hb,hw⟩:=hN;have c0:w.cell? ⟨h,0,none⟩=some (.pointer (some ⟨g,0,none⟩)):=by rw[hb.cell];rfl
 have c1:w.cell? ⟨h,1,none⟩=some (.int .i64 (q:Int)):=by rw[hb.cell];rfl
 have hpd:=iU l (q:Int) w hl1;have hE:padE l (q:Int)=da l:=by rw[padE,uN hq,if_neg (by simp)]
 rw[hE,Int.toNat_natCast]at hpd;by_cases hl:bT l;rotate_left
 ·have hR:da l=15:=by rw[da,if_neg hl]
  have hS:js E x l q=[]:=by rw[js,hR,if_neg (by decide)]
  rw[hR]at hpd⊢;rw[hS];have PD:=hid hpd;clear hb hw hpd hE hok;go_enter func11,ntmps11;go_wp2_with fail;refine PD.out.mono ?_;rintro e w1 ⟨v1,rfl,_,_,d1⟩;have D1:=hid d1;clear d1 c0 c1;go_wp2;go_ret2;exact⟨rfl,D1.out⟩
 have hR:da l=0:=by rw[da,if_pos hl]
 have hS:js E x l q=enc (E (le64 x) (cX l q)):=by rw[js,if_pos hR]
 rw[hR]at hpd⊢;rw[hS];have hml:=ct l q hq hl.2.1;have hm16:16≤cd l.length q∧cd l.length q≤255:=by
  have:=hl.1;unfold cd;rcases hq with rfl|rfl|rfl<;>omega
 obtain⟨M,hM⟩: ∃M,M=cX l q:=⟨_,rfl⟩;obtain⟨m,hm⟩: ∃m,m=cd l.length q:=⟨_,rfl⟩;rw[←hM]at hpd hml⊢;rw[←hm]at hml hm16;have PD:=hid hpd;have B0:=hid hb;have W0:=hid hw;have OK:=hid hok;clear hb hw hpd hE hM hm hR hS hok;go_enter func11,ntmps11;go_wp2_with fail;refine PD.out.mono ?_;rintro e w1 ⟨v1,rfl,_,ho,d1⟩;have o1:=ho trivial;obtain⟨a1,s1,rfl,r1,_⟩:=o1.rd;rw[hml]at r1⊢;have c2:w1.cell? ⟨h,0,none⟩=some (.pointer (some ⟨g,0,none⟩)):=by rw[(B0.out.belowAll d1).cell];rfl
 have hnt:=kO g E D M x a1 m s1 w1 (W0.out.below d1) r1 hm16.1 (by omega);have NT:=hid hnt;have D1:=hid d1;clear ho o1 r1 d1 hnt c0 c1;go_wp2_with fail;refine NT.out.mono ?_;rintro e w2 ⟨v2,rfl,o2,d2⟩;have hEl:(E (le64 x) M).length=m:=by rw[OK.out.elen _ _ (by omega) (by omega),hml]
 obtain⟨Y,hEq⟩: ∃Y,Y=E (le64 x) M:=⟨_,rfl⟩;rw[←hEq]at o2 hEl;obtain⟨a2,s2,rfl,r2,_⟩:=o2.rd;rw[hEl]at r2⊢;have hsx:=lX Y a2 m s2 w2 r2 (by omega);have SX:=hid hsx;have HE:=hid hEq;have D2:=hid (D1.out.trans (d2.mono D1.out.size));clear o2 r2 d2 hsx hEq c2;go_wp2_with fail;refine SX.out.mono ?_;rintro e w3 ⟨rfl,d3⟩;have D3:=hid (D2.out.trans (d3.mono D2.out.size));clear d3;go_wp2;go_ret2;rw[←HE.out];exact⟨rfl,D3.out⟩
theorem tQ(h q:Nat)(E D:Y8→Y8→Y8)(t:Y8)(x:BitVec 64)(w:World)(hN:NsAt w h (q:Int) E D)(hq:cY q)(hl1:t.length≤1000000):
  Calls prog 16 #[.pointer (some ⟨h,0,none⟩),v64 x,.string (str t)] w fun e w' =>e= .returned (.tuple #[.string (str (ns D x t q)),.int .i64 (nr D x t q)])∧Below w.heap.size w w':=by
 have hok:=hN.ok;obtain⟨g,hb,hw⟩:=hN;have hdc:=tU t w (by omega);have B0:=hid hb;have W0:=hid hw;have OK:=hid hok;clear hb hw hok;cases hd:dec t with
 |none=>
  have hE:nr D x t q=13:=by unfold nr;rw[hd]
  have hS:ns D x t q=[]:=by unfold ns;rw[hd]
  rw[hE,hS];rw[hd]at hdc;have DC:=hid hdc;clear hdc hE hS hd;go_enter func16,ntmps16;go_wp2_with fail;refine DC.out.mono ?_;rintro e w1 ⟨h1,d1⟩;have h1':e= .returned (.tuple #[.slice none 0 0,.int .i64 13]):=h1;subst h1';have D1:=hid d1;clear h1 d1 DC;go_wp2;go_ret2;exact⟨rfl,D1.out⟩
 |some b=>
  rw[hd]at hdc;have DC:=hid hdc;clear hdc;obtain⟨m,hm⟩: ∃m,m=b.length:=⟨_,rfl⟩;have LG:=fun w1=>vg m q w1 hq;by_cases hl:gz m q=0;rotate_left
  ·have hl4:gz m q=4:=by
    unfold gz at hl⊢
    split
    ·rename_i h9;rw[if_pos h9]at hl;exact absurd rfl hl
    ·rfl
   have hE:nr D x t q=4:=by unfold nr;rw[hd];dsimp only;rw[←hm,if_pos hl]
   have hS:ns D x t q=[]:=by unfold ns;rw[hd];dsimp only;rw[←hm,if_pos hl]
   rw[hE,hS];simp only[hl4]at LG;have LGH:=hid LG;clear hl hl4 hE hS hd LG;go_enter func16,ntmps16;go_wp2_with fail;refine DC.out.mono ?_;rintro e w1 ⟨h1,d1⟩;obtain⟨v1,rfl,o1⟩: ∃v,e= .returned (.tuple #[v,.int .i64 0])∧Own8 w1 w.heap.size 5 v b:=h1;obtain⟨a1,s1,rfl,r1,_⟩:=o1.rd;rw[←hm]at r1⊢;have c1:w1.cell? ⟨h,1,none⟩=some (.int .i64 (q:Int)):=by rw[(B0.out.belowAll d1).cell];rfl
   have D1:=hid d1;clear o1 r1 d1 DC hm;go_wp2_with fail;refine(LGH.out _).mono ?_;rintro e w2 ⟨rfl,rfl⟩;go_wp2;go_ret2;exact⟨rfl,D1.out⟩
  have hn:=sO hq ((Bv m).1 hl);obtain⟨X,hX⟩: ∃X,X=D (le64 x) b:=⟨_,rfl⟩;have hXl:X.length=m:=by rw[hX,OK.out.dlen _ _ (by rw[←hm];omega) (by rw[←hm];omega),←hm]
  have hE:nr D x t q=cJ X (q:Int):=by unfold nr;rw[hd];dsimp only;rw[←hm,if_neg (by simp[hl]),←hX]
  have hS:ns D x t q=db X (q:Int):=by unfold ns;rw[hd];dsimp only;rw[←hm,if_neg (by simp[hl]),←hX]
  rw[hE,hS];simp only[hl]at LG;have LGH:=hid LG;have HX:=hid hX;clear hl hE hS hd LG hX;go_enter func16,ntmps16;go_wp2_with fail;refine DC.out.mono ?_;rintro e w1 ⟨h1,d1⟩;obtain⟨v1,rfl,o1⟩: ∃v,e= .returned (.tuple #[v,.int .i64 0])∧Own8 w1 w.heap.size 5 v b:=h1;obtain⟨a1,s1,rfl,r1,_⟩:=o1.rd;rw[←hm]at r1⊢;have c0:w1.cell? ⟨h,0,none⟩=some (.pointer (some ⟨g,0,none⟩)):=by rw[(B0.out.belowAll d1).cell];rfl
  have c1:w1.cell? ⟨h,1,none⟩=some (.int .i64 (q:Int)):=by rw[(B0.out.belowAll d1).cell];rfl
  have NT:=hid (kP g E D b x a1 m s1 w1 (W0.out.below d1) r1 hn.1 (by omega));have D1:=hid d1;have B1:=hid (B0.out.belowAll d1);clear o1 r1 d1 DC hm B0 W0;go_wp2_with fail;refine(LGH.out _).mono ?_;rintro e w2 ⟨rfl,rfl⟩;clear LGH;go_wp2_with fail;refine NT.out.mono ?_;rintro e w2 ⟨v2,rfl,o2,d2⟩;rw[←HX.out]at o2;obtain⟨a2,s2,rfl,r2,_⟩:=o2.rd;rw[hXl]at r2⊢;have D2:=hid (D1.out.trans (d2.mono D1.out.size));have c2:w2.cell? ⟨h,1,none⟩=some (.int .i64 (q:Int)):=by rw[(B1.out.belowAll d2).cell];rfl
  have PL:=hid (tC X (q:Int) a2 m s2 w2 r2 (by omega));clear o2 r2 d2 c0 c1 NT B1;go_wp2_with fail;refine PL.out.mono ?_;rintro e w3 ⟨rfl,d3⟩;have D3:=hid (D2.out.trans (d3.mono D2.out.size));clear d3;go_wp2;go_ret2;exact⟨rfl,D3.out⟩
open Go.RowKit
def hcS(key:Y8):Y8:=sch (key.length/4) key (3*(key.length/4)+28)
def uR(alg:Int)(key:Y8):Y8→Y8→Y8:=
 if alg=1 then encA key else if alg=2 then ew (encS (hcS key) (key.length/4+7)) (hcS key) (key.length/4+7) (hkey (hcS key) (key.length/4+7)) (lkey (hcS key) (key.length/4+7))else ezEn (xI key) (xJ key) (xL key)
def uS(alg:Int)(key:Y8):Y8→Y8→Y8:=
 if alg=1 then decA key else if alg=2 then ew (decS (hcS key) (key.length/4+7)) (hcS key) (key.length/4+7) (hkey (hcS key) (key.length/4+7)) (lkey (hcS key) (key.length/4+7))else ezDe (xI key) (xJ key) (xL key)
theorem FR {alg:Int} {n:Nat}(h:dJ alg n=0):alg=1∧n=32∨alg=2∧(n=16∨n=24∨n=32)∨alg=3∧1≤n∧n≤128:=by
 unfold dJ at h
 split at h
 ·cases h
 ·split at h
  ·cases h
  ·rename_i h1 h2;by_cases e1:alg=1
   ·exact .inl ⟨e1,Decidable.byContradiction fun h=>h2 (.inl ⟨e1,h⟩)⟩
   ·by_cases e2:alg=2
    ·exact .inr (.inl ⟨e2,Decidable.byContradiction fun h=>h2 (.inr (.inl ⟨e2,h⟩))⟩)
    ·have e3:alg=3:=by omega
     exact .inr (.inr ⟨e3,Decidable.byContradiction fun h=>h2 (.inr (.inr ⟨e3,h⟩))⟩)
theorem FS(q:Nat)(w:World):(fL 134 (.pointer (some ⟨q,0,none⟩))).run prog w= .ok (.agg #[.pointer (some ⟨q,0,none⟩)]) w:=by kernel_rfl
theorem ww(alg:Int)(p:Nat)(key:Y8)(a:Option Addr)(n c:Nat)(w:World)(hT:TabAt w p)(hB:Blaking w)(hr:Rd8 w a n c key)(hw:dJ alg n=0):
  Calls prog 43 #[.pointer (some ⟨p,0,none⟩),.int .i64 alg,.slice a n c] w fun e w' => ∃x,e= .returned (.tuple #[x,.int .i64 0])∧SchAt w' alg x (uR alg key) (uS alg key)∧Below w.heap.size w w':=by
 have hkl:=hr.1;rcases FR hw with⟨rfl,rfl⟩|⟨rfl,hn⟩|⟨rfl,hn⟩
 ·refine(pY p key a c w hT hr).mono ?_;rintro e w1 ⟨q,rfl,h1,d1⟩;exact⟨_,rfl,.inl ⟨q,p,key,rfl,rfl,hkl,h1,rfl,rfl⟩,d1⟩
 ·have HN:=hid (Fe p key a n c w hT hr hn);clear hT hB hr hw;go_enter func43,ntmps43;go_wp2_with fail;refine HN.out.mono ?_;rintro e w1 ⟨q,k,rfl,h1,d1⟩;have A1:=hid h1;have D1:=hid d1;clear h1 d1 HN;go_wp2;go_ret2;refine⟨_,rfl,.inr (.inl ⟨q,k,p,n/4+7,hcS key,hkey (hcS key) (n/4+7),lkey (hcS key) (n/4+7),rfl,rfl,by omega,by omega,?_,?_,?_⟩),D1.out⟩
  ·have:=A1.out;rw[hcS,hkl];exact this
  ·unfold uR;rw[if_neg (by decide),if_pos rfl,hkl]
  ·unfold uS;rw[if_neg (by decide),if_pos rfl,hkl]
 ·have HX:=hid (yh p key a n c w hT hB hr hn.1 hn.2);clear hT hB hr hw;go_enter func43,ntmps43;go_wp2_with fail;refine HX.out.mono ?_;rintro e w1 ⟨q,rfl,h1,d1⟩;have A1:=hid h1;have D1:=hid d1;have be:=fun w2=>FS q w2;clear h1 d1 HX;go_wp2;go_ret2;exact⟨_,rfl,.inr (.inr ⟨q,p,_,_,_,rfl,rfl,A1.out,rfl,rfl⟩),D1.out⟩
theorem Iq(alg:Int)(x:Value)(w:World)(hx: ∃t v,x= .iface t v):(dM 91 (.int .i64 alg) x).run prog w= .ok (.agg (XC alg x)) w:=by
 obtain⟨t,v,rfl⟩:=hx
 kernel_rfl
theorem SchAt.if {w:World} {alg:Int} {x:Value} {E D:Y8→Y8→Y8}(h:SchAt w alg x E D): ∃t v,x= .iface t v:=by
 rcases h with⟨_,_,_,_,h,_⟩|⟨_,_,_,_,_,_,_,_,h,_⟩|⟨_,_,_,_,_,_,h,_⟩<;>exact⟨_,_,h⟩
theorem wy(alg:Int)(p:Nat)(key:Y8)(a:Option Addr)(n c:Nat)(w:World)(hT:TabAt w p)(hB:Blaking w)(hr:Rd8 w a n c key)(hw:dJ alg n=0):
  Calls prog 20 #[.pointer (some ⟨p,0,none⟩),.int .i64 alg,.slice a n c] w fun e w' => ∃g,e= .returned (.tuple #[.pointer (some ⟨g,0,none⟩),.int .i64 0])∧WxAt w' g (uR alg key) (uS alg key)∧Below w.heap.size w w':=by
 have SX:=hid (ww alg p key a n c w hT hB hr hw);clear hT hr hB hw;go_enter func20,ntmps20;go_wp2_with fail;refine SX.out.mono ?_;rintro e w1 ⟨x,rfl,h1,d1⟩;have A1:=hid h1;have D1:=hid d1;have hbd:=fun w2=>Iq alg x w2 h1.if;have hsz:(XC alg x).size=2:=rfl;have A2:=hid (h1.below ((Below.refl w1.heap.size w1).alloc (Nat.le_refl _) (.cells (XC alg x) 91)));have D2:=hid (d1.alloc d1.size (.cells (XC alg x) 91));have N2:=hid (Blk.new w1 91 (XC alg x));clear h1 d1 SX;go_wp2;go_ret2;exact⟨_,rfl,⟨alg,x,N2.out,A2.out⟩,D2.out⟩
theorem wA(alg:Int)(a:Option Addr)(n c q:Nat)(f:BitVec 64)(s key:Y8)(w:World)(hT:Turning w)(hB:Blaking w)(hr:Rd8 w a n c key)(hw:dJ alg n=0)(hq:cY q):
  Calls prog 10 #[.agg (NxC alg a n c (q:Int) f s)] w fun e w' => ∃h,e= .returned (.tuple #[.pointer (some ⟨h,0,none⟩),.bool true])∧NsAt w' h (q:Int) (uR alg key) (uS alg key)∧Below w.heap.size w w':=by
 obtain⟨T,hTT⟩: ∃T,T=NxC alg a n c (q:Int) f s:=⟨_,rfl⟩;rw[←hTT];have s0:T.size=5:=by rw[hTT];rfl
 obtain⟨W,hW⟩: ∃W,w.alloc (.cells T 25)=W:=⟨_,rfl⟩;obtain⟨b0,hb,hz⟩:=new1 _ _ _ _ hW;have t0:T[0]? =some (.int .i64 alg):=by rw[hTT];rfl
 have t1:T[1]? =some (.slice a n c):=by rw[hTT];rfl
 have t2:T[2]? =some (.int .i64 (q:Int)):=by rw[hTT];rfl
 have P0:=hid b0;have B0:=hid hb;have T0:=hid (hT.below hb);have K0:=hid (hB.below hb);have R0:=hid (hr.below hb);have C0_:=hid t0;have C1:=hid t1;have C2:=hid t2;have HW:=hid hw;clear b0 hb hz hT hB hr hTT t0 t1 t2 hw;go_enter func10,ntmps10;go_upto_region 1 with fail
 try rw[hW]
 clear hW;refine aw [2,2,0,5,0,5,2,0,0,0,0,0] (by kernel_rfl) (by kernel_rfl) (fun C0 hC0 hCb K' hK' => ?_);have Q1: ∀w1,C0 w1→w1.cell? ⟨w.heap.size,0,none⟩=some (.int .i64 alg):=fun w1 hw=>by rw[(P0.out.drew.belowAll (hCb w1 hw)).cell];exact C0_.out
 have Q2: ∀w1,C0 w1→w1.cell? ⟨w.heap.size,1,none⟩=some (.slice a n c):=fun w1 hw=>by rw[(P0.out.drew.belowAll (hCb w1 hw)).cell];exact C1.out
 refine hqc ?_;go_simp;refine af ?_;refine(qK W.drew).mono ?_;rintro e w1 ⟨q1,rfl,hqy,_,d1⟩;refine⟨_,rfl,d1,?_⟩
 try simp only[Act.put,zz1,zz2,zz3]
 refine hqc ?_;go_simp;refine af ?_;refine(Bc q1 w1 ((show Turning W.drew from T0.out).below d1) hqy).mono ?_;rintro e w2 ⟨p,rfl,hp,_,d2⟩;refine⟨_,rfl,d2,?_⟩
 try simp only[Act.put,zz1,zz2,zz3]
 have ht:TabAt w2 p:=⟨q1,hp,hqy.belowAll d2⟩;have d12:=d1.trans (d2.mono d1.size)
 repeat (first|((with_reducible refine hq0 ?_);refine hq0a ?_)|((with_reducible refine hq5 ?_);refine hq5a ?_ (fun _ hcw=>by have f1:=Q1 _ hcw;have f2:=Q2 _ hcw;go_simp;(try go_bits);exact rfl))|((with_reducible refine hq1 ?_);refine hq1a ?_))
 refine hqc ?_;go_simp;refine af ?_;refine(wy alg p key a n c w2 ht ((show Blaking W.drew from K0.out).below d12) (R0.out.drew.below d12) HW.out).mono ?_;rintro e w3 ⟨g,rfl,hw3,d3⟩;refine⟨_,rfl,d3,?_⟩
 try simp only[Act.put,zz1,zz2,zz3]
 repeat (first|((with_reducible refine hq0 ?_);refine hq0a ?_)|((with_reducible refine hq5 ?_);refine hq5a ?_)|((with_reducible refine hq1 ?_);refine hq1a ?_))
 refine aU [] rfl (by simp) (az (hK' _ _ ?_));have d13:=d12.trans (d3.mono d12.size);have W3:=hid hw3;have P3:=hid (P0.out.drew.belowAll d13);have B3:=hid (B0.out.drew.trans (d13.mono B0.out.drew.size));have hk:bU (q:Int)=0:=by unfold bU cY at*;rw[if_pos (by omega)]
 have hnn:=pZ g (q:Int) w3;rw[hk]at hnn;have NN:=hid hnn;have c2:w3.cell? ⟨w.heap.size,2,none⟩=some (.int .i64 (q:Int)):=by rw[P3.out.cell];exact C2.out
 clear Q1 Q2 hC0 hCb hK' hqy d1 hp d2 ht d12 hw3 d3 d13 hnn hk P0 B0 T0 R0 K0;go_wp2_with fail;refine NN.out.mono ?_;rintro e w4 ⟨v4,rfl,_,h4,d4⟩;obtain⟨h,rfl,hn⟩:=h4 trivial;have N4:=hid (show NsAt w4 h (q:Int) (uR alg key) (uS alg key) from⟨g,hn,W3.out.below d4⟩);have B4:=hid (B3.out.trans (d4.mono B3.out.size));clear h4 hn d4 c2;go_wp2;go_ret2;exact⟨h,rfl,N4.out,B4.out⟩
open Go.RowKit
structure NxS(w0 w:World)(g:Nat)(T:Array Value)(a:Option Addr)(n c:Nat)(key:Y8):Prop where
 blk:Blk w g 25 T
 tur:Turning w
 bla:Blaking w
 key:Rd8 w a n c key
 bel:Below w0.heap.size w0 w
theorem NxS.step {w0 w w':World} {g:Nat} {T:Array Value} {a:Option Addr} {n c:Nat} {key:Y8}(h:NxS w0 w g T a n c key)(d:Below w.heap.size w w'):NxS w0 w' g T a n c key:=
 ⟨h.blk.belowAll d,h.tur.below d,h.bla.below d,h.key.below d,h.bel.trans (d.mono h.bel.size)⟩
theorem NxS.get {w0 w:World} {g:Nat} {T:Array Value} {a:Option Addr} {n c:Nat} {key:Y8}(h:NxS w0 w g T a n c key)(hs:T.size=5):(bt 25 (.pointer (some ⟨g,0,none⟩))).run prog w= .ok (.agg T) w:=by
 have r:=h.blk.row;rw[cO w _ _ _ (isAgg25 _) (sizeOf25 _) (by rw[r,hs];exact(by decide:0+5≤5)),r];exact congrArg (fun z=>Result.ok (Value.agg z) w) (show T.extract 0 5=T by rw[←hs];simp)
theorem NxS.cell {w0 w:World} {g:Nat} {T:Array Value} {a:Option Addr} {n c:Nat} {key:Y8}(h:NxS w0 w g T a n c key) {i:Nat} {v:Value}(hi:T[i]? =some v):w.cell? ⟨g,i,none⟩=some v:=by
 rw[h.blk.cell,hi]
theorem FT {pad:Int}(h:bU pad=0): ∃q:Nat,cY q∧pad=(q:Int):=by
 unfold bU at h
 split at h
 ·rename_i h1;rcases h1 with rfl|rfl|rfl
  ·exact⟨16,.inl rfl,rfl⟩
  ·exact⟨32,.inr (.inl rfl),rfl⟩
  ·exact⟨64,.inr (.inr rfl),rfl⟩
 ·cases h
theorem FU {E D:Y8→Y8→Y8}(x:BitVec 64) {q:Nat}(hc:CipOk E D)(hq:cY q)(l:Y8)(h:bT l):(js E x l q).length≤1000:=by
 rw[wu x hc hq l h];have:cd l.length q≤255:=Nat.min_le_right _ _
 split<;>omega
end Go.Proofs.YtddkbkbpogcffaaGreatDoor
