/-wide's Cipher over adiantum:New,Encipher;name's New-/
import Derived.Test.YtddkbkbpogcffaaGreatDoorMNa
import Derived.Test.YtddkbkbpogcffaaGreatDoorMHi
import Derived.Test.YtddkbkbpogcffaaGreatDoorMHm
import Derived.Test.YtddkbkbpogcffaaGreatDoorMGw
import Derived.Test.YtddkbkbpogcffaaGreatDoorMNc
import Derived.Test.YtddkbkbpogcffaaGreatDoorMHj
import Derived.Test.YtddkbkbpogcffaaGreatDoorMGe
import Derived.Test.YtddkbkbpogcffaaGreatDoorMHd
namespace Go.Proofs.YtddkbkbpogcffaaGreatDoor
open Go.Proofs.Tryz
open Lib (hid)
set_option linter.unusedSimpArgs false
set_option linter.unusedVariables false
set_option maxRecDepth 100000
set_option maxHeartbeats 1600000
open Go.RowKit
theorem pY(p:Nat)(key:Y8)(a:Option Addr)(c:Nat)(w:World)(hT:TabAt w p)(hr:Rd8 w a 32 c key):
  Calls prog 43 #[.pointer (some ⟨p,0,none⟩),.int .i64 1,.slice a 32 c] w fun e w' => ∃q,e= .returned (.tuple #[.iface 124 (.pointer (some ⟨q,0,none⟩)),.int .i64 0])∧AcAt w' q p key∧Below w.heap.size w w':=by
 have T0:=hid hT;have R0:=hid hr;clear hT hr;go_enter func43,ntmps43;go_wp2_with fail;refine(Fo p key a c w T0.out R0.out).mono ?_;rintro e w1 ⟨q,rfl,h1,h2,d1⟩;have A1:=hid h1;have D1:=hid d1;clear h1 h2 d1;go_wp2;go_ret2;exact⟨q,rfl,A1.out,D1.out⟩
def WC(q:Nat):Array Value:= #[.int .i64 1,.iface 124 (.pointer (some ⟨q,0,none⟩))]
def NC(g:Nat)(p:Int):Array Value:= #[.pointer (some ⟨g,0,none⟩),.int .i64 p]
def WcAt(w:World)(g p:Nat)(key:Y8):Prop:= ∃q,Blk w g 91 (WC q)∧AcAt w q p key
theorem AcAt.belowW {w w':World} {q p:Nat} {key:Y8}(h:AcAt w q p key)(hb:Below w.heap.size w w'):AcAt w' q p key:=by
 obtain⟨kk,ks,h1,h2,h3⟩:=h;exact⟨kk,ks,h1.belowAll hb,h2.below hb,h3.below hb⟩
theorem WcAt.below {w w':World} {g p:Nat} {key:Y8}(h:WcAt w g p key)(hb:Below w.heap.size w w'):WcAt w' g p key:=by
 obtain⟨q,h1,h2⟩:=h;exact⟨q,h1.belowAll hb,h2.belowW hb⟩
theorem Ix(q:Nat)(w:World):(dM 91 (.int .i64 1) (.iface 124 (.pointer (some ⟨q,0,none⟩)))).run prog w= .ok (.agg (WC q)) w:=by kernel_rfl
theorem Iy(g:Nat)(p:Int)(w:World):(dM 69 (.pointer (some ⟨g,0,none⟩)) (.int .i64 p)).run prog w= .ok (.agg (NC g p)) w:=by kernel_rfl
theorem yu(p:Nat)(key:Y8)(a:Option Addr)(c:Nat)(w:World)(hT:TabAt w p)(hr:Rd8 w a 32 c key):
  Calls prog 20 #[.pointer (some ⟨p,0,none⟩),.int .i64 1,.slice a 32 c] w fun e w' => ∃g,e= .returned (.tuple #[.pointer (some ⟨g,0,none⟩),.int .i64 0])∧WcAt w' g p key∧Below w.heap.size w w':=by
 have T0:=hid hT;have R0:=hid hr;clear hT hr;go_enter func20,ntmps20;go_wp2_with fail;refine(pY p key a c w T0.out R0.out).mono ?_;rintro e w1 ⟨q,rfl,h1,d1⟩;have A1:=hid h1;have D1:=hid d1;have hbd:=Ix q;have hsz:(WC q).size=2:=rfl;have A2:=hid (h1.belowW ((Below.refl w1.heap.size w1).alloc (Nat.le_refl _) (.cells (WC q) 91)));have D2:=hid (d1.alloc d1.size (.cells (WC q) 91));have N2:=hid (Blk.new w1 91 (WC q));clear h1 d1;go_wp2;go_ret2;exact⟨_,rfl,⟨q,N2.out,A2.out⟩,D2.out⟩
theorem pZ(g:Nat)(p:Int)(w:World):
  Calls prog 23 #[.pointer (some ⟨g,0,none⟩),.int .i64 p] w fun e w' => ∃v,e= .returned (.tuple #[v,.int .i64 (bU p)])∧(bU p≠0→v= .pointer none)∧(bU p=0→ ∃h,v= .pointer (some ⟨h,0,none⟩)∧Blk w' h 69 (NC g p))∧Below w.heap.size w w':=by
 have hk:=mB p w;obtain⟨K,hK⟩: ∃K,K=bU p:=⟨_,rfl⟩;rw[←hK]at hk⊢;have HK:=hid hk;clear hk hK;go_enter func23,ntmps23;go_wp2_with fail;refine HK.out.mono ?_;rintro e w1 ⟨rfl,rfl⟩;by_cases hk0:K=0
 ·subst hk0;have hbd:=Iy g p;have hsz:(NC g p).size=2:=rfl;have D2:=hid ((Below.refl w.heap.size w).alloc (Nat.le_refl _) (.cells (NC g p) 69));have N2:=hid (Blk.new w 69 (NC g p));go_wp2;go_ret2;exact⟨_,rfl,⟨_,rfl,N2.out⟩,D2.out⟩
 ·have hk1:(K==0)=false:=by simpa using hk0
  have hk2:(K !=0)=true:=by simp[hk0]
  go_wp2;go_ret2;exact⟨_,rfl,fun _=>rfl,fun h=>absurd h hk0,Below.refl _ _⟩
theorem yv(g p:Nat)(key T M:Y8)(a b:Option Addr)(n c len d:Nat)(w:World)(hA:WcAt w g p key)(hkl:key.length=32)(ht:Rd8 w a n c T)(hM:Rd8 w b len d M)(h16:16≤len)(hlen:len≤520):
  Calls prog 26 #[.pointer (some ⟨g,0,none⟩),.slice a n c,.slice b len d] w fun e w' => ∃v,e= .returned (.tuple #[v,.int .i64 0])∧Own8 w' w.heap.size 5 v (encA key T M)∧Below w.heap.size w w':=by
 obtain⟨q,hg,hq⟩:=hA;have c0:w.cell? ⟨g,0,none⟩=some (.int .i64 1):=by rw[hg.cell];rfl
 have c1:w.cell? ⟨g,1,none⟩=some (.iface 124 (.pointer (some ⟨q,0,none⟩))):=by rw[hg.cell];rfl
 have e1: ¬(len:Int)<16:=by omega
 have hae:=xz q p key T M a b n c len d w hq hkl ht hM h16 hlen;have AE:=hid hae;have hle:Calls prog 73 #[.pointer (some ⟨g,0,none⟩)] w fun e w' =>e= .returned (.int .i64 16)∧w=w':=by
  clear hae AE hq ht hM hg;go_enter func73,ntmps73;go_wp2;go_ret;exact⟨rfl,rfl⟩
 have LE:=hid hle;have htu:Calls prog 53 #[.pointer (some ⟨g,0,none⟩),.slice a n c,.slice b len d,.bool false] w fun e w' => ∃v,e= .returned (.tuple #[v,.int .i64 0])∧Own8 w' w.heap.size 5 v (encA key T M)∧Below w.heap.size w w':=by
  clear hae hle hq ht hM hg;go_enter func53,ntmps53;go_wp2_with fail;refine LE.out.mono ?_;rintro e w1 ⟨rfl,rfl⟩;go_wp2_with fail;refine AE.out.mono ?_;rintro e w2 ⟨v2,rfl,o2,d2⟩;have O2:=hid o2;have D2:=hid d2;clear o2 d2;go_wp2;go_ret2;exact⟨_,rfl,O2.out,D2.out⟩
 have TU:=hid htu;clear hae hle htu hq ht hM hg c0 c1;go_enter func26,ntmps26;go_wp2_with fail;refine TU.out.mono ?_;rintro e w2 ⟨v2,rfl,o2,d2⟩;have O2:=hid o2;have D2:=hid d2;clear o2 d2;go_wp2;go_ret2;exact⟨_,rfl,O2.out,D2.out⟩
open Go.RowKit
def NmAt(w:World)(h p:Nat)(key:Y8)(pad:Int):Prop:= ∃g,Blk w h 69 (NC g pad)∧WcAt w g p key
theorem NmAt.below {w w':World} {h p:Nat} {key:Y8} {pad:Int}(k:NmAt w h p key pad)(hb:Below w.heap.size w w'):NmAt w' h p key pad:=by
 obtain⟨g,h1,h2⟩:=k;exact⟨g,h1.belowAll hb,h2.below hb⟩
theorem yw(g p:Nat)(key M:Y8)(x:BitVec 64)(b:Option Addr)(len d:Nat)(w:World)(hA:WcAt w g p key)(hkl:key.length=32)(hM:Rd8 w b len d M)(h16:16≤len)(hlen:len≤520):
  Calls prog 25 #[.func (.func 26) #[.pointer (some ⟨g,0,none⟩)] #[],v64 x,.slice b len d] w fun e w' => ∃v,e= .returned (.tuple #[v,.int .i64 0])∧Own8 w' w.heap.size 5 v (encA key (le64 x) M)∧Below w.heap.size w w':=by
 have A0:=hid hA;have M0:=hid hM;clear hA hM;go_enter func25,ntmps25;go_wp2_with fail;refine(aM x w).mono ?_;rintro e w1 ⟨rfl,d1⟩;obtain⟨L,hL⟩: ∃L,L=le64 x:=⟨_,rfl⟩;have hLl:L.length=8:=by rw[hL];rfl
 rw[←hL];have HL:=hid hL;clear hL;have q1:=(Blk.new w1 107 (A8 (ac 8 8))).row;have q3:=(Blk.new w1 107 (A8 (ac 8 8))).whole;obtain⟨w2,hw2⟩: ∃z,w1.alloc (.cells (A8 L) 107)=z:=⟨_,rfl⟩;obtain⟨n2,d2,z2⟩:=new1 _ _ _ _ hw2;obtain⟨g1,hg1⟩: ∃z,w1.heap.size=z:=⟨_,rfl⟩;have d12:=d1.trans (d2.mono d1.size);have n4:=n2.rd8 8 (by omega) (by rw[hLl];unfold maxLen;omega);rw[List.take_of_length_le (by omega),hLl]at n4;rw[hg1]at n4;have A2:=hid (A0.out.below d12);have M2:=hid (M0.out.below d12);have L2:=hid n4;have D2:=hid d12;have HG:=hid hg1;clear d1 n2 d2 z2 d12 n4 A0 M0;go_wp2_with fail;have hwe:=yv g p key L M (some ⟨g1,0,none⟩) b 8 8 len d w2 A2.out hkl L2.out M2.out h16 hlen;have WE:=hid hwe;clear hwe q1 q3;refine WE.out.mono ?_;rintro e w3 ⟨v3,rfl,o3,d3⟩;rw[HL.out]at o3;have O3:=hid (o3.base D2.out.size);have D3:=hid (D2.out.trans (d3.mono D2.out.size));clear o3 d3;go_wp2;go_ret2;exact⟨_,rfl,O3.out,D3.out⟩
theorem wF(h p q:Nat)(key l:Y8)(x:BitVec 64)(w:World)(hN:NmAt w h p key (q:Int))(hkl:key.length=32)(hq:cY q)(hl:bT l):
  Calls prog 11 #[.pointer (some ⟨h,0,none⟩),v64 x,.string (str l)] w fun e w' =>e= .returned (.tuple #[.string (str (enc (encA key (le64 x) (cX l q)))),.int .i64 0])∧Below w.heap.size w w':=by
 obtain⟨g,hb,hw⟩:=hN;have c0:w.cell? ⟨h,0,none⟩=some (.pointer (some ⟨g,0,none⟩)):=by rw[hb.cell];rfl
 have c1:w.cell? ⟨h,1,none⟩=some (.int .i64 (q:Int)):=by rw[hb.cell];rfl
 have hpd:=iU l (q:Int) w (by have:=hl.2.1;omega);have hE:padE l (q:Int)=0:=by
  have hk:bU (q:Int)=0:=by unfold bU cY at*;rw[if_pos (by omega)]
  rw[padE,hk,if_neg (by simp),da,if_pos hl]
 rw[hE,Int.toNat_natCast]at hpd;have hml:=ct l q hq hl.2.1;have hm16:16≤cd l.length q∧cd l.length q≤255:=by
  have:=hl.1;unfold cd;rcases hq with rfl|rfl|rfl<;>omega
 obtain⟨M,hM⟩: ∃M,M=cX l q:=⟨_,rfl⟩;obtain⟨m,hm⟩: ∃m,m=cd l.length q:=⟨_,rfl⟩;rw[←hM]at hpd hml⊢;rw[←hm]at hml hm16;have PD:=hid hpd;have B0:=hid hb;have W0:=hid hw;clear hb hw hpd hE hM hm;go_enter func11,ntmps11;go_wp2_with fail;refine PD.out.mono ?_;rintro e w1 ⟨v1,rfl,_,ho,d1⟩;have o1:=ho trivial;obtain⟨a1,s1,rfl,r1,_⟩:=o1.rd;rw[hml]at r1⊢;have c2:w1.cell? ⟨h,0,none⟩=some (.pointer (some ⟨g,0,none⟩)):=by rw[(B0.out.belowAll d1).cell];rfl
 have hnt:=yw g p key M x a1 m s1 w1 (W0.out.below d1) hkl r1 hm16.1 (by omega);have NT:=hid hnt;have D1:=hid d1;clear ho o1 r1 d1 hnt c0 c1;go_wp2_with fail;refine NT.out.mono ?_;rintro e w2 ⟨v2,rfl,o2,d2⟩;obtain⟨E,hEq⟩: ∃E,E=encA key (le64 x) M:=⟨_,rfl⟩;have hEl:E.length=m:=by rw[hEq,kM _ _ _ (by omega),hml]
 rw[←hEq]at o2;obtain⟨a2,s2,rfl,r2,_⟩:=o2.rd;rw[hEl]at r2⊢;have hsx:=lX E a2 m s2 w2 r2 (by omega);have SX:=hid hsx;have HE:=hid hEq;have D2:=hid (D1.out.trans (d2.mono D1.out.size));clear o2 r2 d2 hsx hEq c2;go_wp2_with fail;refine SX.out.mono ?_;rintro e w3 ⟨rfl,d3⟩;have D3:=hid (D2.out.trans (d3.mono D2.out.size));clear d3;go_wp2;go_ret2;rw[←HE.out];exact⟨rfl,D3.out⟩
open Go.RowKit
theorem BH: ∀l:Y8,(enc l).length=l.length/3*4+(if l.length %3=0 then 0 else l.length %3+1)
 | []=>rfl
 | [a]=>by show(sigs _ _).length=_;rw[bZ];simp
 | [a,b]=>by show(sigs _ _).length=_;rw[bZ];simp
 |x::y::z::r=>by
  have ih:=BH r;simp only[enc,List.length_append,bZ,ih,List.length_cons];have e1:(r.length+1+1+1)/3=r.length/3+1:=by omega
  have e2:(r.length+1+1+1) %3=r.length %3:=by omega
  rw[e1,e2]
  split<;>omega
def TC(a:Option Addr)(c:Nat)(pad:Int)(f s:Value):Array Value:= #[.int .i64 1,.slice a 32 c,.int .i64 pad,f,s]
theorem yx(a:Option Addr)(c q:Nat)(f s:Value)(key:Y8)(w:World)(hT:Turning w)(hr:Rd8 w a 32 c key)(hq:cY q):
  Calls prog 10 #[.agg (TC a c (q:Int) f s)] w fun e w' => ∃h p,e= .returned (.tuple #[.pointer (some ⟨h,0,none⟩),.bool true])∧NmAt w' h p key (q:Int)∧Below w.heap.size w w':=by
 obtain⟨T,hTT⟩: ∃T,T=TC a c (q:Int) f s:=⟨_,rfl⟩;rw[←hTT];have s0:T.size=5:=by rw[hTT];rfl
 obtain⟨W,hW⟩: ∃W,w.alloc (.cells T 25)=W:=⟨_,rfl⟩;obtain⟨b0,hb,hz⟩:=new1 _ _ _ _ hW;have t0:T[0]? =some (.int .i64 1):=by rw[hTT];rfl
 have t1:T[1]? =some (.slice a 32 c):=by rw[hTT];rfl
 have t2:T[2]? =some (.int .i64 (q:Int)):=by rw[hTT];rfl
 have P0:=hid b0;have B0:=hid hb;have T0:=hid (hT.below hb);have R0:=hid (hr.below hb);have C0_:=hid t0;have C1:=hid t1;have C2:=hid t2;clear b0 hb hz hT hr hTT t0 t1 t2;go_enter func10,ntmps10;go_upto_region 1 with fail
 try rw[hW]
 clear hW;refine aw [2,2,0,5,0,5,2,0,0,0,0,0] (by kernel_rfl) (by kernel_rfl) (fun C0 hC0 hCb K' hK' => ?_);have Q1: ∀w1,C0 w1→w1.cell? ⟨w.heap.size,0,none⟩=some (.int .i64 1):=fun w1 hw=>by rw[(P0.out.drew.belowAll (hCb w1 hw)).cell];exact C0_.out
 have Q2: ∀w1,C0 w1→w1.cell? ⟨w.heap.size,1,none⟩=some (.slice a 32 c):=fun w1 hw=>by rw[(P0.out.drew.belowAll (hCb w1 hw)).cell];exact C1.out
 refine hqc ?_;go_simp;refine af ?_;refine(qK W.drew).mono ?_;rintro e w1 ⟨q1,rfl,hqy,_,d1⟩;refine⟨_,rfl,d1,?_⟩
 try simp only[Act.put,zz1,zz2,zz3]
 refine hqc ?_;go_simp;refine af ?_;refine(Bc q1 w1 ((show Turning W.drew from T0.out).below d1) hqy).mono ?_;rintro e w2 ⟨p,rfl,hp,_,d2⟩;refine⟨_,rfl,d2,?_⟩
 try simp only[Act.put,zz1,zz2,zz3]
 have ht:TabAt w2 p:=⟨q1,hp,hqy.belowAll d2⟩;have d12:=d1.trans (d2.mono d1.size)
 repeat (first|((with_reducible refine hq0 ?_);refine hq0a ?_)|((with_reducible refine hq5 ?_);refine hq5a ?_ (fun _ hcw=>by have f1:=Q1 _ hcw;have f2:=Q2 _ hcw;go_simp;(try go_bits);exact rfl))|((with_reducible refine hq1 ?_);refine hq1a ?_))
 refine hqc ?_;go_simp;refine af ?_;refine(yu p key a c w2 ht (R0.out.drew.below d12)).mono ?_;rintro e w3 ⟨g,rfl,hw3,d3⟩;refine⟨_,rfl,d3,?_⟩
 try simp only[Act.put,zz1,zz2,zz3]
 repeat (first|((with_reducible refine hq0 ?_);refine hq0a ?_)|((with_reducible refine hq5 ?_);refine hq5a ?_)|((with_reducible refine hq1 ?_);refine hq1a ?_))
 refine aU [] rfl (by simp) (az (hK' _ _ ?_));have d13:=d12.trans (d3.mono d12.size);have W3:=hid hw3;have P3:=hid (P0.out.drew.belowAll d13);have B3:=hid (B0.out.drew.trans (d13.mono B0.out.drew.size));have hk:bU (q:Int)=0:=by unfold bU cY at*;rw[if_pos (by omega)]
 have hnn:=pZ g (q:Int) w3;rw[hk]at hnn;have NN:=hid hnn;have c2:w3.cell? ⟨w.heap.size,2,none⟩=some (.int .i64 (q:Int)):=by rw[P3.out.cell];exact C2.out
 clear Q1 Q2 hC0 hCb hK' hqy d1 hp d2 ht d12 hw3 d3 d13 hnn hk P0 B0 T0 R0;go_wp2_with fail;refine NN.out.mono ?_;rintro e w4 ⟨v4,rfl,_,h4,d4⟩;obtain⟨h,rfl,hn⟩:=h4 trivial;have N4:=hid (show NmAt w4 h p key (q:Int) from⟨g,hn,W3.out.below d4⟩);have B4:=hid (B3.out.trans (d4.mono B3.out.size));clear h4 hn d4 c2;go_wp2;go_ret2;exact⟨h,p,rfl,N4.out,B4.out⟩
open Go.RowKit
theorem Iz(a:Option Addr)(c:Nat)(w:World):(mT 25 (.int .i64 1) (.slice a 32 c) (.int .i64 16)).run prog w= .ok (.agg (TC a c 16 (.int .u64 0) (.string ⟨#[]⟩))) w:=by kernel_rfl
theorem wG:cJ (ac 8 16) 16=14:=by decide
theorem yy(w:World)(hT:Turning w):
  Calls prog 13 #[] w fun e w' =>e= .returned (.bool true)∧Below w.heap.size w w':=by
 have hm32:=fun w1:World=>cE (P:=prog) w1 22 5 32 32 underlying22 bM (by omega) (Int.le_refl _) (by omega);have e32:(32:Int).toNat=32:=rfl;rw[e32]at hm32;obtain⟨W,hW⟩: ∃W,w.alloc (.cells (A8 (ac 8 32)) 5)=W:=⟨_,rfl⟩;obtain⟨b0,hb,hz⟩:=new1 _ _ _ _ hW;have k0:=b0.rd8 32 (by rw[ah];omega) (by rw[ah];unfold maxLen;omega);rw[List.take_of_length_le (by rw[ah];omega),ah]at k0;have K0:=hid k0;have T0:=hid (hT.below hb);have B0:=hid hb;have hbt:=Iz (some ⟨w.heap.size,0,none⟩) 32;have hnm:=yx (some ⟨w.heap.size,0,none⟩) 32 16 (.int .u64 0) (.string ⟨#[]⟩) (ac 8 32) W T0.out K0.out (.inl rfl);have NM:=hid hnm;clear b0 hb hz k0 hT hnm e32;go_enter func13,ntmps13;go_wp2_with fail;refine NM.out.mono ?_;rintro e w1 ⟨h,p,rfl,hn,d1⟩;have hne:=wF h p 16 (ac 8 32) [97#8] 1#64 w1 hn (by rw[ah]) (.inl rfl) (by decide);obtain⟨X,hX⟩: ∃X,X=enc (encA (ac 8 32) (le64 1#64) (cX [97#8] 16)):=⟨_,rfl⟩;have hXl:X.length=22:=by
  rw[hX,BH,kM _ _ _ (by rw[ct _ _ (.inl rfl) (by decide)];decide),ct _ _ (.inl rfl) (by decide)];rfl
 rw[←hX]at hne;have NE:=hid hne;have T1:=hid (T0.out.below d1);have B1:=hid (B0.out.trans (d1.mono B0.out.size));have hss:(str X).size=22:=by rw[ee,hXl]
 clear hm32 hbt hn d1 hne hX hXl hW;go_wp2_with fail;refine NE.out.mono ?_;rintro e w2 ⟨rfl,d2⟩;have B2:=hid (B1.out.trans (d2.mono B1.out.size));have hm16:=fun w1:World=>cE (P:=prog) w1 22 5 16 16 underlying22 bM (by omega) (Int.le_refl _) (by omega);have e16:(16:Int).toNat=16:=rfl;rw[e16]at hm16;obtain⟨W3,hW3⟩: ∃W,w2.alloc (.cells (A8 (ac 8 16)) 5)=W:=⟨_,rfl⟩;obtain⟨b3,hb3,hz3⟩:=new1 _ _ _ _ hW3;have k3:=b3.rd8 16 (by rw[ah];omega) (by rw[ah];unfold maxLen;omega);rw[List.take_of_length_le (by rw[ah];omega),ah]at k3;have hpl:=tC (ac 8 16) 16 (some ⟨w2.heap.size,0,none⟩) 16 16 W3 k3 (by omega);rw[wG,show db (ac 8 16) 16=[] from by decide]at hpl;have PL:=hid hpl;have B3:=hid (B2.out.trans (hb3.mono B2.out.size));clear d2 b3 hb3 hz3 k3 hpl e16;go_wp2_with fail;refine PL.out.mono ?_;rintro e w4 ⟨rfl,d4⟩;have B4:=hid (B3.out.trans (d4.mono B3.out.size));have hpd:=iU [97#8] 16 w4 (by decide);have PD:=hid hpd;clear d4 hpd hm16 hW3;go_wp2_with fail;refine PD.out.mono ?_;rintro e w5 ⟨v5,rfl,_,h5,d5⟩;have o5:=h5 (by decide);obtain⟨a5,c5,rfl,_,_⟩:=o5.rd;rw[show(cX [97#8] (16:Int).toNat).length=16 from by decide,show padE [97#8] 16=0 from by decide];have B5:=hid (B4.out.trans (d5.mono B4.out.size));clear h5 o5 d5;go_wp2;go_ret;exact⟨rfl,B5.out⟩
end Go.Proofs.YtddkbkbpogcffaaGreatDoor
