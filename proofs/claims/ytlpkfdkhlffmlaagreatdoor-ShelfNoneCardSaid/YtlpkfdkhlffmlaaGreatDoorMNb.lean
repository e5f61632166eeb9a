/-wide's Cipher over adiantum:New,Encipher;name's New-/
import Derived.Test.YtlpkfdkhlffmlaaGreatDoorMNa
import Derived.Test.YtlpkfdkhlffmlaaGreatDoorMHi
import Derived.Test.YtlpkfdkhlffmlaaGreatDoorMHm
import Derived.Test.YtlpkfdkhlffmlaaGreatDoorMGw
import Derived.Test.YtlpkfdkhlffmlaaGreatDoorMNc
import Derived.Test.YtlpkfdkhlffmlaaGreatDoorMHj
namespace Go.Proofs.YtlpkfdkhlffmlaaGreatDoor
open Go.Proofs.Tryz
open Lib (hid)
set_option linter.unusedSimpArgs false
set_option linter.unusedVariables false
set_option maxRecDepth 100000
set_option maxHeartbeats 1600000
open Go.RowKit
theorem pY(p:Nat)(key:Y8)(a:Option Addr)(c:Nat)(w:World)(hT:TabAt w p)(hr:Rd8 w a 32 c key):
  Calls prog 19 #[.pointer (some ⟨p,0,none⟩),.int .i64 1,.slice a 32 c] w fun e w' => ∃q,e= .returned (.tuple #[.iface 112 (.pointer (some ⟨q,0,none⟩)),.int .i64 0])∧AcAt w' q p key∧Below w.heap.size w w':=by
 have T0:=hid hT;have R0:=hid hr;clear hT hr;go_enter func19,ntmps19;go_wp2_with fail;refine(ww p key a c w T0.out R0.out).mono ?_;rintro e w1 ⟨q,rfl,h1,h2,d1⟩;have A1:=hid h1;have D1:=hid d1;clear h1 h2 d1;go_wp2;go_ret2;exact⟨q,rfl,A1.out,D1.out⟩
def WC(q:Nat):Array Value:= #[.int .i64 1,.iface 112 (.pointer (some ⟨q,0,none⟩))]
def NC(g:Nat)(p:Int):Array Value:= #[.pointer (some ⟨g,0,none⟩),.int .i64 p]
def WcAt(w:World)(g p:Nat)(key:Y8):Prop:= ∃q,Blk w g 68 (WC q)∧AcAt w q p key
theorem AcAt.belowW {w w':World} {q p:Nat} {key:Y8}(h:AcAt w q p key)(hb:Below w.heap.size w w'):AcAt w' q p key:=by
 obtain⟨kk,ks,h1,h2,h3⟩:=h;exact⟨kk,ks,h1.belowAll hb,h2.below hb,h3.below hb⟩
theorem WcAt.below {w w':World} {g p:Nat} {key:Y8}(h:WcAt w g p key)(hb:Below w.heap.size w w'):WcAt w' g p key:=by
 obtain⟨q,h1,h2⟩:=h;exact⟨q,h1.belowAll hb,h2.belowW hb⟩
theorem xS(q:Nat)(w:World):(iM 68 (.int .i64 1) (.iface 112 (.pointer (some ⟨q,0,none⟩)))).run prog w= .ok (.agg (WC q)) w:=by kernel_rfl
theorem xT(g:Nat)(p:Int)(w:World):(iM 111 (.pointer (some ⟨g,0,none⟩)) (.int .i64 p)).run prog w= .ok (.agg (NC g p)) w:=by kernel_rfl
theorem kj(p:Nat)(key:Y8)(a:Option Addr)(c:Nat)(w:World)(hT:TabAt w p)(hr:Rd8 w a 32 c key):
  Calls prog 5 #[.pointer (some ⟨p,0,none⟩),.int .i64 1,.slice a 32 c] w fun e w' => ∃g,e= .returned (.tuple #[.pointer (some ⟨g,0,none⟩),.int .i64 0])∧WcAt w' g p key∧Below w.heap.size w w':=by
 have T0:=hid hT;have R0:=hid hr;clear hT hr;go_enter func5,ntmps5;go_wp2_with fail;refine(pY p key a c w T0.out R0.out).mono ?_;rintro e w1 ⟨q,rfl,h1,d1⟩;have A1:=hid h1;have D1:=hid d1;have hbd:=xS q;have hsz:(WC q).size=2:=rfl;have A2:=hid (h1.belowW ((Below.refl w1.heap.size w1).alloc (Nat.le_refl _) (.cells (WC q) 68)));have D2:=hid (d1.alloc d1.size (.cells (WC q) 68));have N2:=hid (Blk.new w1 68 (WC q));clear h1 d1;go_wp2;go_ret2;exact⟨_,rfl,⟨q,N2.out,A2.out⟩,D2.out⟩
theorem pZ(p:Int)(w:World):
  Calls prog 18 #[.pointer none,.int .i64 p] w fun e w' =>e= .returned (.tuple #[.pointer none,.int .i64 2])∧w=w':=by
 go_enter func18,ntmps18;go_wp2;go_ret2;exact⟨rfl,rfl⟩
theorem km(g:Nat)(p:Int)(w:World):
  Calls prog 18 #[.pointer (some ⟨g,0,none⟩),.int .i64 p] w fun e w' => ∃v,e= .returned (.tuple #[v,.int .i64 (aU p)])∧(aU p≠0→v= .pointer none)∧(aU p=0→ ∃h,v= .pointer (some ⟨h,0,none⟩)∧Blk w' h 111 (NC g p))∧Below w.heap.size w w':=by
 have hk:=me p w;obtain⟨K,hK⟩: ∃K,K=aU p:=⟨_,rfl⟩;rw[←hK]at hk⊢;have HK:=hid hk;clear hk hK;go_enter func18,ntmps18;go_wp2_with fail;refine HK.out.mono ?_;rintro e w1 ⟨rfl,rfl⟩;by_cases hk0:K=0
 ·subst hk0;have hbd:=xT g p;have hsz:(NC g p).size=2:=rfl;have D2:=hid ((Below.refl w.heap.size w).alloc (Nat.le_refl _) (.cells (NC g p) 111));have N2:=hid (Blk.new w 111 (NC g p));go_wp2;go_ret2;exact⟨_,rfl,⟨_,rfl,N2.out⟩,D2.out⟩
 ·have hk1:(K==0)=false:=by simpa using hk0
  have hk2:(K !=0)=true:=by simp[hk0]
  go_wp2;go_ret2;exact⟨_,rfl,fun _=>rfl,fun h=>absurd h hk0,Below.refl _ _⟩
theorem ko(g p:Nat)(key T M:Y8)(a b:Option Addr)(n c len d:Nat)(w:World)(hA:WcAt w g p key)(hkl:key.length=32)(ht:Rd8 w a n c T)(hM:Rd8 w b len d M)(h16:16≤len)(hlen:len≤520):
  Calls prog 91 #[.pointer (some ⟨g,0,none⟩),.slice a n c,.slice b len d] w fun e w' => ∃v,e= .returned (.tuple #[v,.int .i64 0])∧Own8 w' w.heap.size 5 v (encA key T M)∧Below w.heap.size w w':=by
 obtain⟨q,hg,hq⟩:=hA;have c0:w.cell? ⟨g,0,none⟩=some (.int .i64 1):=by rw[hg.cell];rfl
 have c1:w.cell? ⟨g,1,none⟩=some (.iface 112 (.pointer (some ⟨q,0,none⟩))):=by rw[hg.cell];rfl
 have e1: ¬(len:Int)<16:=by omega
 have hae:=wA q p key T M a b n c len d w hq hkl ht hM h16 hlen;have AE:=hid hae;have hle:Calls prog 120 #[.pointer (some ⟨g,0,none⟩)] w fun e w' =>e= .returned (.int .i64 16)∧w=w':=by
  clear hae AE hq ht hM hg;go_enter func120,ntmps120;go_wp2;go_ret;exact⟨rfl,rfl⟩
 have LE:=hid hle;have htu:Calls prog 78 #[.pointer (some ⟨g,0,none⟩),.slice a n c,.slice b len d,.bool false] w fun e w' => ∃v,e= .returned (.tuple #[v,.int .i64 0])∧Own8 w' w.heap.size 5 v (encA key T M)∧Below w.heap.size w w':=by
  clear hae hle hq ht hM hg;go_enter func78,ntmps78;go_wp2_with fail;refine LE.out.mono ?_;rintro e w1 ⟨rfl,rfl⟩;go_wp2_with fail;refine AE.out.mono ?_;rintro e w2 ⟨v2,rfl,o2,d2⟩;have O2:=hid o2;have D2:=hid d2;clear o2 d2;go_wp2;go_ret2;exact⟨_,rfl,O2.out,D2.out⟩
 have TU:=hid htu;clear hae hle htu hq ht hM hg c0 c1;go_enter func91,ntmps91;go_wp2_with fail;refine TU.out.mono ?_;rintro e w2 ⟨v2,rfl,o2,d2⟩;have O2:=hid o2;have D2:=hid d2;clear o2 d2;go_wp2;go_ret2;exact⟨_,rfl,O2.out,D2.out⟩
open Go.RowKit
def NmAt(w:World)(h p:Nat)(key:Y8)(pad:Int):Prop:= ∃g,Blk w h 111 (NC g pad)∧WcAt w g p key
theorem NmAt.below {w w':World} {h p:Nat} {key:Y8} {pad:Int}(k:NmAt w h p key pad)(hb:Below w.heap.size w w'):NmAt w' h p key pad:=by
 obtain⟨g,h1,h2⟩:=k;exact⟨g,h1.belowAll hb,h2.below hb⟩
theorem qa(g p:Nat)(key M:Y8)(x:BitVec 64)(b:Option Addr)(len d:Nat)(w:World)(hA:WcAt w g p key)(hkl:key.length=32)(hM:Rd8 w b len d M)(h16:16≤len)(hlen:len≤520):
  Calls prog 55 #[.func (.func 91) #[.pointer (some ⟨g,0,none⟩)] #[],v64 x,.slice b len d] w fun e w' => ∃v,e= .returned (.tuple #[v,.int .i64 0])∧Own8 w' w.heap.size 5 v (encA key (le64 x) M)∧Below w.heap.size w w':=by
 have A0:=hid hA;have M0:=hid hM;clear hA hM;go_enter func55,ntmps55;go_wp2_with fail;refine(aw x w).mono ?_;rintro e w1 ⟨rfl,d1⟩;obtain⟨L,hL⟩: ∃L,L=le64 x:=⟨_,rfl⟩;have hLl:L.length=8:=by rw[hL];rfl
 rw[←hL];have HL:=hid hL;clear hL;have q1:=(Blk.new w1 171 (A8 (aa 8 8))).row;have q3:=(Blk.new w1 171 (A8 (aa 8 8))).whole;obtain⟨w2,hw2⟩: ∃z,w1.alloc (.cells (A8 L) 171)=z:=⟨_,rfl⟩;obtain⟨n2,d2,z2⟩:=new1 _ _ _ _ hw2;obtain⟨g1,hg1⟩: ∃z,w1.heap.size=z:=⟨_,rfl⟩;have d12:=d1.trans (d2.mono d1.size);have n4:=n2.rd8 8 (by omega) (by rw[hLl];unfold maxLen;omega);rw[List.take_of_length_le (by omega),hLl]at n4;rw[hg1]at n4;have A2:=hid (A0.out.below d12);have M2:=hid (M0.out.below d12);have L2:=hid n4;have D2:=hid d12;have HG:=hid hg1;clear d1 n2 d2 z2 d12 n4 A0 M0;go_wp2_with fail;have hwe:=ko g p key L M (some ⟨g1,0,none⟩) b 8 8 len d w2 A2.out hkl L2.out M2.out h16 hlen;have WE:=hid hwe;clear hwe q1 q3;refine WE.out.mono ?_;rintro e w3 ⟨v3,rfl,o3,d3⟩;rw[HL.out]at o3;have O3:=hid (o3.base D2.out.size);have D3:=hid (D2.out.trans (d3.mono D2.out.size));clear o3 d3;go_wp2;go_ret2;exact⟨_,rfl,O3.out,D3.out⟩
theorem oG(h p q:Nat)(key l:Y8)(x:BitVec 64)(w:World)(hN:NmAt w h p key (q:Int))(hkl:key.length=32)(hq:gg q)(hl:aH l):
  Calls prog 62 #[.pointer (some ⟨h,0,none⟩),v64 x,.string (str l)] w fun e w' =>e= .returned (.tuple #[.string (str (enc (encA key (le64 x) (cp l q)))),.int .i64 0])∧Below w.heap.size w w':=by
 obtain⟨g,hb,hw⟩:=hN;have c0:w.cell? ⟨h,0,none⟩=some (.pointer (some ⟨g,0,none⟩)):=by rw[hb.cell];rfl
 have c1:w.cell? ⟨h,1,none⟩=some (.int .i64 (q:Int)):=by rw[hb.cell];rfl
 have hpd:=pW l (q:Int) w (by have:=hl.2.1;omega);have hE:padE l (q:Int)=0:=by
  have hk:aU (q:Int)=0:=by unfold aU gg at*;rw[if_pos (by omega)]
  rw[padE,hk,if_neg (by simp),im,if_pos hl]
 rw[hE,Int.toNat_natCast]at hpd;have hml:=dD l q hq hl.2.1;have hm16:16≤bV l.length q∧bV l.length q≤255:=by
  have:=hl.1;unfold bV;rcases hq with rfl|rfl|rfl<;>omega
 obtain⟨M,hM⟩: ∃M,M=cp l q:=⟨_,rfl⟩;obtain⟨m,hm⟩: ∃m,m=bV l.length q:=⟨_,rfl⟩;rw[←hM]at hpd hml⊢;rw[←hm]at hml hm16;have PD:=hid hpd;have B0:=hid hb;have W0:=hid hw;clear hb hw hpd hE hM hm;go_enter func62,ntmps62;go_wp2_with fail;refine PD.out.mono ?_;rintro e w1 ⟨v1,rfl,_,ho,d1⟩;have o1:=ho trivial;obtain⟨a1,s1,rfl,r1,_⟩:=o1.rd;rw[hml]at r1⊢;have c2:w1.cell? ⟨h,0,none⟩=some (.pointer (some ⟨g,0,none⟩)):=by rw[(B0.out.belowAll d1).cell];rfl
 have hnt:=qa g p key M x a1 m s1 w1 (W0.out.below d1) hkl r1 hm16.1 (by omega);have NT:=hid hnt;have D1:=hid d1;clear ho o1 r1 d1 hnt c0 c1;go_wp2_with fail;refine NT.out.mono ?_;rintro e w2 ⟨v2,rfl,o2,d2⟩;obtain⟨E,hEq⟩: ∃E,E=encA key (le64 x) M:=⟨_,rfl⟩;have hEl:E.length=m:=by rw[hEq,fY _ _ _ (by omega),hml]
 rw[←hEq]at o2;obtain⟨a2,s2,rfl,r2,_⟩:=o2.rd;rw[hEl]at r2⊢;have hsx:=mC E a2 m s2 w2 r2 (by omega);have SX:=hid hsx;have HE:=hid hEq;have D2:=hid (D1.out.trans (d2.mono D1.out.size));clear o2 r2 d2 hsx hEq c2;go_wp2_with fail;refine SX.out.mono ?_;rintro e w3 ⟨rfl,d3⟩;have D3:=hid (D2.out.trans (d3.mono D2.out.size));clear d3;go_wp2;go_ret2;rw[←HE.out];exact⟨rfl,D3.out⟩
end Go.Proofs.YtlpkfdkhlffmlaaGreatDoor
