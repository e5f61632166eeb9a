/-shelf:New-/
import Derived.Test.YtlpkfdkhlffmlaaGreatDoorMRg
import Derived.Test.YtlpkfdkhlffmlaaGreatDoorMHm
import Derived.Test.YtlpkfdkhlffmlaaGreatDoorMHj
import Derived.Test.YtlpkfdkhlffmlaaGreatDoorMNb
import Derived.Test.YtlpkfdkhlffmlaaGreatDoorMSixP
import Derived.Test.YtlpkfdkhlffmlaaGreatDoorMGe
import Derived.Test.YtlpkfdkhlffmlaaGreatDoorMHd
import Derived.Test.YtlpkfdkhlffmlaaGreatDoorMNa
import Derived.Test.YtlpkfdkhlffmlaaGreatDoorMRe
namespace Go.Proofs.YtlpkfdkhlffmlaaGreatDoor
open Go.Proofs.Tryz
open Lib (hid)
set_option linter.unusedSimpArgs false
set_option linter.unusedVariables false
set_option maxRecDepth 100000
set_option maxHeartbeats 1600000
open Go.RowKit
theorem oJ(w:World):(Instr.makeMap 60 none).run prog w= .ok (.map (some w.heap.size)) (w.alloc (.map #[] 0)):=by
 simp[Instr.makeMap,newObj,Sem.run]
theorem yg(g h r:Nat)(w:World):(iq 62 (.pointer (some ⟨g,0,none⟩)) (.pointer (some ⟨h,0,none⟩)) (.map (some r)) (.int .i64 1)).run prog w= .ok (.agg #[.pointer (some ⟨g,0,none⟩),.pointer (some ⟨h,0,none⟩),.map (some r),.int .i64 1]) w:=by kernel_rfl
theorem MapAt.new(w:World):MapAt (w.alloc (.map #[] 0)) w.heap.size []:=⟨0,heap_alloc_new w _⟩
theorem ve(p:Int)(w:World):Calls prog 4 #[.pointer none,.int .i64 p] w fun e w' =>e= .returned (.tuple #[.pointer none,.int .i64 2])∧w=w':=by
 go_enter func4,ntmps4;go_wp2_with fail;refine(pZ p w).mono ?_;rintro e w1 ⟨rfl,rfl⟩;go_wp2;go_ret2;exact⟨rfl,rfl⟩
theorem vf(g:Nat)(p:Int)(w:World)(hp:aU p≠0):Calls prog 4 #[.pointer (some ⟨g,0,none⟩),.int .i64 p] w fun e w' =>e= .returned (.tuple #[.pointer none,.int .i64 (aU p)])∧Below w.heap.size w w':=by
 have NN:=hid (km g p w);obtain⟨k,hk⟩: ∃k,aU p=k:=⟨_,rfl⟩;rw[hk]at NN hp⊢;have e1:(k !=0)=true:=by simpa using hp
 clear hk;go_enter func4,ntmps4;go_wp2_with fail;refine NN.out.mono ?_;rintro e w1 ⟨v,rfl,h1,_,d1⟩;obtain rfl:=h1 hp;clear NN h1 hp;go_wp2;go_ret2;exact⟨rfl,d1⟩
theorem nB(g:Nat)(p:Int)(w:World)(hp:aU p=0):Calls prog 4 #[.pointer (some ⟨g,0,none⟩),.int .i64 p] w fun e w' => ∃w0 s h r f b,e= .returned (.tuple #[.pointer (some ⟨s,0,none⟩),.int .i64 0])∧Below w.heap.size w w0∧Blk w0 h 111 (NC g p)∧w0.heap.size≤s∧w0.heap.size≤r∧w0.heap.size≤f∧SfAt w' s g h r 1 [(1,f,b)]∧Blk w' f 59 (FoC 0 (.slice none 0 0))∧Below w0.heap.size w0 w':=by
 have NN:=km g p w;rw[hp]at NN;have NNH:=hid NN;clear NN hp;go_enter func4,ntmps4;go_wp2_with fail;refine NNH.out.mono ?_;rintro e w1 ⟨v,rfl,_,h1,d1⟩;obtain⟨h,rfl,hb⟩:=h1 trivial;have hmk:=oJ w1;obtain⟨r,hr⟩: ∃r,w1.heap.size=r:=⟨_,rfl⟩;have m1:=MapAt.new w1;obtain⟨w2,hw2⟩: ∃z,w1.alloc (.map #[] 0)=z:=⟨_,rfl⟩;have d2:Below w1.heap.size w1 w2:=by rw[←hw2];exact(Below.refl _ _).alloc (Nat.le_refl _) _
 have hs2:w2.heap.size=r+1:=by rw[←hw2,←hr];simp
 rw[hw2,hr]at m1;obtain⟨w3,hw3⟩: ∃z,w2.alloc (.cells #[.int .i64 0,.slice none 0 0] 59)=z:=⟨_,rfl⟩;obtain⟨b3,d3,z3⟩:=new1 _ _ _ _ hw3;rw[hs2]at b3;obtain⟨w4,b,hu,m4,g4,s4⟩:=kv w3 r [] 1 (r+1) (m1.below d3) rfl;have b4:=b3.grown g4 (by simp);obtain⟨w5,hw5⟩: ∃z,w4.alloc (.cells #[.pointer (some ⟨g,0,none⟩),.pointer (some ⟨h,0,none⟩),.map (some r),.int .i64 1] 62)=z:=⟨_,rfl⟩;obtain⟨b5,d5,z5⟩:=new1 _ _ _ _ hw5;have D1:=hid d1;have HB:=hid hb;have M5:=hid (m4.below d5);have B5:=hid (b4.belowAll d5);have S5:=hid b5;have d13:=d2.trans (d3.mono d2.size);have d14:=d13.grown g4 d13.size (fun k e=>by cases e;omega);have D5:=hid (d14.trans (d5.mono d14.size));have hw4s:w1.heap.size≤w4.heap.size:=d14.size;clear NNH h1 hb d1 m1 d2 b3 d3 z3 m4 g4 s4 b4 b5 d5 z5 d13 d14;have hbd:=yg g h r;go_wp2;go_ret2;exact⟨w1,_,h,r,r+1,b,rfl,D1.out,HB.out,hw4s,by omega,by omega,⟨S5.out,M5.out⟩,B5.out,D5.out⟩
open Go.RowKit
theorem qs(g p:Nat)(key T M:Y8)(a b:Option Addr)(n c len d:Nat)(w:World)(hA:WcAt w g p key)(hkl:key.length=32)(ht:Rd8 w a n c T)(hM:Rd8 w b len d M)(h16:16≤len)(hlen:len≤520):
  Calls prog 56 #[.pointer (some ⟨g,0,none⟩),.slice a n c,.slice b len d] w fun e w' => ∃v,e= .returned (.tuple #[v,.int .i64 0])∧Own8 w' w.heap.size 5 v (decA key T M)∧Below w.heap.size w w':=by
 obtain⟨q,hg,hq⟩:=hA;have c0:w.cell? ⟨g,0,none⟩=some (.int .i64 1):=by rw[hg.cell];rfl
 have c1:w.cell? ⟨g,1,none⟩=some (.iface 112 (.pointer (some ⟨q,0,none⟩))):=by rw[hg.cell];rfl
 have e1: ¬(len:Int)<16:=by omega
 have hae:=wB q p key T M a b n c len d w hq hkl ht hM h16 hlen;have AE:=hid hae;have hle:Calls prog 120 #[.pointer (some ⟨g,0,none⟩)] w fun e w' =>e= .returned (.int .i64 16)∧w=w':=by
  clear hae AE hq ht hM hg;go_enter func120,ntmps120;go_wp2;go_ret;exact⟨rfl,rfl⟩
 have LE:=hid hle;have htu:Calls prog 78 #[.pointer (some ⟨g,0,none⟩),.slice a n c,.slice b len d,.bool true] w fun e w' => ∃v,e= .returned (.tuple #[v,.int .i64 0])∧Own8 w' w.heap.size 5 v (decA key T M)∧Below w.heap.size w w':=by
  clear hae hle hq ht hM hg;go_enter func78,ntmps78;go_wp2_with fail;refine LE.out.mono ?_;rintro e w1 ⟨rfl,rfl⟩;go_wp2_with fail;refine AE.out.mono ?_;rintro e w2 ⟨v2,rfl,o2,d2⟩;have O2:=hid o2;have D2:=hid d2;clear o2 d2;go_wp2;go_ret2;exact⟨_,rfl,O2.out,D2.out⟩
 have TU:=hid htu;clear hae hle htu hq ht hM hg c0 c1;go_enter func56,ntmps56;go_wp2_with fail;refine TU.out.mono ?_;rintro e w2 ⟨v2,rfl,o2,d2⟩;have O2:=hid o2;have D2:=hid d2;clear o2 d2;go_wp2;go_ret2;exact⟨_,rfl,O2.out,D2.out⟩
def enT(key:Y8)(q:Nat)(x:BitVec 64)(l:Y8):Y8:=enc (encA key (le64 x) (cp l q))
theorem yh {w:World} {g p:Nat} {key:Y8}(h:WcAt w g p key)(hkl:key.length=32):CphT w g (encA key) (decA key):=by
 obtain⟨q,h1,h2⟩:=h;exact⟨⟨1,_,h1,by decide⟩,fun w1 T M a b n c len d hb ht _ hM h16 hl=>⟨ko g p key T M a b n c len d w1 (WcAt.below ⟨q,h1,h2⟩ hb) hkl ht hM h16 hl,qs g p key T M a b n c len d w1 (WcAt.below ⟨q,h1,h2⟩ hb) hkl ht hM h16 hl⟩⟩
theorem zQ {w:World} {h p q:Nat} {key:Y8}(k:NmAt w h p key (q:Int))(hkl:key.length=32)(hq:gg q):NmE w h (enT key q):=
 fun w1 x l hb hl=>oG h p q key l x w1 (k.below hb) hkl hq hl
def LfC(a:Option Addr)(c:Nat)(pad:Int):Array Value:= #[.int .i64 1,.slice a 32 c,.int .i64 pad,.slice none 0 0]
theorem mE(a:Option Addr)(c q:Nat)(key:Y8)(w:World)(hT:Turning w)(hr:Rd8 w a 32 c key)(hq:gg q):
  Calls prog 43 #[.agg (LfC a c (q:Int))] w fun e w' => ∃w0 s g h r f b,e= .returned (.pointer (some ⟨s,0,none⟩))∧Below w.heap.size w w0∧CphT w0 g (encA key) (decA key)∧NmE w0 h (enT key q)∧w0.heap.size≤s∧w0.heap.size≤r∧w0.heap.size≤f∧SfAt w' s g h r 1 [(1,f,b)]∧Blk w' f 59 (FoC 0 (.slice none 0 0))∧Below w0.heap.size w0 w':=by
 have hkl:=hr.1;obtain⟨T,hTT⟩: ∃T,T=LfC a c (q:Int):=⟨_,rfl⟩;rw[←hTT];have s0:T.size=4:=by rw[hTT];rfl
 obtain⟨W,hW⟩: ∃W,w.alloc (.cells T 107)=W:=⟨_,rfl⟩;obtain⟨b0,hb,hz⟩:=new1 _ _ _ _ hW;have t0:T[0]? =some (.int .i64 1):=by rw[hTT];rfl
 have t1:T[1]? =some (.slice a 32 c):=by rw[hTT];rfl
 have t2:T[2]? =some (.int .i64 (q:Int)):=by rw[hTT];rfl
 have P0:=hid b0;have B0:=hid hb;have T0:=hid (hT.below hb);have R0:=hid (hr.below hb);have C0_:=hid t0;have C1:=hid t1;have C2:=hid t2;clear b0 hb hz hT hr hTT t0 t1 t2;go_enter func43,ntmps43;go_upto_region 1 with fail
 try rw[hW]
 clear hW;refine an [2,2,0,5,0,5,2,0,0,0,0,0] (by kernel_rfl) (by kernel_rfl) (fun C0 hC0 hCb K' hK' => ?_);have Q1: ∀w1,C0 w1→w1.cell? ⟨w.heap.size,0,none⟩=some (.int .i64 1):=fun w1 hw=>by rw[(P0.out.drew.belowAll (hCb w1 hw)).cell];exact C0_.out
 have Q2: ∀w1,C0 w1→w1.cell? ⟨w.heap.size,1,none⟩=some (.slice a 32 c):=fun w1 hw=>by rw[(P0.out.drew.belowAll (hCb w1 hw)).cell];exact C1.out
 refine hqc ?_;go_simp;refine ae ?_;refine(kU W.drew).mono ?_;rintro e w1 ⟨q1,rfl,hqy,_,d1⟩;refine⟨_,rfl,d1,?_⟩
 try simp only[Act.put,zz1,zz2,zz3]
 refine hqc ?_;go_simp;refine ae ?_;refine(sM q1 w1 ((show Turning W.drew from T0.out).below d1) hqy).mono ?_;rintro e w2 ⟨p,rfl,hp,_,d2⟩;refine⟨_,rfl,d2,?_⟩
 try simp only[Act.put,zz1,zz2,zz3]
 have ht:TabAt w2 p:=⟨q1,hp,hqy.belowAll d2⟩;have d12:=d1.trans (d2.mono d1.size)
 repeat (first|((with_reducible refine hq0 ?_);refine hq0a ?_)|((with_reducible refine hq5 ?_);refine hq5a ?_ (fun _ hcw=>by have f1:=Q1 _ hcw;have f2:=Q2 _ hcw;go_simp;(try go_bits);exact rfl))|((with_reducible refine hq1 ?_);refine hq1a ?_))
 refine hqc ?_;go_simp;refine ae ?_;refine(kj p key a c w2 ht (R0.out.drew.below d12)).mono ?_;rintro e w3 ⟨g,rfl,hw3,d3⟩;refine⟨_,rfl,d3,?_⟩
 try simp only[Act.put,zz1,zz2,zz3]
 repeat (first|((with_reducible refine hq0 ?_);refine hq0a ?_)|((with_reducible refine hq5 ?_);refine hq5a ?_)|((with_reducible refine hq1 ?_);refine hq1a ?_))
 refine bJ [] rfl (by simp) (ak (hK' _ _ ?_));have d13:=d12.trans (d3.mono d12.size);have W3:=hid hw3;have P3:=hid (P0.out.drew.belowAll d13);have B3:=hid (B0.out.drew.trans (d13.mono B0.out.drew.size));have hk:aU (q:Int)=0:=by unfold aU gg at*;rw[if_pos (by omega)]
 have NN:=hid (nB g (q:Int) w3 hk);have c2:w3.cell? ⟨w.heap.size,2,none⟩=some (.int .i64 (q:Int)):=by rw[P3.out.cell];exact C2.out
 clear Q1 Q2 hC0 hCb hK' hqy d1 hp d2 ht d12 hw3 d3 d13 hk P0 B0 T0 R0;go_wp2_with fail;refine NN.out.mono ?_;rintro e w4 ⟨w0,s,h,r,f,b,rfl,e1,e2,e3,e4,e5,e6,e7,e8⟩;have E1:=hid (B3.out.trans (e1.mono B3.out.size));have WA:=W3.out.below e1;have E2:=hid (yh WA hkl);have E3:=hid (zQ (h:=h) (q:=q) ⟨g,e2,WA⟩ hkl hq);have E6:=hid e6;have E7:=hid e7;have E8:=hid e8;clear e1 e2 e6 e7 e8 WA c2 NN;go_wp2;go_ret;exact⟨w0,s,g,h,r,f,b,rfl,E1.out,E2.out,E3.out,e3,e4,e5,E6.out,E7.out,E8.out⟩
open Go.RowKit
theorem yi(a:Option Addr)(c:Nat)(w:World):(iP 107 (.int .i64 1) (.slice a 32 c) (.int .i64 16)).run prog w= .ok (.agg (LfC a c 16)) w:=by kernel_rfl
theorem OwnE.keptF {w w':World} {B f:Nat} {v:Value} {cs:Array Value} {es:List (ByteArray×Int×Value)}(h:OwnE w B v es)(F:Blk w f 59 cs)(hg:w.grownBy w' (some f)):OwnE w' B v es:=by
 refine World.ownsRow.kept h hg ?_;rcases h.2 with⟨rfl,_⟩|⟨g,cap,cur,rfl,_,h4,_⟩
 ·exact .inl rfl
 ·refine .inr fun e=> ?_;simp only[Value.ownBlock,Option.some.injEq]at e;subst e;unfold Blk at F;rw[h4]at F;simp at F
theorem OwnE.base0 {w:World} {B:Nat} {v:Value} {es:List (ByteArray×Int×Value)}(h:OwnE w B v es):OwnE w 0 v es:=
 ⟨h.1,h.2.imp id fun⟨g,cap,cur,h3,_,h5⟩=>⟨g,cap,cur,h3,Nat.zero_le _,h5⟩⟩
theorem ji(f b f2 b2:Nat):getF [(1,f,b),(2,f2,b2)] 2=some f2:=rfl
theorem tz(key l:Y8)(x:BitVec 64)(hl:aH l):(enT key 16 x l).length≤390:=by
 have h2:(cp l 16).length≤255∧16≤(cp l 16).length:=by
  rw[dD _ _ (.inl rfl) hl.2.1];have:=hl.1;unfold bV;omega
 unfold enT;rw[mp,fY _ _ _ h2.2]
 split<;>omega
theorem yj(key l m:Y8)(x:BitVec 64)(hl:aH l)(hm:aH m)(h:enT key 16 x l=enT key 16 x m):l=m:=by
 have e1:=ym h;have h2: ∀t,aH t→16≤(cp t 16).length:=fun t ht=>by
  rw[dD _ _ (.inl rfl) ht.2.1];have:=ht.1;unfold bV;omega
 have e2:=congrArg (decA key (le64 x)) e1;rw[lR _ _ _ (h2 l hl),lR _ _ _ (h2 m hm)]at e2;exact uN l m 16 hl hm e2
theorem kA(w:World)(hT:Turning w):
  Calls prog 17 #[] w fun e w' =>e= .returned (.bool true)∧Below w.heap.size w w':=by
 have hm32:=fun w1:World=>bZ (P:=prog) w1 22 5 32 32 underlying22 bQ (by omega) (Int.le_refl _) (by omega);have e32:(32:Int).toNat=32:=rfl;rw[e32]at hm32;obtain⟨W,hW⟩: ∃W,w.alloc (.cells (A8 (aa 8 32)) 5)=W:=⟨_,rfl⟩;obtain⟨b0,hb,hz⟩:=new1 _ _ _ _ hW;have k0:=b0.rd8 32 (by rw[af];omega) (by rw[af];unfold maxLen;omega);rw[List.take_of_length_le (by rw[af];omega),af]at k0;have B0:=hid hb;have hbt:=yi (some ⟨w.heap.size,0,none⟩) 32;have NM:=hid (mE (some ⟨w.heap.size,0,none⟩) 32 16 (aa 8 32) W (hT.below hb) k0 (.inl rfl));clear b0 hb hz k0 hT e32;go_enter func17,ntmps17;go_wp2_with fail;refine NM.out.mono ?_;rintro e w1 ⟨w0,s,g,h,r,f,b,rfl,d01,hC,hN,hs0,hr0,hf0,S1,F1,d1⟩;clear NM hbt hm32 hW;have r97:aH [97#8]:=by decide
 have r98:aH [98#8]:=by decide
 have r99:aH [99#8]:=by decide
 have hla:=tz (aa 8 32) [97#8] (BitVec.ofInt 64 1) r97;have hlb:=tz (aa 8 32) [98#8] (BitVec.ofInt 64 2) r98;have hbc:enT (aa 8 32) 16 (BitVec.ofInt 64 2) [98#8]≠enT (aa 8 32) 16 (BitVec.ofInt 64 2) [99#8]:=fun e=>absurd (yj _ _ _ _ r98 r99 e) (by decide);have hde:=fun tw=>lR (aa 8 32) tw ([7#8]++aa 8 16) (by decide);have hel:=fun tw=>fY (aa 8 32) tw ([7#8]++aa 8 16) (by decide);generalize enT (aa 8 32) 16=en at hN hla hlb hbc;generalize encA (aa 8 32)=E at hC hde hel;generalize decA (aa 8 32)=D at hC hde;obtain⟨Ta,hTa⟩: ∃T,en (BitVec.ofInt 64 1) [97#8]=T:=⟨_,rfl⟩;obtain⟨Tb,hTb⟩: ∃T,en (BitVec.ofInt 64 2) [98#8]=T:=⟨_,rfl⟩;obtain⟨Tc,hTc⟩: ∃T,en (BitVec.ofInt 64 2) [99#8]=T:=⟨_,rfl⟩;rw[hTb]at hlb hbc;rw[hTc]at hbc;have MK:=hid (uX s g h r f 1 1 0 [(1,f,b)] en [97#8] Ta w0 w1 d1 hN S1 rfl F1 r97 hTa (by omega) rfl hs0 hr0 hf0);have D0:=hid (B0.out.trans (d01.mono B0.out.size));have hfl:=F1.lt;have HC:=hid hC;have HN:=hid hN;have HTa:=hid hTa;have HTb:=hid hTb;have HTc:=hid hTc;have HBC:=hid hbc;have HDE:=hid hde;have HEL:=hid hel;clear hla hTa hTb hTc hbc hde hel hC hN S1 F1 d1 d01 B0;go_wp2_with fail;refine MK.out.mono ?_;rintro e w2 ⟨rfl,v1,b2,f2,S2,F2,F1,O1,hf2,d2⟩;rw[show(((1+1:Nat):Int))=2 from rfl]at S2 O1⊢;obtain⟨a1,c1,rfl,_⟩:=O1.form;have hff:f≠f2:=by omega
 have hf20:w0.heap.size≤f2:=by omega
 obtain⟨Z,hZ⟩: ∃Z,E (encV 16 (le64 (BitVec.ofInt 64 2)) [Tb]) ([7#8]++aa 8 16)=Z:=⟨_,rfl⟩;have hZl:Z.length=17:=by rw[←hZ,HEL.out];rfl
 have hX:D (encV 16 (le64 (BitVec.ofInt 64 2)) [Tb]) Z=[7#8]++aa 8 16:=by rw[←hZ,HDE.out]
 have HX:=hid hX;have HZ:=hid hZ;have HZL:=hid hZl;have S2h:=hid S2;have F2h:=hid F2;have F1h:=hid F1;have O1h:=hid O1;have D2:=hid d2;clear MK hX hZ hZl S2 F2 F1 O1 d2 HEL HDE;go_upto_region 3 with fail;refine aq [0,2,2,0] rfl (fun ops' K2 hK2=> ?_)
 repeat (first|((with_reducible refine zq0 ?_);refine zq0a ?_)|((with_reducible refine zq1 ?_);refine zq1a ?_))
 refine ga (x:=7#8) rfl underlying22 bQ (fun w3 g3 r3 d3=> ?_);simp only[Act.put,zz1,zz2,zz3];have d23:=D2.out.trans (d3.mono D2.out.size)
 (with_reducible refine aM rfl ?_)
 go_simp;refine ae ?_;refine(uY s g h r f2 1 1 2 2 1 [(1,f,b),(2,f2,b2)] en E D [98#8] Tb [7#8] (some ⟨g3,0,none⟩) w0 w3 d23 HN.out HC.out (S2h.out.below d3) (ji _ _ _ _) (F2h.out.belowAll d3) r98 HTb.out hlb r3 (by omega) hf20 Z HZ.out).mono ?_;rintro e w4 ⟨rfl,v4,aS,cS,S4,F4,O4,R4,G4,d4⟩;refine⟨_,rfl,?_⟩
 try simp only[Act.put,zz1,zz2,zz3]
 repeat (first|((with_reducible refine zq0 ?_);refine zq0a ?_)|((with_reducible refine zq1 ?_);refine zq1a ?_))
 refine ak (hK2 _ _ ?_);rw[HZL.out]at O4 R4;obtain⟨a4,c4,rfl,_⟩:=O4.form;have F14:=hid ((F1h.out.belowAll d3).grown G4 (by simpa using hff));have O14:=hid ((O1h.out.below d3).keptF (F2h.out.belowAll d3) G4);have S4h:=hid S4;have F4h:=hid F4;have O4h:=hid O4;have D4:=hid d4;have GT:=hid (vc s g h r f2 w3.heap.size 17 cS c4 1 2 2 1 [(1,f,b),(2,f2,b2)] en E D [98#8] Tb Z ([7#8]++aa 8 16) aS a4 w0 w4 d4 HN.out S4 (ji _ _ _ _) (HC.out.below d4) hlb F4 O4 r98 HTb.out R4 (by omega) (by omega) HX.out rfl rfl rfl);clear hK2 S2h F2h F1h O1h D2 d3 d23 r3 S4 F4 O4 R4 G4 d4 HX;go_wp2_with fail;refine GT.out.mono ?_;rintro e w5 ⟨q,rfl,r5,d5⟩;obtain⟨bq,oq,rfl,_,hc5⟩:=r5.2.2.2 (by omega);have c5:w5.cell? ⟨bq,oq,none⟩=some (v8 7#8):=hc5 0 (by omega);have D5:=hid (D4.out.trans (d5.mono D4.out.size));have S5:=hid (S4h.out.below d5);have F15:=hid (F14.out.belowAll d5);have O15:=hid (O14.out.below d5);have F5:=hid (F4h.out.belowAll d5);have O5:=hid (O4h.out.below d5);clear GT r5 d5 hc5 S4h F14 O14 F4h O4h D4;go_wp2_with fail;refine(wV s g h r f f2 0 c1 c4 2 1 2 0 1 [(1,f,b),(2,f2,b2)] en [97#8] [99#8] Ta Tb Tc a1 a4 (.slice aS 17 cS) w0 w5 D5.out HN.out S5.out rfl (ji _ _ _ _) (by decide) F15.out O15.out.base0 F5.out O5.out.base0 r97 HTa.out r99 HTc.out HBC.out).mono ?_;rintro e w6 ⟨rfl,d6⟩;have D6:=hid (D5.out.trans (d6.mono D5.out.size));have RM:=hid (sC s g h r f f2 0 c1 1 c4 2 1 2 0 1 [(1,f,b),(2,f2,b2)] en [97#8] Ta a1 a4 w0 w6 D6.out HN.out (S5.out.below d6) rfl (ji _ _ _ _) (by decide) (F15.out.belowAll d6) (O15.out.base0.below d6) (F5.out.belowAll d6) (by omega) r97 HTa.out)
 clear d6 D5 S5 F15 O15 F5 O5 c5;go_wp2_with fail;refine RM.out.mono ?_;rintro e w7 ⟨rfl,d7⟩;have D7:=hid (D0.out.trans ((D6.out.trans (d7.mono D6.out.size)).mono D0.out.size));clear RM d7 D6;go_wp2;go_ret;exact⟨rfl,D7.out⟩
open Go.RowKit
theorem oK(p:Int)(w:World):
  Calls prog 8 #[.int .i64 p] w fun e w' =>e= .returned (.bool (decide (aU p=0)))∧w=w':=by
 go_enter func8,ntmps8;by_cases h1:p=16
 ·subst h1;go_wp2;go_ret;exact⟨rfl,rfl⟩
 ·have k1:(p==16)=false:=by simpa using h1
  by_cases h2:p=32
  ·subst h2;go_wp2;go_ret;exact⟨rfl,rfl⟩
  ·have k2:(p==32)=false:=by simpa using h2
   by_cases h3:p=64
   ·subst h3;go_wp2;go_ret;exact⟨rfl,rfl⟩
   ·have k3:(p==64)=false:=by simpa using h3
    have e:decide (aU p=0)=false:=by rw[aU,if_neg (by omega)];rfl
    go_wp2;go_ret
    first|exact⟨rfl,rfl⟩|exact⟨by rw[e];rfl,rfl⟩
open Go.RowKit
def ActC(dd fo tt ap:Int)(nm nz:Y8)(a:Option Addr)(n c:Nat)(y:Value):Array Value:= #[.int .i64 dd,.int .i64 fo,.int .i64 tt,.int .i64 ap,.string (str nm),.string (str nz),.slice a n c,y]
structure SnS(w0 w:World)(g:Nat)(A:Array Value):Prop where
 blk:Blk w g 24 A
 tur:Turning w
 bel:Below w0.heap.size w0 w
theorem SnS.step {w0 w w':World} {g:Nat} {A:Array Value}(h:SnS w0 w g A)(d:Below w.heap.size w w'):SnS w0 w' g A:=⟨h.blk.belowAll d,h.tur.below d,h.bel.trans (d.mono h.bel.size)⟩
theorem SnS.cell {w0 w:World} {g:Nat} {A:Array Value}(h:SnS w0 w g A) {i:Nat} {v:Value}(hi:A[i]? =some v):w.cell? ⟨g,i,none⟩=some v:=by
 rw[h.blk.cell,hi]
theorem TabAt.belowAll {w w':World} {p:Nat}(h:TabAt w p)(hb:Below w.heap.size w w'):TabAt w' p:=h.below hb
def WcE(w:World)(g:Nat)(key:Y8):Prop:= ∃p,WcAt w g p key
theorem WcE.belowAll {w w':World} {g:Nat} {key:Y8}(h:WcE w g key)(hb:Below w.heap.size w w'):WcE w' g key:=by
 obtain⟨p,h⟩:=h;exact⟨p,h.below hb⟩
theorem wW {p:Int}(h:aU p≠0):aU p=4:=by
 unfold aU at*
 split
 ·rename_i h1;rw[if_pos h1]at h;exact absurd rfl h
 ·rfl
theorem newB(g:Nat)(p:Int)(w:World) {key:Y8}(_h:WcE w g key):
  (aU p=0→Calls prog 4 #[.pointer (some ⟨g,0,none⟩),.int .i64 p] w fun e w' => ∃s,e= .returned (.tuple #[.pointer (some ⟨s,0,none⟩),.int .i64 0])∧Below w.heap.size w w')∧
  (aU p≠0→Calls prog 4 #[.pointer (some ⟨g,0,none⟩),.int .i64 p] w fun e w' =>e= .returned (.tuple #[.pointer none,.int .i64 4])∧Below w.heap.size w w'):=by
 refine⟨fun h=>(nB g p w h).mono ?_,fun h=> ?_⟩
 ·rintro e w1 ⟨w0,s,_,_,_,_,rfl,d1,_,_,_,_,_,_,d2⟩;exact⟨s,rfl,d1.trans (d2.mono d1.size)⟩
 ·have:=vf g p w h;rw[wW h]at this;exact this
end Go.Proofs.YtlpkfdkhlffmlaaGreatDoor
