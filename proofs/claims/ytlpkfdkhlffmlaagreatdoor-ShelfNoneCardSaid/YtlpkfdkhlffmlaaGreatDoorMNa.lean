/-name:known,right,room-/
import Derived.Test.YtlpkfdkhlffmlaaGreatDoorMGa
import Derived.Test.YtlpkfdkhlffmlaaGreatDoorMPl
import Derived.Test.YtlpkfdkhlffmlaaGreatDoorMGs
import Derived.Lib.Bytealg
import Derived.Test.YtlpkfdkhlffmlaaGreatDoorMGt
import Derived.Test.YtlpkfdkhlffmlaaGreatDoorMGb
import Derived.Lib.BufferWrite
import Derived.WalkMore
namespace Go.Proofs.YtlpkfdkhlffmlaaGreatDoor
open Go.Proofs.Tryz
open Lib (hid)
set_option linter.unusedSimpArgs false
set_option linter.unusedVariables false
set_option maxRecDepth 100000
set_option maxHeartbeats 1600000
open Go.RowKit
def aU(p:Int):Int:=if p=16∨p=32∨p=64 then 0 else 4
theorem me(p:Int)(w:World):
  Calls prog 44 #[.int .i64 p] w fun e w' =>e= .returned (.int .i64 (aU p))∧w=w':=by
 go_enter func44,ntmps44;by_cases h1:p=16
 ·subst h1;go_wp2;go_ret;exact⟨rfl,rfl⟩
 ·have k1:(p==16)=false:=by simpa using h1
  by_cases h2:p=32
  ·subst h2;go_wp2;go_ret;exact⟨rfl,rfl⟩
  ·have k2:(p==32)=false:=by simpa using h2
   by_cases h3:p=64
   ·subst h3;go_wp2;go_ret;exact⟨rfl,rfl⟩
   ·have k3:(p==64)=false:=by simpa using h3
    have e:aU p=4:=by rw[aU,if_neg (by omega)]
    go_wp2;go_ret;exact⟨by rw[e];rfl,rfl⟩
theorem uF(n p:Nat)(w:World)(hn:n≤1000000)(hp:gg p):
  Calls prog 122 #[.int .i64 n,.int .i64 p] w fun e w' =>e= .returned (.int .i64 (bV n p:Nat))∧w=w':=by
 obtain⟨A,hA⟩: ∃A,A=n+p:=⟨_,rfl⟩;obtain⟨B,hB⟩: ∃B,B=n+p-1:=⟨_,rfl⟩;obtain⟨C,hC⟩: ∃C,C=B/p:=⟨_,rfl⟩;obtain⟨D,hD⟩: ∃D,D=C*p:=⟨_,rfl⟩;have hD2:bV n p=min D 255:=by rw[bV,hD,hC,hB]
 have hp0:1≤p∧p≤64:=by rcases hp with rfl|rfl|rfl<;>omega
 have hCB:C≤B:=by rw[hC];exact Nat.div_le_self _ _
 have hDB:D≤B:=by rw[hD,hC];exact Nat.div_mul_le_self _ _
 have e1:(n:Int)+(p:Int)=(A:Int):=by omega
 have e2:IntKind.i64.wrap (A:Int)=(A:Int):=by rw[IntKind.wrap_i64];omega
 have e3:(A:Int)-1=(B:Int):=by omega
 have e4:IntKind.i64.wrap (B:Int)=(B:Int):=by rw[IntKind.wrap_i64];omega
 have e5:(B:Int)/(p:Int)=(C:Int):=by rw[hC];exact(Int.natCast_ediv B p).symm
 have e5':Int.tdiv (B:Int) (p:Int)=(C:Int):=by rw[Int.tdiv_eq_ediv_of_nonneg (by omega)];exact e5
 have e6:IntKind.i64.wrap (C:Int)=(C:Int):=by rw[IntKind.wrap_i64];omega
 have e7:(C:Int)*(p:Int)=(D:Int):=by rw[hD];exact(Int.natCast_mul C p).symm
 have e8:IntKind.i64.wrap (D:Int)=(D:Int):=by rw[IntKind.wrap_i64];omega
 have e9: ¬(p:Int)=0:=by omega
 have e10:((p:Int)==0)=false:=by simp;omega
 rw[hD2];have HD:=hid hD2;clear hA hB hC hD hD2 hCB hDB hp;go_enter func122,ntmps122;go_wp2;have em:min (D:Int) 255=((min D 255:Nat):Int):=by omega
 rw[em];go_ret;exact⟨rfl,rfl⟩
open Go.RowKit
theorem uG(l:Y8):Lib.indexByte (l.map UInt8.ofBitVec) 0= -1∨0≤Lib.indexByte (l.map UInt8.ofBitVec) 0:=by
 induction l with
 |nil=>left;rfl
 |cons b l ih=>
  show(if UInt8.ofBitVec b==0 then(0:Int)else if Lib.indexByte (l.map UInt8.ofBitVec) 0== -1 then-1 else Lib.indexByte (l.map UInt8.ofBitVec) 0+1)= -1∨0≤(if UInt8.ofBitVec b==0 then(0:Int)else if Lib.indexByte (l.map UInt8.ofBitVec) 0== -1 then-1 else Lib.indexByte (l.map UInt8.ofBitVec) 0+1)
  split
  ·right;omega
  ·rcases ih with h|h
   ·left;rw[h];rfl
   ·right;rw[if_neg (by simp;omega)];omega
theorem oE(l:Y8):decide (0≤Lib.indexByte (l.map UInt8.ofBitVec) 0)= !fy l:=by
 induction l with
 |nil=>rfl
 |cons b l ih=>
  show decide (0≤(if UInt8.ofBitVec b==0 then(0:Int)else if Lib.indexByte (l.map UInt8.ofBitVec) 0== -1 then-1 else Lib.indexByte (l.map UInt8.ofBitVec) 0+1))= !(b !=0#8&&fy l);have hb:(UInt8.ofBitVec b==0)=(b==0#8):=by
   by_cases h:b=0#8
   ·subst h;rfl
   ·have:UInt8.ofBitVec b≠0:=fun e=>h (by have:=congrArg UInt8.toBitVec e;simpa using this);rw[beq_eq_false_iff_ne.2 this,beq_eq_false_iff_ne.2 h]
  rw[hb];by_cases h:b=0#8
  ·subst h;rfl
  ·rw[beq_eq_false_iff_ne.2 h,if_neg (by simp)];rw[show(b !=0#8)=true by simpa using h,Bool.true_and,←ih];rcases uG l with h2|h2
   ·rw[h2];rfl
   ·rw[if_neg (by simp;omega)];congr 1;apply propext;omega
theorem sr(l:Y8)(w:World):(callFunc 183 #[.string (str l),.int .u8 0]).run prog w= .ok (.value (.int .i64 (Lib.indexByte (l.map UInt8.ofBitVec) 0))) w:=by
 have h:=Lib.run_indexByteString (P:=prog) (str l) 0 w;rw[eO]at h;rw[run_callFunc_extern func183 (by kernel_rfl) (by kernel_rfl) (by kernel_rfl) (e:=Extern.BytealgIndexByte.indexByte) (by kernel_rfl),h];rfl
theorem uH(l:Y8)(w:World):
  Calls prog 148 #[.string (str l),.int .u8 0] w fun e w' =>e= .returned (.int .i64 (Lib.indexByte (l.map UInt8.ofBitVec) 0))∧w=w':=by
 have hc:=sr l;obtain⟨X,hX⟩: ∃X,X=Lib.indexByte (l.map UInt8.ofBitVec) 0:=⟨_,rfl⟩;rw[←hX]at hc⊢;clear hX;go_enter func148,ntmps148;go_wp2_with fail;have hin:Calls prog 160 #[.string (str l),.int .u8 0] w fun e w' =>e= .returned (.int .i64 X)∧w=w':=by
  go_enter func160,ntmps160;go_wp2;go_ret;exact⟨rfl,rfl⟩
 refine hin.mono ?_;rintro e w1 ⟨rfl,rfl⟩;go_wp2;go_ret;exact⟨rfl,rfl⟩
theorem uI(l:Y8):(str l).toList=[]↔l.length=0:=by
 rw[qZ];cases l<;>simp
def im(l:Y8):Int:=if aH l then 0 else 15
theorem ss(l:Y8)(w:World)(hl:l.length≤1000000):
  Calls prog 121 #[.string (str l)] w fun e w' =>e= .returned (.int .i64 (im l))∧w=w':=by
 have hix:=uH l w;have hdec:=oE l;have hri:=qi l;have hsz:=bR l;have hem:=uI l;obtain⟨X,hX⟩: ∃X,X=Lib.indexByte (l.map UInt8.ofBitVec) 0:=⟨_,rfl⟩;obtain⟨R,hR⟩: ∃R,R=im l:=⟨_,rfl⟩;obtain⟨n,hn⟩: ∃n,n=l.length:=⟨_,rfl⟩;rw[←hX]at hix hdec;rw[←hR];rw[←hn]at hsz hem hri hl;have HI:=hid hix;have HR:=hid hR;obtain⟨S,hS⟩: ∃S,S=str l:=⟨_,rfl⟩;rw[←hS]at hsz hem⊢;have HS:=hid hS;clear hX hR hn hix hS;have goal0: ∀v:Int,(v=0↔aH l)→(v=15∨v=0)→R=v:=fun v h1 h2=>by
  rw[HR.out,im];by_cases h:aH l
  ·rw[if_pos h];exact(h1.2 h).symm
  ·rw[if_neg h];rcases h2 with h2|h2
   ·exact h2.symm
   ·exact absurd (h1.1 h2) h
 go_enter func121,ntmps121;by_cases h0:n=0
 ·have e0:S.toList=[]:=hem.2 h0;have hR:R=15:=goal0 15 (by rw[hri];omega) (.inl rfl);clear hdec hri HI goal0 hem;go_wp2;go_ret;exact⟨by rw[hR];rfl,rfl⟩
 ·have e0: ¬S.toList=[]:=fun e=>h0 (hem.1 e);by_cases h1:255<n
  ·have e1:(255:Int)<(n:Int):=by omega
   have hR:R=15:=goal0 15 (by rw[hri];omega) (.inl rfl);clear hdec hri HI goal0 hem;go_wp2;go_ret;exact⟨by rw[hR];rfl,rfl⟩
  ·have e1: ¬(255:Int)<(n:Int):=by omega
   rw[HS.out];rw[HS.out]at e0 hsz;have e3:(str l).toList.isEmpty=false:=by simpa using e0
   by_cases h2:0≤X
   ·have hz:fy l=false:=by
     rw[decide_eq_true h2]at hdec;cases hz:fy l with
     |false=>rfl
     |true=>rw[hz]at hdec;cases hdec
    have hR:R=15:=goal0 15 (by rw[hri,hz];simp) (.inl rfl);clear hdec hri goal0 hem hz;go_wp2_with fail;refine HI.out.mono ?_;rintro e w1 ⟨rfl,rfl⟩;go_wp2;go_ret;exact⟨by rw[hR];rfl,rfl⟩
   ·have hz:fy l=true:=by
     rw[decide_eq_false h2]at hdec;cases hz:fy l with
     |true=>rfl
     |false=>rw[hz]at hdec;cases hdec
    have hR:R=0:=goal0 0 (by rw[hri,hz];simp;omega) (.inr rfl);clear hdec hri goal0 hem hz;go_wp2_with fail;refine HI.out.mono ?_;rintro e w1 ⟨rfl,rfl⟩;go_wp2;go_ret;exact⟨by rw[hR];rfl,rfl⟩
open Go.RowKit
def padE(l:Y8)(p:Int):Int:=if aU p≠0 then aU p else im l
theorem mB(l:Y8):Lib.byteCells (str l).data.toList=l.map v8:=by
 rw[eO,Lib.byteCells,List.map_map];exact List.map_congr_left fun b _=>rfl
section
variable {P:Program} {ops:Array Oper} {K:Act→World→Prop} {ks:List Nat} {l:List Oper} {a:Act} {w:World}
theorem xR {d:Option Tmp} {x y:Operand} {dT sT elem ty:TypeId} {pos:String} {after:Array Edge} {g:Nat} {t:TypeId} {m s:Y8}(hb:Blk w g t (A8 m))(hx:a.eval x= .slice (some ⟨g,0,none⟩) m.length m.length)(hy:a.eval y= .string (str s))(hu:P.underlying dT=some (.slice elem))(hs:(P.info? elem).map (·.size)=some 1)(hle:s.length≤m.length)
  (h: ∀w1 v,Blk w1 g t (A8 (s++m.drop s.length))→w.grownBy w1 (some g)→w1.heap.size=w.heap.size→wpZ P ops K ks l (a.put d v) w1):
  wpZ P ops K (2::ks) (⟨d,.call {callee:= .builtin .copy,args:= #[x,y],argTypes:= #[dT,sT]},ty,pos,after,none⟩::l) a w:=by
 unfold wpZ opT;simp only[Region.wanted,if_true];have hc:=Lib.run_copy_row_string (P:=P) w dT sT ty elem g 0 m.length m.length (str s) (A8 m) t hu hs hb (by rw[bR];exact hle) (by rw[au,bR];omega);have hrow:((A8 m).toList.take 0++Lib.byteCells (str s).data.toList++(A8 m).toList.drop (0+(str s).size)).toArray=A8 (s++m.drop s.length):=by
  apply Array.ext';rw[cU,cU,mB,bR];simp[List.map_append,List.map_drop]
 rw[hrow]at hc;have hr:(execOp a.eval ⟨d,.call {callee:= .builtin .copy,args:= #[x,y],argTypes:= #[dT,sT]},ty,pos,after,none⟩).run P w= .ok (.value (goInt (str s).size)) (w.setRow g (A8 (s++m.drop s.length))):=by
  rw[BigFrame.execOp_builtin];simp only[builtin,List.map_toArray,List.map_cons,List.map_nil,hx,hy,Sem.run_bind,hc,Result.andThen_ok,Sem.run_pure]
 unfold Oper.wp;rw[hr];exact h _ _ (hb.put _) (aP w g _) (by simp)
end
theorem pW(l:Y8)(p:Int)(w:World)(hl:l.length≤1000000):
  Calls prog 79 #[.string (str l),.int .i64 p] w fun e w' => ∃v,e= .returned (.tuple #[v,.int .i64 (padE l p)])∧(padE l p≠0→v= .slice none 0 0)∧(padE l p=0→Own8 w' w.heap.size 5 v (cp l p.toNat))∧Below w.heap.size w w':=by
 have hk:=me p;have hr:=ss l w hl;obtain⟨K,hK⟩: ∃K,K=aU p:=⟨_,rfl⟩;obtain⟨R,hR⟩: ∃R,R=im l:=⟨_,rfl⟩;have hE:padE l p=if K≠0 then K else R:=by rw[padE,hK,hR]
 rw[←hK]at hk;rw[←hR]at hr;have HK:=hid hk;have HR:=hid hr;have EK:=hid hK;have ER:=hid hR;clear hk hr hK hR;go_enter func79,ntmps79;go_wp2_with fail;refine(HK.out w).mono ?_;rintro e w1 ⟨rfl,rfl⟩;by_cases hk0:K=0
 ·subst hk0;have hp:p=16∨p=32∨p=64:=by
   have:=EK.out;unfold aU at this
   split at this
   ·assumption
   ·cases this
  rw[if_neg (by simp)]at hE;go_wp2_with fail;refine HR.out.mono ?_;rintro e w1 ⟨rfl,rfl⟩;by_cases hr0:R=0
  ·subst hr0;have hri:aH l:=by
    have:=ER.out;unfold im at this
    split at this
    ·assumption
    ·cases this
   obtain⟨q,rfl⟩: ∃q:Nat,p=(q:Int):=⟨p.toNat,by omega⟩;have hq:gg q:=by unfold gg;omega
   have hsz:=bR l;have hrm:=uF l.length q w (by omega) hq;have hge:=ns l.length q hq hri.2.1;have hle:bV l.length q≤255:=by unfold bV;omega
   obtain⟨m,hm⟩: ∃m,m=bV l.length q:=⟨_,rfl⟩;obtain⟨n,hn⟩: ∃n,n=l.length:=⟨_,rfl⟩;rw[←hm]at hrm hge hle;rw[←hn]at hrm hge hsz;have HRM:=hid hrm;have HM:=hid hm;have HN:=hid hn;have hmk:=fun w1:World=>bZ (P:=prog) w1 22 5 m m underlying22 bQ (by omega) (Int.le_refl _) (by omega);have HE:=hid hE;clear hrm hm hn hE hp;go_wp2_with fail;refine HRM.out.mono ?_;rintro e w1 ⟨rfl,rfl⟩;have emt:((m:Nat):Int).toNat=m:=rfl;rw[emt]at hmk;obtain⟨W,hW⟩: ∃W,w.alloc (.cells (A8 (aa 8 m)) 5)=W:=⟨_,rfl⟩;obtain⟨b0,hb,hz⟩:=new1 _ _ _ _ hW;have Z0:=hid b0;have B0:=hid hb;clear b0 hb hz emt;go_upto_region 8 with fail
   try simp only[Int.toNat_natCast]
   try rw[hW]
   clear hmk hW;refine aq [0,0,2] rfl (fun ops' K2 hK2=> ?_)
   repeat (first|((with_reducible refine zq0 ?_);refine zq0a ?_)|((with_reducible refine zq1 ?_);refine zq1a ?_))
   refine xR (m:=aa 8 m) Z0.out (by rw[af];rfl) rfl underlying22 eo (by rw[af];have:=HN.out;omega) (fun w2 v2 k2 g2 s2=> ?_);refine ak (hK2 _ _ ?_);have hpn:l++(aa 8 m).drop l.length=cp l q:=by
    rw[cp,aa,aa,List.drop_replicate,HM.out]
   rw[hpn]at k2;have hpl:(cp l q).length=m:=by rw[dD l q hq hri.2.1,HM.out]
   have ow:=Own8.blk k2 m (Nat.le_refl _) (by rw[hpl];exact Nat.le_refl _) (by rw[hpl];unfold maxLen;omega);rw[List.take_of_length_le (by rw[hpl];exact Nat.le_refl _),hpl]at ow;have OW:=hid ow;have B2:=hid (B0.out.trans (ac g2 (Nat.le_refl _) B0.out.size));clear k2 g2 s2 hK2 ow hpn hpl;go_wp2;go_ret2;rw[HE.out];exact⟨_,rfl,fun h=>absurd rfl h,fun _=>OW.out,B2.out⟩
  ·have hr1:(R==0)=false:=by simpa using hr0
   have hr2:(R !=0)=true:=by simp[hr0]
   go_wp2;go_ret2;rw[hE];exact⟨_,rfl,fun _=>rfl,fun h=>absurd h hr0,Below.refl _ _⟩
 ·have hk1:(K==0)=false:=by simpa using hk0
  have hk2:(K !=0)=true:=by simp[hk0]
  rw[if_pos hk0]at hE;go_wp2;go_ret2;rw[hE];exact⟨_,rfl,fun _=>rfl,fun h=>absurd h hk0,Below.refl _ _⟩
open Go.RowKit
end Go.Proofs.YtlpkfdkhlffmlaaGreatDoor
