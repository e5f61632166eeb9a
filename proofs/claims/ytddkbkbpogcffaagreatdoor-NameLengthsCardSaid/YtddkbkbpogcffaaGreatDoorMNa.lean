/-name:known,right,room-/
import Derived.Test.YtddkbkbpogcffaaGreatDoorMGa
import Derived.Test.YtddkbkbpogcffaaGreatDoorMPl
import Derived.Test.YtddkbkbpogcffaaGreatDoorMGs
import Derived.Lib.Bytealg
import Derived.Test.YtddkbkbpogcffaaGreatDoorMGt
import Derived.Test.YtddkbkbpogcffaaGreatDoorMGb
import Derived.Lib.BufferWrite
import Derived.WalkMore
namespace Go.Proofs.YtddkbkbpogcffaaGreatDoor
open Go.Proofs.Tryz
open Lib (hid)
set_option linter.unusedSimpArgs false
set_option linter.unusedVariables false
set_option maxRecDepth 100000
set_option maxHeartbeats 1600000
open Go.RowKit
def bU(p:Int):Int:=if p=16∨p=32∨p=64 then 0 else 4
theorem mB(p:Int)(w:World):
  Calls prog 49 #[.int .i64 p] w fun e w' =>e= .returned (.int .i64 (bU p))∧w=w':=by
 go_enter func49,ntmps49;by_cases h1:p=16
 ·subst h1;go_wp2;go_ret;exact⟨rfl,rfl⟩
 ·have k1:(p==16)=false:=by simpa using h1
  by_cases h2:p=32
  ·subst h2;go_wp2;go_ret;exact⟨rfl,rfl⟩
  ·have k2:(p==32)=false:=by simpa using h2
   by_cases h3:p=64
   ·subst h3;go_wp2;go_ret;exact⟨rfl,rfl⟩
   ·have k3:(p==64)=false:=by simpa using h3
    have e:bU p=4:=by rw[bU,if_neg (by omega)]
    go_wp2;go_ret;exact⟨by rw[e];rfl,rfl⟩
theorem DP(n p:Nat)(w:World)(hn:n≤1000000)(hp:cY p):
  Calls prog 51 #[.int .i64 n,.int .i64 p] w fun e w' =>e= .returned (.int .i64 (cd n p:Nat))∧w=w':=by
 obtain⟨A,hA⟩: ∃A,A=n+p:=⟨_,rfl⟩;obtain⟨B,hB⟩: ∃B,B=n+p-1:=⟨_,rfl⟩;obtain⟨C,hC⟩: ∃C,C=B/p:=⟨_,rfl⟩;obtain⟨D,hD⟩: ∃D,D=C*p:=⟨_,rfl⟩;have hD2:cd n p=min D 255:=by rw[cd,hD,hC,hB]
 have hp0:1≤p∧p≤64:=by rcases hp with rfl|rfl|rfl<;>omega
 have hCB:C≤B:=by rw[hC];exact Nat.div_le_self _ _
 have hDB:D≤B:=by rw[hD,hC];exact Nat.div_mul_le_self _ _
 have e1:(n:Int)+(p:Int)=(A:Int):=by omega
 have e2:IntKind.i64.wrap (A:Int)=(A:Int):=by rw[IntKind.wrap_i64];omega
 have e3:(A:Int)-1=(B:Int):=by omega
 have e4:IntKind.i64.wrap (B:Int)=(B:Int):=by rw[IntKind.wrap_i64];omega
 have e5:(B:Int)/(p:Int)=(C:Int):=by rw[hC];exact(Int.natCast_ediv B p).symm
 have e5':Int.tdiv (B:Int) (p:Int)=(C:Int):=by rw[Int.tdiv_eq_ediv_of_nonneg (by omega)];exact e5
 have e6:IntKind.i64.wrap (C:Int)=(C:Int):=by rw[IntKind.wrap_i64];omega
 have e7:(C:Int)*(p:Int)=(D:Int):=by rw[hD];exact(Int.natCast_mul C p).symm
 have e8:IntKind.i64.wrap (D:Int)=(D:Int):=by rw[IntKind.wrap_i64];omega
 have e9: ¬(p:Int)=0:=by omega
 have e10:((p:Int)==0)=false:=by simp;omega
 rw[hD2];have HD:=hid hD2;clear hA hB hC hD hD2 hCB hDB hp;go_enter func51,ntmps51;go_wp2;have em:min (D:Int) 255=((min D 255:Nat):Int):=by omega
 rw[em];go_ret;exact⟨rfl,rfl⟩
open Go.RowKit
theorem DQ(l:Y8):Lib.indexByte (l.map UInt8.ofBitVec) 0= -1∨0≤Lib.indexByte (l.map UInt8.ofBitVec) 0:=by
 induction l with
 |nil=>left;rfl
 |cons b l ih=>
  show(if UInt8.ofBitVec b==0 then(0:Int)else if Lib.indexByte (l.map UInt8.ofBitVec) 0== -1 then-1 else Lib.indexByte (l.map UInt8.ofBitVec) 0+1)= -1∨0≤(if UInt8.ofBitVec b==0 then(0:Int)else if Lib.indexByte (l.map UInt8.ofBitVec) 0== -1 then-1 else Lib.indexByte (l.map UInt8.ofBitVec) 0+1)
  split
  ·right;omega
  ·rcases ih with h|h
   ·left;rw[h];rfl
   ·right;rw[if_neg (by simp;omega)];omega
theorem wD(l:Y8):decide (0≤Lib.indexByte (l.map UInt8.ofBitVec) 0)= !jW l:=by
 induction l with
 |nil=>rfl
 |cons b l ih=>
  show decide (0≤(if UInt8.ofBitVec b==0 then(0:Int)else if Lib.indexByte (l.map UInt8.ofBitVec) 0== -1 then-1 else Lib.indexByte (l.map UInt8.ofBitVec) 0+1))= !(b !=0#8&&jW l);have hb:(UInt8.ofBitVec b==0)=(b==0#8):=by
   by_cases h:b=0#8
   ·subst h;rfl
   ·have:UInt8.ofBitVec b≠0:=fun e=>h (by have:=congrArg UInt8.toBitVec e;simpa using this);rw[beq_eq_false_iff_ne.2 this,beq_eq_false_iff_ne.2 h]
  rw[hb];by_cases h:b=0#8
  ·subst h;rfl
  ·rw[beq_eq_false_iff_ne.2 h,if_neg (by simp)];rw[show(b !=0#8)=true by simpa using h,Bool.true_and,←ih];rcases DQ l with h2|h2
   ·rw[h2];rfl
   ·rw[if_neg (by simp;omega)];congr 1;apply propext;omega
theorem AN(l:Y8)(w:World):(callFunc 143 #[.string (str l),.int .u8 0]).run prog w= .ok (.value (.int .i64 (Lib.indexByte (l.map UInt8.ofBitVec) 0))) w:=by
 have h:=Lib.run_indexByteString (P:=prog) (str l) 0 w;rw[mN]at h;rw[run_callFunc_extern func143 (by kernel_rfl) (by kernel_rfl) (by kernel_rfl) (e:=Extern.BytealgIndexByte.indexByte) (by kernel_rfl),h];rfl
theorem DR(l:Y8)(w:World):
  Calls prog 72 #[.string (str l),.int .u8 0] w fun e w' =>e= .returned (.int .i64 (Lib.indexByte (l.map UInt8.ofBitVec) 0))∧w=w':=by
 have hc:=AN l;obtain⟨X,hX⟩: ∃X,X=Lib.indexByte (l.map UInt8.ofBitVec) 0:=⟨_,rfl⟩;rw[←hX]at hc⊢;clear hX;go_enter func72,ntmps72;go_wp2_with fail;have hin:Calls prog 97 #[.string (str l),.int .u8 0] w fun e w' =>e= .returned (.int .i64 X)∧w=w':=by
  go_enter func97,ntmps97;go_wp2;go_ret;exact⟨rfl,rfl⟩
 refine hin.mono ?_;rintro e w1 ⟨rfl,rfl⟩;go_wp2;go_ret;exact⟨rfl,rfl⟩
theorem DT(l:Y8):(str l).toList=[]↔l.length=0:=by
 rw[zh];cases l<;>simp
def da(l:Y8):Int:=if bT l then 0 else 15
theorem AO(l:Y8)(w:World)(hl:l.length≤1000000):
  Calls prog 50 #[.string (str l)] w fun e w' =>e= .returned (.int .i64 (da l))∧w=w':=by
 have hix:=DR l w;have hdec:=wD l;have hri:=yJ l;have hsz:=ee l;have hem:=DT l;obtain⟨X,hX⟩: ∃X,X=Lib.indexByte (l.map UInt8.ofBitVec) 0:=⟨_,rfl⟩;obtain⟨R,hR⟩: ∃R,R=da l:=⟨_,rfl⟩;obtain⟨n,hn⟩: ∃n,n=l.length:=⟨_,rfl⟩;rw[←hX]at hix hdec;rw[←hR];rw[←hn]at hsz hem hri hl;have HI:=hid hix;have HR:=hid hR;obtain⟨S,hS⟩: ∃S,S=str l:=⟨_,rfl⟩;rw[←hS]at hsz hem⊢;have HS:=hid hS;clear hX hR hn hix hS;have goal0: ∀v:Int,(v=0↔bT l)→(v=15∨v=0)→R=v:=fun v h1 h2=>by
  rw[HR.out,da];by_cases h:bT l
  ·rw[if_pos h];exact(h1.2 h).symm
  ·rw[if_neg h];rcases h2 with h2|h2
   ·exact h2.symm
   ·exact absurd (h1.1 h2) h
 go_enter func50,ntmps50;by_cases h0:n=0
 ·have e0:S.toList=[]:=hem.2 h0;have hR:R=15:=goal0 15 (by rw[hri];omega) (.inl rfl);clear hdec hri HI goal0 hem;go_wp2;go_ret;exact⟨by rw[hR];rfl,rfl⟩
 ·have e0: ¬S.toList=[]:=fun e=>h0 (hem.1 e);by_cases h1:255<n
  ·have e1:(255:Int)<(n:Int):=by omega
   have hR:R=15:=goal0 15 (by rw[hri];omega) (.inl rfl);clear hdec hri HI goal0 hem;go_wp2;go_ret;exact⟨by rw[hR];rfl,rfl⟩
  ·have e1: ¬(255:Int)<(n:Int):=by omega
   rw[HS.out];rw[HS.out]at e0 hsz;have e3:(str l).toList.isEmpty=false:=by simpa using e0
   by_cases h2:0≤X
   ·have hz:jW l=false:=by
     rw[decide_eq_true h2]at hdec;cases hz:jW l with
     |false=>rfl
     |true=>rw[hz]at hdec;cases hdec
    have hR:R=15:=goal0 15 (by rw[hri,hz];simp) (.inl rfl);clear hdec hri goal0 hem hz;go_wp2_with fail;refine HI.out.mono ?_;rintro e w1 ⟨rfl,rfl⟩;go_wp2;go_ret;exact⟨by rw[hR];rfl,rfl⟩
   ·have hz:jW l=true:=by
     rw[decide_eq_false h2]at hdec;cases hz:jW l with
     |true=>rfl
     |false=>rw[hz]at hdec;cases hdec
    have hR:R=0:=goal0 0 (by rw[hri,hz];simp;omega) (.inr rfl);clear hdec hri goal0 hem hz;go_wp2_with fail;refine HI.out.mono ?_;rintro e w1 ⟨rfl,rfl⟩;go_wp2;go_ret;exact⟨by rw[hR];rfl,rfl⟩
open Go.RowKit
def padE(l:Y8)(p:Int):Int:=if bU p≠0 then bU p else da l
theorem tT(l:Y8):Lib.byteCells (str l).data.toList=l.map v8:=by
 rw[mN,Lib.byteCells,List.map_map];exact List.map_congr_left fun b _=>rfl
section
variable {P:Program} {ops:Array Oper} {K:Act→World→Prop} {ks:List Nat} {l:List Oper} {a:Act} {w:World}
theorem Iv {d:Option Tmp} {x y:Operand} {dT sT elem ty:TypeId} {pos:String} {after:Array Edge} {g:Nat} {t:TypeId} {m s:Y8}(hb:Blk w g t (A8 m))(hx:a.eval x= .slice (some ⟨g,0,none⟩) m.length m.length)(hy:a.eval y= .string (str s))(hu:P.underlying dT=some (.slice elem))(hs:(P.info? elem).map (·.size)=some 1)(hle:s.length≤m.length)
  (h: ∀w1 v,Blk w1 g t (A8 (s++m.drop s.length))→w.grownBy w1 (some g)→w1.heap.size=w.heap.size→wpZ P ops K ks l (a.put d v) w1):
  wpZ P ops K (2::ks) (⟨d,.call {callee:= .builtin .copy,args:= #[x,y],argTypes:= #[dT,sT]},ty,pos,after,none⟩::l) a w:=by
 unfold wpZ opT;simp only[Region.wanted,if_true];have hc:=Lib.run_copy_row_string (P:=P) w dT sT ty elem g 0 m.length m.length (str s) (A8 m) t hu hs hb (by rw[ee];exact hle) (by rw[ag,ee];omega);have hrow:((A8 m).toList.take 0++Lib.byteCells (str s).data.toList++(A8 m).toList.drop (0+(str s).size)).toArray=A8 (s++m.drop s.length):=by
  apply Array.ext';rw[fy,fy,tT,ee];simp[List.map_append,List.map_drop]
 rw[hrow]at hc;have hr:(execOp a.eval ⟨d,.call {callee:= .builtin .copy,args:= #[x,y],argTypes:= #[dT,sT]},ty,pos,after,none⟩).run P w= .ok (.value (goInt (str s).size)) (w.setRow g (A8 (s++m.drop s.length))):=by
  rw[BigFrame.execOp_builtin];simp only[builtin,List.map_toArray,List.map_cons,List.map_nil,hx,hy,Sem.run_bind,hc,Result.andThen_ok,Sem.run_pure]
 unfold Oper.wp;rw[hr];exact h _ _ (hb.put _) (aK w g _) (by simp)
end
theorem iU(l:Y8)(p:Int)(w:World)(hl:l.length≤1000000):
  Calls prog 24 #[.string (str l),.int .i64 p] w fun e w' => ∃v,e= .returned (.tuple #[v,.int .i64 (padE l p)])∧(padE l p≠0→v= .slice none 0 0)∧(padE l p=0→Own8 w' w.heap.size 5 v (cX l p.toNat))∧Below w.heap.size w w':=by
 have hk:=mB p;have hr:=AO l w hl;obtain⟨K,hK⟩: ∃K,K=bU p:=⟨_,rfl⟩;obtain⟨R,hR⟩: ∃R,R=da l:=⟨_,rfl⟩;have hE:padE l p=if K≠0 then K else R:=by rw[padE,hK,hR]
 rw[←hK]at hk;rw[←hR]at hr;have HK:=hid hk;have HR:=hid hr;have EK:=hid hK;have ER:=hid hR;clear hk hr hK hR;go_enter func24,ntmps24;go_wp2_with fail;refine(HK.out w).mono ?_;rintro e w1 ⟨rfl,rfl⟩;by_cases hk0:K=0
 ·subst hk0;have hp:p=16∨p=32∨p=64:=by
   have:=EK.out;unfold bU at this
   split at this
   ·assumption
   ·cases this
  rw[if_neg (by simp)]at hE;go_wp2_with fail;refine HR.out.mono ?_;rintro e w1 ⟨rfl,rfl⟩;by_cases hr0:R=0
  ·subst hr0;have hri:bT l:=by
    have:=ER.out;unfold da at this
    split at this
    ·assumption
    ·cases this
   obtain⟨q,rfl⟩: ∃q:Nat,p=(q:Int):=⟨p.toNat,by omega⟩;have hq:cY q:=by unfold cY;omega
   have hsz:=ee l;have hrm:=DP l.length q w (by omega) hq;have hge:=vj l.length q hq hri.2.1;have hle:cd l.length q≤255:=by unfold cd;omega
   obtain⟨m,hm⟩: ∃m,m=cd l.length q:=⟨_,rfl⟩;obtain⟨n,hn⟩: ∃n,n=l.length:=⟨_,rfl⟩;rw[←hm]at hrm hge hle;rw[←hn]at hrm hge hsz;have HRM:=hid hrm;have HM:=hid hm;have HN:=hid hn;have hmk:=fun w1:World=>cE (P:=prog) w1 22 5 m m underlying22 bM (by omega) (Int.le_refl _) (by omega);have HE:=hid hE;clear hrm hm hn hE hp;go_wp2_with fail;refine HRM.out.mono ?_;rintro e w1 ⟨rfl,rfl⟩;have emt:((m:Nat):Int).toNat=m:=rfl;rw[emt]at hmk;obtain⟨W,hW⟩: ∃W,w.alloc (.cells (A8 (ac 8 m)) 5)=W:=⟨_,rfl⟩;obtain⟨b0,hb,hz⟩:=new1 _ _ _ _ hW;have Z0:=hid b0;have B0:=hid hb;clear b0 hb hz emt;go_upto_region 8 with fail
   try simp only[Int.toNat_natCast]
   try rw[hW]
   clear hmk hW;refine aG [0,0,2] rfl (fun ops' K2 hK2=> ?_)
   repeat (first|((with_reducible refine zq0 ?_);refine zq0a ?_)|((with_reducible refine zq1 ?_);refine zq1a ?_))
   refine Iv (m:=ac 8 m) Z0.out (by rw[ah];rfl) rfl underlying22 gW (by rw[ah];have:=HN.out;omega) (fun w2 v2 k2 g2 s2=> ?_);refine az (hK2 _ _ ?_);have hpn:l++(ac 8 m).drop l.length=cX l q:=by
    rw[cX,ac,ac,List.drop_replicate,HM.out]
   rw[hpn]at k2;have hpl:(cX l q).length=m:=by rw[ct l q hq hri.2.1,HM.out]
   have ow:=Own8.blk k2 m (Nat.le_refl _) (by rw[hpl];exact Nat.le_refl _) (by rw[hpl];unfold maxLen;omega);rw[List.take_of_length_le (by rw[hpl];exact Nat.le_refl _),hpl]at ow;have OW:=hid ow;have B2:=hid (B0.out.trans (ae g2 (Nat.le_refl _) B0.out.size));clear k2 g2 s2 hK2 ow hpn hpl;go_wp2;go_ret2;rw[HE.out];exact⟨_,rfl,fun h=>absurd rfl h,fun _=>OW.out,B2.out⟩
  ·have hr1:(R==0)=false:=by simpa using hr0
   have hr2:(R !=0)=true:=by simp[hr0]
   go_wp2;go_ret2;rw[hE];exact⟨_,rfl,fun _=>rfl,fun h=>absurd h hr0,Below.refl _ _⟩
 ·have hk1:(K==0)=false:=by simpa using hk0
  have hk2:(K !=0)=true:=by simp[hk0]
  rw[if_pos hk0]at hE;go_wp2;go_ret2;rw[hE];exact⟨_,rfl,fun _=>rfl,fun h=>absurd h hk0,Below.refl _ _⟩
open Go.RowKit
def gz(n p:Nat):Int:=if fp n p then 0 else 4
theorem Gp(n p t:Nat)(hp:cY p)(_ht:p*t<255)(h:n=min (p*(t+1)) 255):fp n p:=by
 unfold fp;rw[Nat.mul_succ]at h;rcases Nat.lt_or_ge (p*t+p) 255 with h1|h1
 ·rw[Nat.min_eq_left (by omega)]at h;refine⟨by rcases hp with rfl|rfl|rfl<;>omega,by omega,.inl ?_⟩;rw[h,←Nat.mul_succ,Nat.mul_mod_right]
 ·rw[Nat.min_eq_right h1]at h;exact⟨by omega,by omega,.inr h⟩
theorem Iw(n p t:Nat)(hno: ∀j,j<t→n≠p*(j+1))(h:n≠min (p*(t+1)) 255)(hA:255≤p*(t+1)): ¬fp n p:=by
 rintro⟨h1,h2,h3⟩;rw[Nat.min_eq_right hA]at h;rcases h3 with h3|h3
 ·obtain⟨k,hk⟩:=Nat.dvd_of_mod_eq_zero h3;have hk1:k≠0:=by intro e;rw[e]at hk;omega
  obtain⟨j,rfl⟩: ∃j,k=j+1:=⟨k-1,by omega⟩;by_cases hj:j<t
  ·exact hno j hj hk
  ·have:p*(t+1)≤p*(j+1):=Nat.mul_le_mul_left p (by omega);omega
 ·exact h h3
theorem vg(n p:Nat)(w:World)(hp:cY p):
  Calls prog 36 #[.int .i64 n,.int .i64 p] w fun e w' =>e= .returned (.int .i64 (gz n p))∧w=w':=by
 have HP:=hid hp;have hp64:p≤64:=by rcases hp with rfl|rfl|rfl<;>omega
 have hp1:1≤p:=by rcases hp with rfl|rfl|rfl<;>omega
 clear hp;go_enter func36,ntmps36;go_wp2_with fail;refine wp_scope_straight (wp_seq (wp_label ?_));go_wp2_with fail;go_loopw [5] (fun i wr=> ∃t:Nat,i= .int .i64 (p*(t+1):Nat)∧p*t<255∧(∀j,j<t→n≠p*(j+1))∧w=wr) (fun i _=>1000-(intOf i).toNat)
 case atStart=>exact⟨0,by rw[Nat.zero_add,Nat.mul_one],by omega,fun j h=>by omega,rfl⟩
 case round=>
  obtain⟨t,rfl,ht,hno,rfl⟩:=hrel;obtain⟨A,hA⟩: ∃A,A=p*(t+1):=⟨_,rfl⟩;rw[←hA];have hA2:A=p*t+p:=by rw[hA,Nat.mul_succ]
  have HA:=hid hA;have HNO:=hid hno;have hAb:A≤400:=by omega
  have em:min (A:Int) 255=((min A 255:Nat):Int):=by omega
  obtain⟨D,hD⟩: ∃D,D=min A 255:=⟨_,rfl⟩;rw[←hD]at em;have HD:=hid hD;obtain⟨A2,hA3⟩: ∃z,z=A+p:=⟨_,rfl⟩;have a1:(A:Int)+(p:Int)=(A2:Int):=by omega
  have a2:IntKind.i64.wrap (A2:Int)=(A2:Int):=by rw[IntKind.wrap_i64];omega
  have HA2:=hid (show A2=p*(t+1+1) by rw[Nat.mul_succ,←hA,hA3]);have HA3:=hid (show A2=A+p from hA3);clear hA hno hD hA2 hA3;by_cases h1:n=D
  ·have e1:(n:Int)=(D:Int):=by omega
   have e2:gz n p=0:=by rw[gz,if_pos (Gp n p t HP.out ht (by rw[h1,HD.out,HA.out]))]
   clear h1;go_wp2;rw[Exit.noGoto_ret];go_ret;exact⟨by rw[e2];rfl,rfl⟩
  ·have e1: ¬(n:Int)=(D:Int):=by omega
   have e0:((n:Int)==(D:Int))=false:=by simp;omega
   by_cases h2:255≤A
   ·have e2:(255:Int)≤(A:Int):=by omega
    have e3:gz n p=4:=by rw[gz,if_neg (Iw n p t HNO.out (by rw[←HA.out,←HD.out];exact h1) (by rw[←HA.out];exact h2))]
    clear h1;go_wp2;rw[Exit.noGoto_ret];go_ret;exact⟨by rw[e3];rfl,rfl⟩
   ·have e2: ¬(255:Int)≤(A:Int):=by omega
    have h3: ∀j,j<t+1→n≠p*(j+1):=fun j hj=>by
     by_cases e:j=t
     ·subst e;rw[←HA.out];have:=HD.out;rw[Nat.min_eq_left (by omega)]at this;rw[←this];exact h1
     ·exact HNO.out j (by omega)
    have h4:p*(t+1)<255:=by rw[←HA.out];omega
    have H3:=hid h3;have H4:=hid h4;clear h1 h3 h4 ht;go_wp2;exact⟨⟨t+1,by rw[HA2.out],H4.out,H3.out,trivial⟩,by have:=HA3.out;simp only[intOf,Int.toNat_natCast];omega⟩
def cJ(b:Y8)(p:Int):Int:=if bU p≠0 then 4 else if¬fp b.length p.toNat then 4 else if nK b p.toNat then 0 else 14
def db(b:Y8)(p:Int):Y8:=if cJ b p=0 then cutN b else []
theorem Od:str []=(⟨#[]⟩:ByteArray):=rfl
theorem tC(b:Y8)(p:Int)(a:Option Addr)(n c:Nat)(w:World)(hr:Rd8 w a n c b)(hn:n≤1000000):
  Calls prog 28 #[.slice a n c,.int .i64 p] w fun e w' =>e= .returned (.tuple #[.string (str (db b p)),.int .i64 (cJ b p)])∧Below w.heap.size w w':=by
 have hbl:=hr.1;have R0:=hid hr;have hk:=mB p;obtain⟨K,hK⟩: ∃K,K=bU p:=⟨_,rfl⟩;rw[←hK]at hk;have HK:=hid hk;have EK:=hid hK;clear hk hr hK;go_enter func28,ntmps28;go_wp2_with fail;refine(HK.out w).mono ?_;rintro e w1 ⟨rfl,rfl⟩;by_cases hk0:K=0;rotate_left
 ·have hk1:(K==0)=false:=by simpa using hk0
  have hk2:(K !=0)=true:=by simp[hk0]
  have hE:cJ b p=4:=by rw[cJ,←EK.out,if_pos hk0]
  have hS:db b p=[]:=by rw[db,hE];rfl
  have hK4:K=4:=by
   have:=EK.out;unfold bU at this
   split at this
   ·exact absurd this hk0
   ·exact this
  go_wp2;go_ret2;rw[hE,hS];exact⟨rfl,Below.refl _ _⟩
 subst hk0;have hp:p=16∨p=32∨p=64:=by
  have:=EK.out;unfold bU at this
  split at this
  ·assumption
  ·cases this
 obtain⟨q,rfl⟩: ∃q:Nat,p=(q:Int):=⟨p.toNat,by omega⟩;have hq:cY q:=by unfold cY;omega
 have hlg:=fun w1=>vg n q w1 hq;obtain⟨LE,hLE⟩: ∃z,z=gz n q:=⟨_,rfl⟩;rw[←hLE]at hlg;have HLG:=hid hlg;have ELE:=hid hLE;clear hlg hLE hp;go_wp2_with fail;refine(HLG.out w).mono ?_;rintro e w1 ⟨rfl,rfl⟩;by_cases hl0:LE=0;rotate_left
 ·have hk1:(LE==0)=false:=by simpa using hl0
  have hk2:(LE !=0)=true:=by simp[hl0]
  have hnl: ¬fp n q:=fun h=>hl0 (by rw[ELE.out,gz,if_pos h]);have hL4:LE=4:=by rw[ELE.out,gz,if_neg hnl]
  have hE:cJ b (q:Int)=4:=by rw[cJ,←EK.out,if_neg (by simp),Int.toNat_natCast,hbl,if_pos hnl]
  have hS:db b (q:Int)=[]:=by rw[db,hE];rfl
  clear hnl;go_wp2;go_ret2;rw[hE,hS];exact⟨rfl,Below.refl _ _⟩
 subst hl0;have hlong:fp n q:=by
  have:=ELE.out;unfold gz at this
  split at this
  ·assumption
  ·cases this
 have HLO:=hid hlong;clear hlong;go_wp2_with fail;go_loopw [8] (fun i wr=> ∃k:Nat,k≤n∧i= .int .i64 k∧ko b k=ko b n∧w=wr) (fun i _=>(intOf i).toNat)
 case atStart=>exact⟨n,Nat.le_refl _,rfl,rfl,rfl⟩
 case round=>
  obtain⟨k,hk,rfl,hl,rfl⟩:=hrel;have HL:=hid hl;clear hl;by_cases hgo: ∃j,k=j+1∧nth b j=0#8
  ·obtain⟨j,rfl,hj⟩:=hgo;obtain⟨ba,bo,rfl,hbb,hc⟩:=R0.out.2.2.2 (by omega);have c1:=hc j (by omega);rw[hj]at c1;have e1:((j+1:Nat):Int)-1=(j:Int):=by omega
   obtain⟨J,hJ⟩: ∃J,J=j+1:=⟨_,rfl⟩;rw[←hJ]at e1 hk⊢;have e2:(0:Int)<(J:Int):=by omega
   have e3:IntKind.i64.wrap (j:Int)=(j:Int):=by rw[IntKind.wrap_i64];omega
   have e4:(0:Int)≤(j:Int):=by omega
   have e5:(j:Int)<(n:Int):=by omega
   have hst:ko b j=ko b n:=by rw[←HL.out,ko,if_pos hj]
   have HST:=hid hst;have HJ:=hid hJ;clear hJ hst hc hj;go_wp2;exact⟨⟨j,by have:=HJ.out;omega,rfl,HST.out,trivial⟩,by have:=HJ.out;simp only[intOf,Int.toNat_natCast];omega⟩
  ·have hkl:ko b k=k:=by
    cases k with
    |zero=>rfl
    |succ j=>
     rw[ko,if_neg (fun h=>hgo ⟨j,rfl,h⟩)]
   have hcut:b.take k=cutN b:=by rw[cutN,hbl,←HL.out,hkl]
   have hcl:(cutN b).length=k:=by rw[←hcut,List.length_take];omega
   have hcond:k=0∨ ∃(j:Nat) (x:BitVec 8) (ba bo:Nat),k=j+1∧a=some ⟨ba,bo,none⟩∧w.cell? ⟨ba,bo+j,none⟩=some (v8 x)∧x≠0#8:=by
    cases k with
    |zero=>exact .inl rfl
    |succ j=>
     obtain⟨ba,bo,e,hbb,hc⟩:=R0.out.2.2.2 (by omega);exact .inr ⟨j,nth b j,ba,bo,rfl,e,hc j (by omega),fun h=>hgo ⟨j,rfl,h⟩⟩
   have rp:=R0.out.pre hk;rw[hcut]at rp;have hstr:=fun w1 (h:Rd8 w1 a k c (cutN b))=>Be (P:=prog) w1 22 9 5 a k c (cutN b) underlying22 underlying9 underlying5 h;have hs1:=hstr w rp;have hpd:=iU (cutN b) (q:Int) w (by omega);obtain⟨E,hE⟩: ∃z,z=padE (cutN b) (q:Int):=⟨_,rfl⟩;rw[←hE]at hpd;have hE2:E=da (cutN b):=by rw[hE,padE,←EK.out,if_neg (by simp)]
   obtain⟨C,hC⟩: ∃z,z=cutN b:=⟨_,rfl⟩;rw[←hC]at hs1 hpd hE2 hcl;have hcb:(k:Int)≤(c:Int):=by have:=R0.out.2.1;omega
   have hk0:(0:Int)≤(k:Int):=by omega
   have PD:=hid hpd;have EE:=hid hE2;have HC:=hid hC;have HCL:=hid hcl;have CO:=hid hcond;clear hgo hkl hcut hcond rp hstr hpd hE hE2 hC hcl;obtain hz|⟨j,x,ba,bo,hj,ha,hc,hx⟩:=CO.out
   ·subst hz;go_wp2_with fail;refine PD.out.mono ?_;rintro e w2 ⟨v2,rfl,hn2,ho2,d2⟩;have D2:=hid d2;by_cases hE0:E=0
    ·subst hE0;have ho:=ho2 rfl;rw[Int.toNat_natCast]at ho;obtain⟨a2,c2,rfl,r2,_⟩:=ho.rd;have hri:bT C:=by
      have:=EE.out;unfold da at this
      split at this
      ·assumption
      ·cases this
     have hlen:(cX C q).length=cd C.length q:=ct C q hq hri.2.1;obtain⟨M,hM⟩: ∃M,M=(cX C q).length:=⟨_,rfl⟩;rw[←hM]at hlen⊢;have HLN:=hid hlen;have HRI:=hid hri;clear hM hlen hri ho r2 ho2 hn2 d2;by_cases hm:M=n
     ·have e7:((M:Int)==(n:Int))=true:=by simp;omega
      have e8:((M:Int) !=(n:Int))=false:=by simp;omega
      have hE:cJ b (q:Int)=0:=by
       rw[cJ,←EK.out,if_neg (by simp),Int.toNat_natCast,hbl,if_neg (by simpa using HLO.out),if_pos];exact⟨by rw[←HC.out];exact HRI.out,by rw[←HC.out,←HLN.out,hbl];exact hm⟩
      have hS:db b (q:Int)=C:=by rw[db,if_pos hE,HC.out]
      have HE:=hid hE;have HS:=hid hS;subst hm;clear hE hS;go_wp2;go_ret2;rw[HE.out,HS.out];exact⟨rfl,D2.out⟩
     ·have e7:((M:Int)==(n:Int))=false:=by simp;omega
      have e8:((M:Int) !=(n:Int))=true:=by simp;omega
      have e9: ¬(M:Int)=(n:Int):=by omega
      have hE:cJ b (q:Int)=14:=by
       rw[cJ,←EK.out,if_neg (by simp),Int.toNat_natCast,hbl,if_neg (by simpa using HLO.out),if_neg];rintro⟨h1,h2⟩;rw[←HC.out,←HLN.out,hbl]at h2;exact hm h2
      have hS:db b (q:Int)=[]:=by rw[db,hE];rfl
      have HE:=hid hE;have HS:=hid hS;clear hE hS;go_wp2;go_ret2;rw[HE.out,HS.out];exact⟨rfl,D2.out⟩
    ·have e7:(E==0)=false:=by simpa using hE0
     have e8:(E !=0)=true:=by simp[hE0]
     have hE:cJ b (q:Int)=14:=by
      rw[cJ,←EK.out,if_neg (by simp),Int.toNat_natCast,hbl,if_neg (by simpa using HLO.out),if_neg];rintro⟨h1,h2⟩;rw[←HC.out]at h1;exact hE0 (by rw[EE.out,da,if_pos h1])
     have hS:db b (q:Int)=[]:=by rw[db,hE];rfl
     have HE:=hid hE;have HS:=hid hS;have hv:=hn2 hE0;subst hv;clear hE hS ho2 hn2 d2;go_wp2;go_ret2;rw[HE.out,HS.out];exact⟨rfl,D2.out⟩
   ·subst ha;have e0:(0:Int)<(k:Int):=by omega
    have e1:(k:Int)-1=(j:Int):=by omega
    have e2:IntKind.i64.wrap (j:Int)=(j:Int):=by rw[IntKind.wrap_i64];omega
    have e3:(0:Int)≤(j:Int):=by omega
    have e4:(j:Int)<(n:Int):=by omega
    have e5:(x==0#8)=false:=by simpa using hx
    have e6: ¬x=0#8:=hx;clear hj;go_wp2_with fail;refine PD.out.mono ?_;rintro e w2 ⟨v2,rfl,hn2,ho2,d2⟩;have D2:=hid d2;by_cases hE0:E=0
    ·subst hE0;have ho:=ho2 rfl;rw[Int.toNat_natCast]at ho;obtain⟨a2,c2,rfl,r2,_⟩:=ho.rd;have hri:bT C:=by
      have:=EE.out;unfold da at this
      split at this
      ·assumption
      ·cases this
     have hlen:(cX C q).length=cd C.length q:=ct C q hq hri.2.1;obtain⟨M,hM⟩: ∃M,M=(cX C q).length:=⟨_,rfl⟩;rw[←hM]at hlen⊢;have HLN:=hid hlen;have HRI:=hid hri;clear hM hlen hri ho r2 ho2 hn2 d2;by_cases hm:M=n
     ·have e7:((M:Int)==(n:Int))=true:=by simp;omega
      have e8:((M:Int) !=(n:Int))=false:=by simp;omega
      have hE:cJ b (q:Int)=0:=by
       rw[cJ,←EK.out,if_neg (by simp),Int.toNat_natCast,hbl,if_neg (by simpa using HLO.out),if_pos];exact⟨by rw[←HC.out];exact HRI.out,by rw[←HC.out,←HLN.out,hbl];exact hm⟩
      have hS:db b (q:Int)=C:=by rw[db,if_pos hE,HC.out]
      have HE:=hid hE;have HS:=hid hS;subst hm;clear hE hS;go_wp2;go_ret2;rw[HE.out,HS.out];exact⟨rfl,D2.out⟩
     ·have e7:((M:Int)==(n:Int))=false:=by simp;omega
      have e8:((M:Int) !=(n:Int))=true:=by simp;omega
      have e9: ¬(M:Int)=(n:Int):=by omega
      have hE:cJ b (q:Int)=14:=by
       rw[cJ,←EK.out,if_neg (by simp),Int.toNat_natCast,hbl,if_neg (by simpa using HLO.out),if_neg];rintro⟨h1,h2⟩;rw[←HC.out,←HLN.out,hbl]at h2;exact hm h2
      have hS:db b (q:Int)=[]:=by rw[db,hE];rfl
      have HE:=hid hE;have HS:=hid hS;clear hE hS;go_wp2;go_ret2;rw[HE.out,HS.out];exact⟨rfl,D2.out⟩
    ·have e7:(E==0)=false:=by simpa using hE0
     have e8:(E !=0)=true:=by simp[hE0]
     have hE:cJ b (q:Int)=14:=by
      rw[cJ,←EK.out,if_neg (by simp),Int.toNat_natCast,hbl,if_neg (by simpa using HLO.out),if_neg];rintro⟨h1,h2⟩;rw[←HC.out]at h1;exact hE0 (by rw[EE.out,da,if_pos h1])
     have hS:db b (q:Int)=[]:=by rw[db,hE];rfl
     have HE:=hid hE;have HS:=hid hS;have hv:=hn2 hE0;subst hv;clear hE hS ho2 hn2 d2;go_wp2;go_ret2;rw[HE.out,HS.out];exact⟨rfl,D2.out⟩
end Go.Proofs.YtddkbkbpogcffaaGreatDoor
