/-a slice literal of one byte-/
import Derived.Test.YtlpkfdkhlffmlaaGreatDoorMGb
import Derived.WalkMore
namespace Go.Proofs.YtlpkfdkhlffmlaaGreatDoor
open Go.Proofs.Tryz
open Lib (hid)
set_option linter.unusedSimpArgs false
set_option linter.unusedVariables false
set_option maxRecDepth 100000
set_option maxHeartbeats 1600000
open Go.RowKit
section
variable {P:Program}
theorem st(w:World)(t e:TypeId)(x:BitVec 8)(hu:P.underlying t=some (.slice e))(hi:(P.info? e).map (fun i=>(i.zero,i.size,i.bytes))=some (some (.int .u8 0),1,1)):
  (Instr.buildSlice t 1 #[(0,v8 x)]).run P w= .ok (.slice (some ⟨w.heap.size,0,none⟩) 1 1) (w.alloc (.cells (A8 [x]) e)):=by
 obtain⟨i,hi,hz,hs,_⟩:=info_parts hi;have hc:(v8 x).cells= #[v8 x]:=rfl;simp[Instr.buildSlice,run_underlying hu,sizeOf,typeInfo,hi,hs,newRow,Instr.fill,zeroValue,hz,hc,A8];congr 2;rw[show Array.range 1= #[0] from rfl];simp
theorem ga {ops:Array Oper} {K:Act→World→Prop} {ks:List Nat} {l:List Oper} {a:Act} {w:World} {d:Option Tmp} {y:Operand} {t ty e:TypeId} {pos:String} {after:Array Edge} {x:BitVec 8}(hy:a.eval y=v8 x)(ht:P.underlying t=some (.slice e))(hi:(P.info? e).map (fun i=>(i.zero,i.size,i.bytes))=some (some (.int .u8 0),1,1))
  (h: ∀w1 b,Rd8 w1 (some ⟨b,0,none⟩) 1 1 [x]→Below w.heap.size w w1→wpZ P ops K ks l (a.put d (.slice (some ⟨b,0,none⟩) 1 1)) w1):
  wpZ P ops K (2::ks) (⟨d,.buildSlice t 1 #[(0,y)],ty,pos,after,none⟩::l) a w:=by
 unfold wpZ opT;simp only[Region.wanted,if_true];have hr:(execOp a.eval ⟨d,.buildSlice t 1 #[(0,y)],ty,pos,after,none⟩).run P w= .ok (.value (.slice (some ⟨w.heap.size,0,none⟩) 1 1)) (w.alloc (.cells (A8 [x]) e)):=by
  simp only[execOp,List.map_toArray,List.map_cons,List.map_nil,hy,Sem.run_bind,st w t e x ht hi,Result.andThen_ok,Sem.run_pure]
 unfold Oper.wp;rw[hr];have hb:=(Blk.new w e (A8 [x])).rd8 1 (by simp) (by simp[maxLen]);exact h _ _ hb ((Below.refl _ _).alloc (Nat.le_refl _) _)
end
open Go.RowKit
def ti:Y8:=[65#8,66#8,67#8,68#8,69#8,70#8,71#8,72#8,73#8,74#8,75#8,76#8,77#8,78#8,79#8,80#8,81#8,82#8,83#8,84#8,85#8,86#8,87#8,88#8,89#8,90#8,97#8,98#8,99#8,100#8,101#8,102#8,103#8,104#8,105#8,106#8,107#8,108#8,109#8,110#8,111#8,112#8,113#8,114#8,115#8,116#8,117#8,118#8,119#8,120#8,121#8,122#8,48#8,49#8,50#8,51#8,52#8,53#8,54#8,55#8,56#8,57#8,45#8,95#8]
theorem uJ:({data:= #[65,66,67,68,69,70,71,72,73,74,75,76,77,78,79,80,81,82,83,84,85,86,87,88,89,90,97,98,99,100,101,102,103,104,105,106,107,108,109,110,111,112,113,114,115,116,117,118,119,120,121,122,48,49,50,51,52,53,54,55,56,57,45,95]}:ByteArray)=str ti:=by decide
def sgn(x:BitVec 32):BitVec 8:=nth ti x.toNat
def num(c:BitVec 8):Option (BitVec 8):=
 if 65≤c.toNat∧c.toNat≤90 then some (c-65#8)
 else if 97≤c.toNat∧c.toNat≤122 then some (c-97#8+26#8)
 else if 48≤c.toNat∧c.toNat≤57 then some (c-48#8+52#8)
 else if c=45#8 then some 62#8
 else if c=95#8 then some 63#8
 else none
section
variable {P:Program}
theorem xU(l:Y8)(i:Nat)(h:i<l.length):(str l)[i]? =some (UInt8.ofBitVec (nth l i)):=by
 have h2:i<(str l).size:=by rw[bR];exact h
 rw[getElem?_pos (str l) i h2];congr 1;show(str l).data[i]=_;have:=eO l;rw[←Array.getElem_toList];simp[this,nth,List.getD_eq_getElem?_getD,h]
theorem uK {T:TypeId}(hT:P.underlying T=some .string)(l:Y8)(k:IntKind)(i:Nat)(h:i<l.length)(w:World):(Instr.index T (.string (str l)) (.int k i)).run P w= .ok (v8 (nth l i)) w:=by
 have h0:(0:Int)≤(i:Int):=by omega
 simp only[Instr.index,asIntOf,Sem.run_bind,Sem.run_pure,Result.andThen_ok,run_underlying hT,h0,if_true,Int.toNat_natCast,xU l i h];rfl
end
@[go_sem high] theorem su(x:BitVec 32)(h:x.toNat<64)(w:World):(Instr.index 9 (.string {data:= #[65,66,67,68,69,70,71,72,73,74,75,76,77,78,79,80,81,82,83,84,85,86,87,88,89,90,97,98,99,100,101,102,103,104,105,106,107,108,109,110,111,112,113,114,115,116,117,118,119,120,121,122,48,49,50,51,52,53,54,55,56,57,45,95]}) (v32 x)).run prog w= .ok (v8 (sgn x)) w:=by
 rw[uJ];exact uK underlying9 ti .u32 x.toNat h w
open Go.RowKit
def wd(a b c:BitVec 8):BitVec 32:=a.setWidth 32<<<16|||b.setWidth 32<<<8|||c.setWidth 32
def sig(n:BitVec 32)(k:Nat):BitVec 8:=sgn ((n>>>(18-6*k))&&&63#32)
def sigs(n:BitVec 32)(m:Nat):Y8:=(List.range m).map (sig n)
def enc:Y8→Y8
 | []=>[]
 | [a]=>sigs (wd a 0 0) 2
 | [a,b]=>sigs (wd a b 0) 3
 |a::b::c::r=>sigs (wd a b c) 4++enc r
theorem bB(n:BitVec 32)(m:Nat):(sigs n m).length=m:=by simp[sigs]
theorem jG(n:BitVec 32)(m:Nat):sigs n m++ [sig n m]=sigs n (m+1):=by simp[sigs,List.range_succ]
theorem qb(x:BitVec 32):(x&&&63#32).toNat<64:=by
 rw[BitVec.toNat_and];exact Nat.lt_of_le_of_lt Nat.and_le_right (by decide)
@[go_sem high] theorem xW(x:BitVec 32)(w:World):(Instr.index 9 (.string {data:= #[65,66,67,68,69,70,71,72,73,74,75,76,77,78,79,80,81,82,83,84,85,86,87,88,89,90,97,98,99,100,101,102,103,104,105,106,107,108,109,110,111,112,113,114,115,116,117,118,119,120,121,122,48,49,50,51,52,53,54,55,56,57,45,95]}) (v32 (x&&&63#32))).run prog w= .ok (v8 (sgn (x&&&63#32))) w:=su _ (qb x) w
theorem dH(l:Y8)(i:Nat)(h:i<l.length):l.drop i=nth l i::l.drop (i+1):=by
 rw[List.drop_eq_getElem_cons h];simp[nth,List.getD_eq_getElem?_getD,h]
theorem xX(l:Y8)(i:Nat)(h:i+1=l.length):enc (l.drop i)=sigs (wd (nth l i) 0 0) 2++enc (l.drop (i+3)):=by
 rw[dH l i (by omega),List.drop_eq_nil_of_le (i:=i+1) (by omega),List.drop_eq_nil_of_le (i:=i+3) (by omega)];simp[enc]
theorem xZ(l:Y8)(i:Nat)(h:i+2=l.length):enc (l.drop i)=sigs (wd (nth l i) (nth l (i+1)) 0) 3++enc (l.drop (i+3)):=by
 rw[dH l i (by omega),dH l (i+1) (by omega),List.drop_eq_nil_of_le (i:=i+1+1) (by omega),List.drop_eq_nil_of_le (i:=i+3) (by omega)];simp[enc]
theorem uL(l:Y8)(i:Nat)(h:i+3≤l.length):enc (l.drop i)=sigs (wd (nth l i) (nth l (i+1)) (nth l (i+2))) 4++enc (l.drop (i+3)):=by
 rw[dH l i (by omega),dH l (i+1) (by omega),dH l (i+1+1) (by omega)];simp[enc]
theorem mC(l:Y8)(a:Option Addr)(n c:Nat)(w:World)(hr:Rd8 w a n c l)(hsz:n≤1000000000):
  Calls prog 92 #[.slice a n c] w fun e w' =>e= .returned (.string (str (enc l)))∧Below w.heap.size w w':=by
 obtain⟨cap,hcap⟩: ∃cap,cap=(n+2)/3*4:=⟨_,rfl⟩;have hcl:cap≤4000000000:=by omega
 have e1:((n:Int)+2)/3*4=(cap:Int):=by omega
 have hmk:=bZ (P:=prog) w 22 5 0 cap underlying22 bQ (by omega) (by omega) (by omega);rw[Int.toNat_natCast,Int.toNat_zero]at hmk;have L:=hid hr;have N:=hid hr.1;have HC:=hid hcl;clear hr hcap hcl;go_enter func92,ntmps92;go_wp2_with fail;go_loopw [3,4] (fun v i wr=> ∃(j:Nat) (acc:Y8),j≤n+2∧i= .int .i64 j∧acc.length≤2*j∧Own8 wr w.heap.size 5 v acc∧acc++enc (l.drop j)=enc l∧Below w.heap.size w wr) (fun _ i _=>n+3-(intOf i).toNat)
 case atStart=>
  have q:=Own8.made w w.heap.size 5 (aa 8 cap) 0 (Nat.le_refl _) (by simp) (by have:=HC.out;rw[af];unfold maxLen;omega);rw[af]at q;exact⟨0,[],by omega,rfl,by simp,q,rfl,(Below.refl _ _).alloc (Nat.le_refl _) _⟩
 case round=>
  obtain⟨j,acc,hj,rfl,hal,hown,henc,hbel⟩:=hrel;have O:=hid hown;have E:=hid henc;have B:=hid hbel;have A:=hid hal;clear hown henc hbel hal hmk e1;have hnl:=N.out;by_cases hjn:j<n
  ·have j0:(0:Int)≤(j:Int):=by omega
   have j1:(j:Int)<(n:Int):=by omega
   obtain⟨b,o,rfl,hb,hc⟩:=L.out.2.2.2 (by omega);have c0:wr.cell? ⟨b,o+j,none⟩=some (v8 (nth l j)):=(B.out.cell hb).trans (hc j hjn);by_cases h1:j+1<n
   ·obtain⟨J,hJ⟩: ∃J,J=j+1:=⟨_,rfl⟩;have f1:(j:Int)+1=(J:Int):=by omega
    have f2:IntKind.i64.wrap (J:Int)=(J:Int):=by rw[IntKind.wrap_i64];omega
    have f3:(J:Int)<(n:Int):=by omega
    have f4:(0:Int)≤(J:Int):=by omega
    have c1:wr.cell? ⟨b,o+J,none⟩=some (v8 (nth l J)):=(B.out.cell hb).trans (hc J (by omega));obtain⟨J2,hJ2⟩: ∃J,J=j+2:=⟨_,rfl⟩;have g1:(j:Int)+2=(J2:Int):=by omega
    have g2:IntKind.i64.wrap (J2:Int)=(J2:Int):=by rw[IntKind.wrap_i64];omega
    by_cases h2:j+2<n
    ·have g3:(J2:Int)<(n:Int):=by omega
     have g4:(0:Int)≤(J2:Int):=by omega
     have c2:wr.cell? ⟨b,o+J2,none⟩=some (v8 (nth l J2)):=(B.out.cell hb).trans (hc J2 (by omega));have HJ:=hid hJ;have HJ2:=hid hJ2;clear hJ hJ2 hc hb hnl;go_wp2_with fail;go_loopw [3,58] (fun v k wz=> ∃q:Nat,q≤4∧k= .int .i64 q∧Own8 wz w.heap.size 5 v (acc++sigs (wd (nth l j) (nth l J) (nth l J2)) q)∧Below w.heap.size w wz) (fun _ k _=>4-(intOf k).toNat)
     case atStart=>exact⟨0,Nat.zero_le _,rfl,by rw[show sigs _ 0=[] from rfl,List.append_nil];exact O.out,B.out⟩
     case round=>
      obtain⟨q,hq,rfl,hown,hbel⟩:=hrel;have O2:=hid hown;have B2:=hid hbel;clear O B hown hbel;by_cases hqM:q<4
      ·obtain⟨S,hS⟩: ∃S,S=18-6*q:=⟨_,rfl⟩;have q1:(q:Int)<4:=by omega
       have s1:(18:Int)-6*(q:Int)=(S:Int):=by omega
       have s2:IntKind.i64.wrap (6*(q:Int))=6*(q:Int):=by rw[IntKind.wrap_i64];omega
       have s3:IntKind.i64.wrap (S:Int)=(S:Int):=by rw[IntKind.wrap_i64];omega
       have s0:(0:Int)≤(S:Int):=by omega
       have HS:=hid hS;clear hS;go_upto_region 16 with fail;refine aq [0,0,0,0,0,0,0,0,2,2,0] rfl (fun ops' K2 hK2=> ?_)
       repeat (first|((with_reducible refine zq0 ?_);refine zq0a ?_)|((with_reducible refine zq1 ?_);refine zq1a ?_))
       refine ga rfl underlying22 bQ (fun w2 b2 hr2 hb2=> ?_);simp only[Act.put,zz1,zz2,zz3];refine dE (O2.out.below hb2) hr2 rfl rfl underlying22 bQ (by have:=A.out;simp[bB];omega) (Nat.le_trans B2.out.size hb2.size) (fun w3 v3 o3 g3 b3=> ?_);simp only[Act.put,zz1,zz2,zz3]
       repeat (first|((with_reducible refine zq0 ?_);refine zq0a ?_)|((with_reducible refine zq1 ?_);refine zq1a ?_))
       refine ak (hK2 _ _ ?_);have ho3:Own8 w3 w.heap.size 5 v3 (acc++sigs (wd (nth l j) (nth l J) (nth l J2)) (q+1)):=by
        rw[←jG,←List.append_assoc];unfold sig;rw[←HS.out];simpa[wd]using o3
       have O3:=hid ho3;have B3:=hid ((B2.out.trans (hb2.mono B2.out.size)).trans b3);clear o3 g3 b3 hb2 hr2 ho3;go_wp2;exact⟨⟨q+1,by omega,by go_num,O3.out,B3.out⟩,by simp[intOf];omega⟩
      ·obtain rfl:q=4:=by omega
       obtain⟨J3,hJ3⟩: ∃J,J=j+3:=⟨_,rfl⟩;have p1:(j:Int)+3=(J3:Int):=by omega
       have p2:IntKind.i64.wrap (J3:Int)=(J3:Int):=by rw[IntKind.wrap_i64];omega
       have HJ3:=hid hJ3;clear hJ3;go_wp2;have hJ3:=HJ3.out;subst hJ3;exact⟨⟨j+3,_,by omega,rfl,by have:=A.out;simp[bB];omega,O2.out,by rw[←E.out,uL l j (by rw[N.out];omega),HJ.out,HJ2.out,List.append_assoc],B2.out⟩,by simp[intOf];omega⟩
    ·have g3: ¬(J2:Int)<(n:Int):=by omega
     have HJ:=hid hJ;clear hJ hJ2 hc hb hnl;go_wp2_with fail;go_loopw [3,58] (fun v k wz=> ∃q:Nat,q≤3∧k= .int .i64 q∧Own8 wz w.heap.size 5 v (acc++sigs (wd (nth l j) (nth l J) 0) q)∧Below w.heap.size w wz) (fun _ k _=>3-(intOf k).toNat)
     case atStart=>exact⟨0,Nat.zero_le _,rfl,by rw[show sigs _ 0=[] from rfl,List.append_nil];exact O.out,B.out⟩
     case round=>
      obtain⟨q,hq,rfl,hown,hbel⟩:=hrel;have O2:=hid hown;have B2:=hid hbel;clear O B hown hbel;by_cases hqM:q<3
      ·obtain⟨S,hS⟩: ∃S,S=18-6*q:=⟨_,rfl⟩;have q1:(q:Int)<3:=by omega
       have s1:(18:Int)-6*(q:Int)=(S:Int):=by omega
       have s2:IntKind.i64.wrap (6*(q:Int))=6*(q:Int):=by rw[IntKind.wrap_i64];omega
       have s3:IntKind.i64.wrap (S:Int)=(S:Int):=by rw[IntKind.wrap_i64];omega
       have s0:(0:Int)≤(S:Int):=by omega
       have HS:=hid hS;clear hS;go_upto_region 16 with fail;refine aq [0,0,0,0,0,0,0,0,2,2,0] rfl (fun ops' K2 hK2=> ?_)
       repeat (first|((with_reducible refine zq0 ?_);refine zq0a ?_)|((with_reducible refine zq1 ?_);refine zq1a ?_))
       refine ga rfl underlying22 bQ (fun w2 b2 hr2 hb2=> ?_);simp only[Act.put,zz1,zz2,zz3];refine dE (O2.out.below hb2) hr2 rfl rfl underlying22 bQ (by have:=A.out;simp[bB];omega) (Nat.le_trans B2.out.size hb2.size) (fun w3 v3 o3 g3 b3=> ?_);simp only[Act.put,zz1,zz2,zz3]
       repeat (first|((with_reducible refine zq0 ?_);refine zq0a ?_)|((with_reducible refine zq1 ?_);refine zq1a ?_))
       refine ak (hK2 _ _ ?_);have ho3:Own8 w3 w.heap.size 5 v3 (acc++sigs (wd (nth l j) (nth l J) 0) (q+1)):=by
        rw[←jG,←List.append_assoc];unfold sig;rw[←HS.out];simpa[wd]using o3
       have O3:=hid ho3;have B3:=hid ((B2.out.trans (hb2.mono B2.out.size)).trans b3);clear o3 g3 b3 hb2 hr2 ho3;go_wp2;exact⟨⟨q+1,by omega,by go_num,O3.out,B3.out⟩,by simp[intOf];omega⟩
      ·obtain rfl:q=3:=by omega
       obtain⟨J3,hJ3⟩: ∃J,J=j+3:=⟨_,rfl⟩;have p1:(j:Int)+3=(J3:Int):=by omega
       have p2:IntKind.i64.wrap (J3:Int)=(J3:Int):=by rw[IntKind.wrap_i64];omega
       have HJ3:=hid hJ3;clear hJ3;go_wp2;have hJ3:=HJ3.out;subst hJ3;exact⟨⟨j+3,_,by omega,rfl,by have:=A.out;simp[bB];omega,O2.out,by rw[←E.out,xZ l j (by rw[N.out];omega),HJ.out,List.append_assoc],B2.out⟩,by simp[intOf];omega⟩
   ·obtain⟨J,hJ⟩: ∃J,J=j+1:=⟨_,rfl⟩;have f1:(j:Int)+1=(J:Int):=by omega
    have f2:IntKind.i64.wrap (J:Int)=(J:Int):=by rw[IntKind.wrap_i64];omega
    have f3: ¬(J:Int)<(n:Int):=by omega
    obtain⟨J2,hJ2⟩: ∃J,J=j+2:=⟨_,rfl⟩;have g1:(j:Int)+2=(J2:Int):=by omega
    have g2:IntKind.i64.wrap (J2:Int)=(J2:Int):=by rw[IntKind.wrap_i64];omega
    have g3: ¬(J2:Int)<(n:Int):=by omega
    clear hJ hJ2 hc hb hnl;go_wp2_with fail;go_loopw [3,58] (fun v k wz=> ∃q:Nat,q≤2∧k= .int .i64 q∧Own8 wz w.heap.size 5 v (acc++sigs (wd (nth l j) 0 0) q)∧Below w.heap.size w wz) (fun _ k _=>2-(intOf k).toNat)
    case atStart=>exact⟨0,Nat.zero_le _,rfl,by rw[show sigs _ 0=[] from rfl,List.append_nil];exact O.out,B.out⟩
    case round=>
     obtain⟨q,hq,rfl,hown,hbel⟩:=hrel;have O2:=hid hown;have B2:=hid hbel;clear O B hown hbel;by_cases hqM:q<2
     ·obtain⟨S,hS⟩: ∃S,S=18-6*q:=⟨_,rfl⟩;have q1:(q:Int)<2:=by omega
      have s1:(18:Int)-6*(q:Int)=(S:Int):=by omega
      have s2:IntKind.i64.wrap (6*(q:Int))=6*(q:Int):=by rw[IntKind.wrap_i64];omega
      have s3:IntKind.i64.wrap (S:Int)=(S:Int):=by rw[IntKind.wrap_i64];omega
      have s0:(0:Int)≤(S:Int):=by omega
      have HS:=hid hS;clear hS;go_upto_region 16 with fail;refine aq [0,0,0,0,0,0,0,0,2,2,0] rfl (fun ops' K2 hK2=> ?_)
      repeat (first|((with_reducible refine zq0 ?_);refine zq0a ?_)|((with_reducible refine zq1 ?_);refine zq1a ?_))
      refine ga rfl underlying22 bQ (fun w2 b2 hr2 hb2=> ?_);simp only[Act.put,zz1,zz2,zz3];refine dE (O2.out.below hb2) hr2 rfl rfl underlying22 bQ (by have:=A.out;simp[bB];omega) (Nat.le_trans B2.out.size hb2.size) (fun w3 v3 o3 g3 b3=> ?_);simp only[Act.put,zz1,zz2,zz3]
      repeat (first|((with_reducible refine zq0 ?_);refine zq0a ?_)|((with_reducible refine zq1 ?_);refine zq1a ?_))
      refine ak (hK2 _ _ ?_);have ho3:Own8 w3 w.heap.size 5 v3 (acc++sigs (wd (nth l j) 0 0) (q+1)):=by
       rw[←jG,←List.append_assoc];unfold sig;rw[←HS.out];simpa[wd]using o3
      have O3:=hid ho3;have B3:=hid ((B2.out.trans (hb2.mono B2.out.size)).trans b3);clear o3 g3 b3 hb2 hr2 ho3;go_wp2;exact⟨⟨q+1,by omega,by go_num,O3.out,B3.out⟩,by simp[intOf];omega⟩
     ·obtain rfl:q=2:=by omega
      obtain⟨J3,hJ3⟩: ∃J,J=j+3:=⟨_,rfl⟩;have p1:(j:Int)+3=(J3:Int):=by omega
      have p2:IntKind.i64.wrap (J3:Int)=(J3:Int):=by rw[IntKind.wrap_i64];omega
      have HJ3:=hid hJ3;clear hJ3;go_wp2;have hJ3:=HJ3.out;subst hJ3;exact⟨⟨j+3,_,by omega,rfl,by have:=A.out;simp[bB];omega,O2.out,by rw[←E.out,xX l j (by rw[N.out];omega),List.append_assoc],B2.out⟩,by simp[intOf];omega⟩
  ·have j1: ¬(j:Int)<(n:Int):=by omega
   have hf:=E.out;rw[List.drop_eq_nil_of_le (by omega),show enc []=[] from rfl,List.append_nil]at hf;subst hf;obtain⟨a2,c2,rfl,hr2,_⟩:=O.out.rd;have s1:=xB (P:=prog) wr 22 9 5 _ _ _ _ underlying22 underlying9 underlying5 hr2;clear hnl hr2;go_wp2;go_ret;exact⟨rfl,B.out⟩
end Go.Proofs.YtlpkfdkhlffmlaaGreatDoor
