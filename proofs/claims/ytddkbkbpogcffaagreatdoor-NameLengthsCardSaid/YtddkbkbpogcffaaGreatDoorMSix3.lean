/-sixty:Decode-/
import Derived.Test.YtddkbkbpogcffaaGreatDoorMNc
import Derived.Test.YtddkbkbpogcffaaGreatDoorMGm
namespace Go.Proofs.YtddkbkbpogcffaaGreatDoor
open Go.Proofs.Tryz
open Lib (hid)
set_option linter.unusedSimpArgs false
set_option linter.unusedVariables false
set_option maxRecDepth 100000
set_option maxHeartbeats 1600000
open Go.RowKit
def dec:Y8→Option (Y8)
 | []=>some []
 | [_]=>none
 | [x,y]=>(num x).bind fun p=>(num y).bind fun q=>if q<<<4=0#8 then some [p<<<2|||q>>>4]else none
 | [x,y,z]=>(num x).bind fun p=>(num y).bind fun q=>(num z).bind fun r=>if r<<<6=0#8 then some [p<<<2|||q>>>4,q<<<4|||r>>>2]else none
 |x::y::z::t::s=>(num x).bind fun p=>(num y).bind fun q=>(num z).bind fun r=>(num t).bind fun u=>(dec s).map fun o=>(p<<<2|||q>>>4)::(q<<<4|||r>>>2)::(r<<<6|||u)::o
section
variable {l:Y8} {j:Nat}
theorem IE(h:j=l.length):dec (l.drop j)=some []:=by rw[List.drop_eq_nil_of_le (by omega)];rfl
theorem IG(h:j<l.length)(hx:num (nth l j)=none):dec (l.drop j)=none:=by
 rw[aS l j h]
 match l.drop (j+1)with
 | []=>rfl
 | [y]=>simp[dec,hx]
 | [y,z]=>simp[dec,hx]
 |y::z::t::r=>simp[dec,hx]
theorem IH(h:j+1=l.length):dec (l.drop j)=none:=by
 rw[aS l j (by omega),List.drop_eq_nil_of_le (by omega)];rfl
theorem II(h:j+1<l.length)(hx:num (nth l (j+1))=none):dec (l.drop j)=none:=by
 rw[aS l j (by omega),aS l (j+1) h]
 match l.drop (j+1+1)with
 | []=>simp[dec,hx]
 | [z]=>simp[dec,hx]
 |z::t::r=>simp[dec,hx]
theorem IJ(h:j+2=l.length) {p q:BitVec 8}(hp:num (nth l j)=some p)(hq:num (nth l (j+1))=some q):dec (l.drop j)=if q<<<4=0#8 then some [p<<<2|||q>>>4]else none:=by
 rw[aS l j (by omega),aS l (j+1) (by omega),List.drop_eq_nil_of_le (i:=j+1+1) (by omega)];simp[dec,hp,hq]
theorem IK(h:j+2<l.length)(hx:num (nth l (j+2))=none):dec (l.drop j)=none:=by
 rw[aS l j (by omega),aS l (j+1) (by omega),aS l (j+1+1) h]
 match l.drop (j+1+1+1)with
 | []=>simp[dec,hx]
 |t::r=>simp[dec,hx]
theorem Ea(h:j+3=l.length) {p q r:BitVec 8}(hp:num (nth l j)=some p)(hq:num (nth l (j+1))=some q)(hr:num (nth l (j+2))=some r):dec (l.drop j)=if r<<<6=0#8 then some [p<<<2|||q>>>4,q<<<4|||r>>>2]else none:=by
 rw[aS l j (by omega),aS l (j+1) (by omega),aS l (j+1+1) (by omega),List.drop_eq_nil_of_le (i:=j+1+1+1) (by omega)];simp[dec,hp,hq,hr]
theorem IL(h:j+3<l.length)(hx:num (nth l (j+3))=none):dec (l.drop j)=none:=by
 rw[aS l j (by omega),aS l (j+1) (by omega),aS l (j+1+1) (by omega),aS l (j+1+1+1) h];simp[dec,hx]
theorem Gr(h:j+3<l.length) {p q r u:BitVec 8}(hp:num (nth l j)=some p)(hq:num (nth l (j+1))=some q)(hr:num (nth l (j+2))=some r)(hu:num (nth l (j+3))=some u):dec (l.drop j)=(dec (l.drop (j+4))).map fun o=>(p<<<2|||q>>>4)::(q<<<4|||r>>>2)::(r<<<6|||u)::o:=by
 rw[aS l j (by omega),aS l (j+1) (by omega),aS l (j+1+1) (by omega),aS l (j+1+1+1) h];simp[dec,hp,hq,hr,hu]
end
def MT(w:World)(l:Y8)(a':Act)(w':World):Prop:=
 ∃(j:Nat) (v x:Value) (acc:Y8),(∃u:Nat→Value,a' ={tmps:=(fun u:Nat→Value=> #[.string (str l),u 1,u 2,u 3,u 4,x,u 6,.int .i64 j,v,u 9,u 10,u 11,u 12,u 13,u 14,u 15,u 16,u 17,u 18,u 19,u 20,u 21,u 22,u 23,u 24,u 25,u 26,u 27,u 28,u 29,u 30,u 31,u 32,u 33,u 34,u 35,u 36,u 37,u 38,u 39,u 40,u 41,u 42,u 43,u 44,u 45,u 46,u 47,u 48,u 49,u 50,u 51,u 52,u 53,u 54,u 55,u 56,u 57,u 58,u 59,u 60,u 61,u 62,u 63,u 64,u 65,u 66,u 67,u 68,u 69,u 70,u 71,u 72,u 73,u 74,u 75,u 76,u 77,u 78,u 79,u 80,u 81,u 82,u 83,u 84,u 85,u 86,u 87,u 88,u 89,u 90,u 91,u 92,u 93,u 94,u 95,u 96,u 97,u 98,u 99,u 100,u 101,u 102,u 103,u 104]) u,defers:=[]})∧j≤l.length∧acc.length≤j∧Own8 w' w.heap.size 5 v acc∧(dec (l.drop j)).map (acc++ ·)=dec l∧Below w.heap.size w w'
def MW(w:World)(l:Y8)(a':Act)(w':World):Prop:=
 ∃(i v:Value) (x:BitVec 8) (acc:Y8),(∃u:Nat→Value,a' ={tmps:=(fun u:Nat→Value=> #[.string (str l),u 1,u 2,u 3,u 4,v8 x,u 6,i,v,u 9,u 10,u 11,u 12,u 13,u 14,u 15,u 16,u 17,u 18,u 19,u 20,u 21,u 22,u 23,u 24,u 25,u 26,u 27,u 28,u 29,u 30,u 31,u 32,u 33,u 34,u 35,u 36,u 37,u 38,u 39,u 40,u 41,u 42,u 43,u 44,u 45,u 46,u 47,u 48,u 49,u 50,u 51,u 52,u 53,u 54,u 55,u 56,u 57,u 58,u 59,u 60,u 61,u 62,u 63,u 64,u 65,u 66,u 67,u 68,u 69,u 70,u 71,u 72,u 73,u 74,u 75,u 76,u 77,u 78,u 79,u 80,u 81,u 82,u 83,u 84,u 85,u 86,u 87,u 88,u 89,u 90,u 91,u 92,u 93,u 94,u 95,u 96,u 97,u 98,u 99,u 100,u 101,u 102,u 103,u 104]) u,defers:=[]})∧Own8 w' w.heap.size 5 v acc∧(if x=0#8 then some acc else none)=dec l∧Below w.heap.size w w'
def MX(w:World)(l:Y8)(a':Act)(w':World):Prop:=
 (∃u:Nat→Value,a' ={tmps:=(fun u:Nat→Value=> #[u 0,u 1,u 2,u 3,u 4,u 5,u 6,u 7,u 8,u 9,u 10,u 11,u 12,u 13,u 14,u 15,u 16,u 17,u 18,u 19,u 20,u 21,u 22,u 23,u 24,u 25,u 26,u 27,u 28,u 29,u 30,u 31,u 32,u 33,u 34,u 35,u 36,u 37,u 38,u 39,u 40,u 41,u 42,u 43,u 44,u 45,u 46,u 47,u 48,u 49,u 50,u 51,u 52,u 53,u 54,u 55,u 56,u 57,u 58,u 59,u 60,u 61,u 62,u 63,u 64,u 65,u 66,u 67,u 68,u 69,u 70,u 71,u 72,u 73,u 74,u 75,u 76,u 77,u 78,u 79,u 80,u 81,u 82,u 83,u 84,u 85,u 86,u 87,u 88,u 89,u 90,u 91,u 92,u 93,u 94,u 95,u 96,u 97,u 98,u 99,u 100,u 101,u 102,u 103,u 104]) u,defers:=[]})∧dec l=none∧Below w.heap.size w w'
def nL(n:Nat)(l:Nat)(a:Act)(_:World):Nat:=if l=0 then 10+(n-(match a.tmps.getD 7 undef with| .int _ i=>i.toNat|_=>0))else if l=2 then 5 else 0
def IM(w:World)(d:Option (Y8))(e:Ending)(w':World):Prop:=
 match d with
 |none=>e= .returned (.tuple #[.slice none 0 0,.int .i64 13])
 |some b=> ∃v,e= .returned (.tuple #[v,.int .i64 0])∧Own8 w' w.heap.size 5 v b
theorem tU(l:Y8)(w:World)(hsz:l.length≤1000000000):
  Calls prog 35 #[.string (str l)] w fun e w' =>IM w (dec l) e w'∧Below w.heap.size w w':=by
 obtain⟨cap,hcap⟩: ∃cap,cap=l.length/4*3+2:=⟨_,rfl⟩;have hcl:cap≤4000000000:=by omega
 have hsl:(str l).size=l.length:=ee l;have e1:((l.length:Nat):Int)/4*3+2=(cap:Int):=by omega
 have hmk:=cE (P:=prog) w 22 5 0 cap underlying22 bM (by omega) (by omega) (by omega);rw[Int.toNat_natCast,Int.toNat_zero]at hmk;have HC:=hid hcl;clear hcap hcl;go_enter func35,ntmps35;go_wp2;refine Cu (MT w l) (MX w l) (MW w l) (nL l.length) rfl rfl rfl (fun hrest=> ?_) ?_ ?_ ?_
 ·go_wp2;go_step3;refine ‹∀(a:Act) (w_1:World),Code.wp _ _ _ a w_1→_› _ _ (hrest _ _ ?_);have q:=Own8.made w w.heap.size 5 (ac 8 cap) 0 (Nat.le_refl _) (by simp) (by have:=HC.out;rw[ah];unfold maxLen;omega);rw[ah]at q;exact⟨0,_,_,[],aE _ rfl,by omega,by simp,q,by rw[List.drop_zero];cases dec l<;>simp,(Below.refl _ _).alloc (Nat.le_refl _) _⟩
 ·rintro a' w' ⟨j,v,x,acc,⟨u,rfl⟩,hj,hal,hO,hd,hB⟩;clear hmk e1;by_cases hj0:j=l.length
  ·rw[IE hj0]at hd;subst hj0;go_wp2;go_ret2;rw[←hd];simp only[Option.map_some,List.append_nil];exact⟨⟨_,rfl,hO⟩,hB⟩
  ·have n0: ¬(j:Int)=(l.length:Int):=by omega
   have l0:j<l.length:=by omega
   go_wp2_with fail;refine(jV (nth l j) _).mono ?_;rintro e w1 ⟨rfl,rfl⟩;cases hp:num (nth l j)with
   |none=>
    go_wp2
    all_goals
     go_step3;refine⟨⟨aE _ rfl,?_,hB⟩,by simp[nL];omega⟩;rw[←hd,IG l0 hp];rfl
   |some p=>
    obtain⟨J,hJ⟩: ∃nx,nx=j+1:=⟨_,rfl⟩;have fJ:(j:Int)+1=(J:Int):=by omega
    have gJ:IntKind.i64.wrap (J:Int)=(J:Int):=by rw[IntKind.wrap_i64];omega
    have HJ:=hid hJ;clear hJ;by_cases hj1:J=l.length
    ·have hd1:=IH (l:=l) (j:=j) (by rw[←HJ.out];exact hj1);clear HJ;subst hj1;go_wp2
     all_goals
      go_step3;refine⟨⟨aE _ rfl,?_,hB⟩,by simp[nL];omega⟩;rw[←hd,hd1];rfl
    ·have n1: ¬(J:Int)=(l.length:Int):=by omega
     have l1:J<l.length:=by omega
     go_wp2_with fail;refine(jV (nth l J) _).mono ?_;rintro e w1 ⟨rfl,rfl⟩;cases hq:num (nth l J)with
     |none=>
      have hd1:=II (l:=l) (j:=j) (by rw[←HJ.out];exact l1) (by rw[←HJ.out];exact hq);go_wp2
      all_goals
       go_step3;refine⟨⟨aE _ rfl,?_,hB⟩,by simp[nL];omega⟩;rw[←hd,hd1];rfl
     |some q=>
      obtain⟨Q,hQ⟩: ∃nx,nx=J+1:=⟨_,rfl⟩;have fQ:(J:Int)+1=(Q:Int):=by omega
      have gQ:IntKind.i64.wrap (Q:Int)=(Q:Int):=by rw[IntKind.wrap_i64];omega
      have HQ:=hid hQ;clear hQ;go_upto_region 15 with fail;refine aG [0,0,0,0,0,2,2,0] rfl (fun ops' K2 hK2=> ?_)
      repeat (first|((with_reducible refine zq0 ?_);refine zq0a ?_)|((with_reducible refine zq1 ?_);refine zq1a ?_))
      refine iB (x:=p<<<2|||q>>>4) rfl underlying22 bM (fun w2 b2 hr2 hb2=> ?_);simp only[Act.put,zz1,zz2,zz3];refine bE (hO.below hb2) hr2 rfl rfl underlying22 bM (by simp;omega) (Nat.le_trans hB.size hb2.size) (fun w3 v3 hO2 g3 b3=> ?_);simp only[Act.put,zz1,zz2,zz3]
      repeat (first|((with_reducible refine zq0 ?_);refine zq0a ?_)|((with_reducible refine zq1 ?_);refine zq1a ?_))
      refine az (hK2 _ _ ?_)
      replace hB:=(hB.trans (hb2.mono hB.size)).trans b3
      clear g3 b3 hb2 hr2 hK2;have eJ:=HJ.out;have eQ:=HQ.out;have hq':num (nth l (j+1))=some q:=by rw[←eJ];exact hq
      have HQ':=hid hq';by_cases hj2:Q=l.length
      ·have hd2:=IJ (l:=l) (j:=j) (by omega) hp hq';clear HJ HQ eJ eQ hq' HQ';subst hj2;go_wp2;go_step3;refine⟨⟨_,_,q<<<4,_,aE _ rfl,hO2,?_,hB⟩,by simp[nL];omega⟩;rw[←hd,hd2]
       split<;>rfl
      ·have n2: ¬(Q:Int)=(l.length:Int):=by omega
       have l2:Q<l.length:=by omega
       have HEQ:=hid (show Q=j+2 by omega);clear eJ eQ hq';go_wp2_with fail;refine(jV (nth l Q) _).mono ?_;rintro e w4 ⟨rfl,rfl⟩;cases hr:num (nth l Q)with
       |none=>
        have hd1:=IK (l:=l) (j:=j) (by rw[←HEQ.out];exact l2) (by rw[←HEQ.out];exact hr);go_wp2
        all_goals
         go_step3;refine⟨⟨aE _ rfl,?_,hB⟩,by simp[nL];omega⟩;rw[←hd,hd1];rfl
       |some r=>
        obtain⟨T,hT⟩: ∃nx,nx=Q+1:=⟨_,rfl⟩;have fT:(Q:Int)+1=(T:Int):=by omega
        have gT:IntKind.i64.wrap (T:Int)=(T:Int):=by rw[IntKind.wrap_i64];omega
        have HT:=hid hT;clear hT;go_upto_region 21 with fail;refine aG [0,0,0,0,0,2,2,0] rfl (fun ops' K2 hK2=> ?_)
        repeat (first|((with_reducible refine zq0 ?_);refine zq0a ?_)|((with_reducible refine zq1 ?_);refine zq1a ?_))
        refine iB (x:=q<<<4|||r>>>2) rfl underlying22 bM (fun w2 b2 hr2 hb2=> ?_);simp only[Act.put,zz1,zz2,zz3];refine bE (hO2.below hb2) hr2 rfl rfl underlying22 bM (by simp;omega) (Nat.le_trans hB.size hb2.size) (fun w3 v3 hO3 g3 b3=> ?_);simp only[Act.put,zz1,zz2,zz3]
        repeat (first|((with_reducible refine zq0 ?_);refine zq0a ?_)|((with_reducible refine zq1 ?_);refine zq1a ?_))
        refine az (hK2 _ _ ?_)
        replace hB:=(hB.trans (hb2.mono hB.size)).trans b3
        clear g3 b3 hb2 hr2 hK2;have eQ:=HEQ.out;have eT:=HT.out;have hr':num (nth l (j+2))=some r:=by rw[←eQ];exact hr
        have HR':=hid hr';by_cases hj3:T=l.length
        ·have hd2:=Ea (l:=l) (j:=j) (by omega) hp HQ'.out hr';clear HJ HQ eT eQ hr' HR' HT HEQ HQ';subst hj3;go_wp2;go_step3;refine⟨⟨_,_,r<<<6,_,aE _ rfl,hO3,?_,hB⟩,by simp[nL];omega⟩;rw[←hd,hd2]
         split<;>simp
        ·have n3: ¬(T:Int)=(l.length:Int):=by omega
         have l3:T<l.length:=by omega
         have HET:=hid (show T=j+3 by omega);clear eT eQ hr';go_wp2_with fail;refine(jV (nth l T) _).mono ?_;rintro e w4 ⟨rfl,rfl⟩;cases hu:num (nth l T)with
         |none=>
          have hd1:=IL (l:=l) (j:=j) (by rw[←HET.out];exact l3) (by rw[←HET.out];exact hu);go_wp2
          all_goals
           go_step3;refine⟨⟨aE _ rfl,?_,hB⟩,by simp[nL];omega⟩;rw[←hd,hd1];rfl
         |some y=>
          obtain⟨V,hV⟩: ∃nx,nx=T+1:=⟨_,rfl⟩;have fV:(T:Int)+1=(V:Int):=by omega
          have gV:IntKind.i64.wrap (V:Int)=(V:Int):=by rw[IntKind.wrap_i64];omega
          have HV:=hid hV;clear hV;go_upto_region 27 with fail;refine aG [0,0,0,0,2,2,0] rfl (fun ops' K2 hK2=> ?_)
          repeat (first|((with_reducible refine zq0 ?_);refine zq0a ?_)|((with_reducible refine zq1 ?_);refine zq1a ?_))
          refine iB (x:=r<<<6|||y) rfl underlying22 bM (fun w2 b2 hr2 hb2=> ?_);simp only[Act.put,zz1,zz2,zz3];refine bE (hO3.below hb2) hr2 rfl rfl underlying22 bM (by simp;omega) (Nat.le_trans hB.size hb2.size) (fun w3 v3 hO4 g3 b3=> ?_);simp only[Act.put,zz1,zz2,zz3]
          repeat (first|((with_reducible refine zq0 ?_);refine zq0a ?_)|((with_reducible refine zq1 ?_);refine zq1a ?_))
          refine az (hK2 _ _ ?_)
          replace hB:=(hB.trans (hb2.mono hB.size)).trans b3
          clear g3 b3 hb2 hr2 hK2;have eT:=HET.out;have hd4:=Gr (l:=l) (j:=j) (by omega) hp HQ'.out HR'.out (show num (nth l (j+3))=some y by rw[←eT];exact hu);have eV:=HV.out;have HEV:=hid (show V=j+4 by omega);clear eT eV;go_wp2;go_step3;have eV:=HEV.out;refine⟨⟨V,_,_,_,aE _ rfl,by omega,by simp;omega,hO4,?_,hB⟩,by simp[nL];omega⟩;rw[←hd,hd4,eV];cases dec (l.drop (j+4))<;>simp
 ·rintro a' w' ⟨⟨u,rfl⟩,hd,hB⟩;clear hmk e1;go_wp2;go_ret2;rw[hd];exact⟨rfl,hB⟩
 ·rintro a' w' ⟨i,v,x,acc,⟨u,rfl⟩,hO,hd,hB⟩;clear hmk e1;by_cases hx:x=0#8
  ·rw[if_pos hx]at hd;subst hx;go_wp2;go_ret2;rw[←hd];exact⟨⟨_,rfl,hO⟩,hB⟩
  ·rw[if_neg hx]at hd;have hx':(x==0#8)=false:=beq_eq_false_iff_ne.2 hx;go_wp2;go_step3;go_wp2;go_ret2;rw[←hd];exact⟨rfl,hB⟩
end Go.Proofs.YtddkbkbpogcffaaGreatDoor
