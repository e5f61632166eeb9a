/-val:a state's block:a pointer,then bytes-/
import Derived.Test.YtddkbkbpogcffaaGreatDoorMGw
import Derived.Test.YtddkbkbpogcffaaGreatDoorMIg
import Derived.Test.YtddkbkbpogcffaaGreatDoorMGm
import Derived.Test.YtddkbkbpogcffaaGreatDoorMGn
namespace Go.Proofs.YtddkbkbpogcffaaGreatDoor
open Go.Proofs.Tryz
open Lib (hid)
set_option linter.unusedSimpArgs false
set_option linter.unusedVariables false
set_option maxRecDepth 100000
set_option maxHeartbeats 1600000
open Go.RowKit
variable {P:Program}
def PB(u:Value)(s:Y8):Array Value:=(u::s.map v8).toArray
@[simp] theorem Bm(u:Value)(s:Y8):(PB u s).size=s.length+1:=by simp[PB]
theorem qs(u:Value)(s:Y8):(PB u s)[0]? =some u:=by simp[PB]
theorem Kj(u:Value)(s:Y8)(i:Nat)(h:i<s.length):(PB u s)[i+1]? =some (v8 (nth s i)):=by
 simp[PB,nth,List.getD_eq_getElem?_getD,h]
theorem Hi(u:Value)(s:Y8):(PB u s).extract 1 (1+s.length)=A8 s:=by
 simp[PB,A8,List.extract_eq_take_drop];exact List.take_of_length_le (by simp)
theorem rH(w:World)(e t:TypeId)(g:Nat)(u:Value)(m l:Y8)(hb:Blk w g t (PB u m))(h2:(sizeOf e).run P w= .ok l.length w)(h3:l.length=m.length):
  (bR e (.pointer (some ⟨g,1,none⟩)) (.agg (A8 l))).run P w= .ok () (w.setRow g (PB u l)):=by
 have hg:w.heap[g]? =some (.cells (PB u m) t (0,0)):=hb;have hst:=run_storeCells_at (P:=P) g 1 t (A8 l).toList 0 (PB u m) w hg (by rw[Array.length_toList,ag,Bm];omega) (fun v hv=>by
  have:=Array.all_eq_true'.1 (aH l) v (by simpa using hv);exact this)
 have e1:((PB u m).toList.take (1+0)++(A8 l).toList++(PB u m).toList.drop (1+0+(A8 l).toList.length)).toArray=PB u l:=by
  simp[A8,PB,h3];omega
 rw[e1]at hst;have h2':(sizeOf e).run P w= .ok (A8 l).size w:=by rw[ag];exact h2
 simp only[bR,Instr.storeAt,Instr.sureAddr,storeVar,Sem.run_bind,Sem.run_pure,Result.andThen_ok,h2',Value.cells,ne_eq,not_true_eq_false,if_false,hst]
variable {ops:Array Oper} {ks:List Nat} {l:List Oper} {a:Act}
theorem Cz {K:Act→World→Prop} {w:World} {e:TypeId} {p x:Operand} {ty:TypeId} {pos:String} {after:Array Edge} {g:Nat} {t:TypeId} {u:Value} {m c:Y8}(hb:Blk w g t (PB u m))(hp:a.eval p= .pointer (some ⟨g,1,none⟩))(hv:a.eval x= .agg (A8 c))(hn:c.length=m.length)
  (hsz:(sizeOf e).run P w= .ok c.length w) (h: ∀w1,Blk w1 g t (PB u c)→w.grownBy w1 (some g)→w1.heap.size=w.heap.size→wpZ P ops K ks l a w1):wpZ P ops K (2::ks) (⟨none,.store e p x,ty,pos,after,none⟩::l) a w:=by
 have hr:(execOp a.eval ⟨none,.store e p x,ty,pos,after,none⟩).run P w= .ok .skip (w.setRow g (PB u c)):=by
  rw[aV,hp,hv,rH w e t g u m c hb hsz hn];simp
 refine kB rfl (fun K' hK' => ?_);unfold Oper.wp;rw[hr];exact hK' _ _ (h _ (hb.put _) (aK w g _) (by simp))
theorem Blk.rdPB {w:World} {g:Nat} {t:TypeId} {u:Value} {s:Y8}(h:Blk w g t (PB u s))(hm:s.length≤maxLen):Rd8 w (some ⟨g,1,none⟩) s.length s.length s:=
 ⟨rfl,Nat.le_refl _,hm,fun _=>⟨g,1,rfl,h.lt,fun i hi=>by rw[h.cell,Nat.add_comm 1 i,Kj _ _ _ hi]⟩⟩
open Go.RowKit
theorem EZ(l:Y8)(hl:l.length=16)(w:World):
  Calls prog 284 #[.agg (A8 l)] w fun e w' => ∃p q,e= .returned (.pointer (some ⟨p,0,none⟩))∧Blk w' p 355 (PB (.pointer (some ⟨q,0,none⟩)) (ac 8 16))∧Blk w' q 358 (A64 (flat (tabW (oneW l)) 16))∧w.heap.size≤q∧q<p∧Below w.heap.size w w':=by
 obtain⟨W,hW⟩: ∃W,w.alloc (.cells (A8 l) 42)=W:=⟨_,rfl⟩;obtain⟨b0,hb,hz⟩:=new1 _ _ _ _ hW;have r1:=b0.row;have tk:l.take 16=l:=List.take_of_length_le (by omega);have B0:=hid hb;have HZ:=hid hz;clear b0 hb hz;go_enter func284,ntmps284;go_wp2_with fail;refine(De l hl W).mono ?_;rintro e w1 ⟨q,rfl,hT,hq,d1⟩;have D:=B0.out.trans (d1.mono B0.out.size);obtain⟨p,hp⟩: ∃p,p=w1.heap.size:=⟨_,rfl⟩;have hk:Blk (w1.alloc (.cells (PB (.pointer (some ⟨q,0,none⟩)) (ac 8 16)) 355)) p 355 (PB (.pointer (some ⟨q,0,none⟩)) (ac 8 16)):=by rw[hp];exact Blk.new _ _ _
 have K:=hid hk;have T:=hid (hT.alloc (.cells (PB (.pointer (some ⟨q,0,none⟩)) (ac 8 16)) 355));have DD:=hid (D.alloc D.size (.cells (PB (.pointer (some ⟨q,0,none⟩)) (ac 8 16)) 355));have HQ:q<p:=by rw[hp];exact hT.lt
 have HQ2:w.heap.size≤q:=by have:=HZ.out;omega
 have hps:w1.heap.size=p:=hp.symm;clear D hk hT hp d1 hq;go_wp2_with fail;go_ret;exact⟨p,q,rfl,K.out,T.out,HQ2,HQ,DD.out⟩
open Go.RowKit
theorem zr(p:Nat)(u:Value)(s:Y8)(hs:s.length=16)(w:World)(hk:Blk w p 355 (PB u s)):
  Calls prog 286 #[.pointer (some ⟨p,0,none⟩)] w fun e w' =>e= .returned (.agg (A8 s))∧Below w.heap.size w w':=by
 obtain⟨W,hW⟩: ∃W,w.alloc (.cells (A8 (ac 8 16)) 42)=W:=⟨_,rfl⟩;obtain⟨b0,hb,hz⟩:=new1 _ _ _ _ hW;have k:=hk.belowAll hb;have r0:=k.row;have r1:=b0.row;have r2:=b0.whole;have ex:(PB u s).extract 1 17=A8 s:=by have:=Hi u s;rwa [hs]at this
 have K3:=hid (b0.put (A8 s)).row;have B3:=hid (below_setRow hb (Nat.le_refl _) (A8 s));clear b0 hb hz k hk;go_enter func286,ntmps286;go_wp2;refine aj (A8 s) rfl rfl rfl (isAgg42 _) (sizeOf42 _) (by rw[ag];exact hs) K3.out ⟨rfl,B3.out⟩
open Go.RowKit
def xd(one:W2)(s:Y8):Y8:=le64 (dotL (tabW one) s 32).1++le64 (dotL (tabW one) s 32).2
@[simp] theorem vL(one:W2)(s:Y8):(xd one s).length=16:=rfl
def valK(one:W2)(s b:Y8):Nat→Y8
 |0=>s
 |k+1=>xd one (blk (xorl (valK one s b k) (b.drop (16*k))))
theorem pk(one:W2)(s b:Y8)(h:s.length=16): ∀k,(valK one s b k).length=16
 |0=>h
 |_+1=>rfl
open Go.RowKit
def ui:Value→Nat
 | .slice _ n _=>n
 |_=>0
def Kk(w:World)(p q:Nat)(one:W2)(s L:Y8)(B:Nat)(a':Act)(w':World):Prop:=
 ∃(k n:Nat) (a:Option Addr) (c:Nat),(∃u:Nat→Value,a' ={tmps:=(fun u:Nat→Value=> #[Value.pointer (some ⟨p,0,none⟩),Value.slice a n c,u 2,u 3,u 4,u 5,u 6,u 7,u 8,u 9,u 10,u 11,u 12,u 13,u 14,u 15,u 16,u 17,u 18,u 19,u 20,u 21,u 22,u 23,u 24,u 25,u 26,u 27]) u,defers:=[]})∧
  n=L.length-16*k∧16*k≤L.length∧Rd8 w' a n c (L.drop (16*k))∧(∀ad,a=some ad→B≤ad.block)∧Blk w' p 355 (PB (.pointer (some ⟨q,0,none⟩)) (valK one s L k))∧Blk w' q 358 (A64 (flat (tabW one) 16))∧w.grownBy w' (some p)
theorem zt(p q:Nat)(one:W2)(s l:Y8)(hs:s.length=16)(a:Option Addr)(n c:Nat)(w:World)(hr:Rd8 w a n c l)(hsz:n≤70368744177664)(hk:Blk w p 355 (PB (.pointer (some ⟨q,0,none⟩)) s))(hT:Blk w q 358 (A64 (flat (tabW one) 16)))(hqp:q≠p):
  Calls prog 285 #[.pointer (some ⟨p,0,none⟩),.slice a n c] w fun e w' =>e= .returned (.tuple #[])∧Blk w' p 355 (PB (.pointer (some ⟨q,0,none⟩)) (valK one s (l++ac 8 (bV n 16)) ((l++ac 8 (bV n 16)).length/16)))∧w.grownBy w' (some p):=by
 obtain⟨L,hL⟩: ∃L,L=l++ac 8 (bV n 16):=⟨_,rfl⟩;have hp:=ie l a n c 16 w hr (by omega) (by omega) hsz;rw[←hL]at hp⊢;have HL:=hid hL;clear hL;go_enter func285,ntmps285;go_wp2_with fail;refine bd 0 (Kk w p q one s L w.heap.size) (fun a' _=>ui (a'.tmps.getD 1 undef)) rfl (fun hrest=> ?_) ?_
 ·go_wp2_with fail;refine hp.mono ?_;rintro e w1 ⟨v,rfl,ho,d1⟩;obtain⟨A,C,rfl,hA,hAB⟩:=ho.rd;have k1:=hk.belowAll d1;have t1:=hT.belowAll d1;go_wp2_with fail;go_step3;refine ‹∀(a:Act) (w_1:World),Code.wp _ _ _ a w_1→_› _ _ (hrest _ _ ?_);exact⟨0,L.length,A,C,aE _ rfl,by omega,by omega,by rw[Nat.mul_zero,List.drop_zero];exact hA,hAB,k1,t1,aD d1 _⟩
 ·rintro a' w' ⟨k,m,A,C,⟨u,rfl⟩,hm,hk16,hr',hAB,hK,hT',hg⟩;have h16:L.length %16=0:=by
   have hl:=hr.1;rw[HL.out,List.length_append,ah,hl,bV];omega
  have hpw:=hk.lt;by_cases hm0:m=0
  ·have e1:L.length/16=k:=by omega
   have K:=hid hK;have G:=hid hg;subst hm0;clear hK hg hr' hk hT hr hm hp hT' hAB;go_wp2;simp only[Exit.jump]
   (try simp only[Exit.inBlock,Exit.then])
   refine bodyPost_ret (results_none rfl _ _ _) rfl ?_;exact⟨rfl,by rw[e1];exact K.out,G.out⟩
  ·have m0: ¬(m:Int)=0:=by omega
   have m16:16≤m:=by omega
   have K:=hid hK;have G:=hid hg;have R:=hid hr';have T:=hid hT';have HM:=hid hm;have H16:=hid h16;have HAB:=hid hAB;have HP:=hid hpw;clear hK hg hr' hk hT hr hm hp hT' hAB h16 hpw;have hSl:=pk one s L hs k;obtain⟨S,hS⟩: ∃S,S=valK one s L k:=⟨_,rfl⟩;rw[←hS]at K hSl;have HS:=hid hS;obtain⟨D,hD⟩: ∃D,D=L.drop (16*k):=⟨_,rfl⟩;rw[←hD]at R;have HD:=hid hD;clear hS hD;go_upto_region 3 with fail;refine aw [0,0,0,0,5,0,0,0,0,0,2,2,2,0,0,3] (by kernel_rfl) (by kernel_rfl) (fun C0 hC0 hCb K' hK' => ?_);have R5: ∀w1,C0 w1→w1.cell? ⟨p,0,none⟩=some (.pointer (some ⟨q,0,none⟩)):=fun w1 h=>by
    rw[(K.out.drew.belowAll (hCb w1 h)).cell,qs]
   have hS8:Rd8 w'.drew (some ⟨p,1,none⟩) 16 16 S:=by
    have:=K.out.drew.rdPB (by rw[hSl];unfold maxLen;omega)
    rwa [hSl]at this
   repeat (first|((with_reducible refine hq0 ?_);refine hq0a ?_)|((with_reducible refine hq5 ?_);refine hq5a ?_ (fun _ hcw=>by have f:=R5 _ hcw;go_simp;(try go_bits);exact rfl))|((with_reducible refine hq1 ?_);refine hq1a ?_))
   refine hqc ?_;go_simp;refine af ?_;refine(fK S D (some ⟨p,1,none⟩) A 16 16 m C w'.drew hS8 R.out.drew (by omega)).mono ?_;rintro e w3 ⟨v3,rfl,o3,d3⟩;refine⟨_,rfl,d3,?_⟩
   try simp only[Act.put,zz1,zz2,zz3]
   obtain⟨a3,c3,rfl,hr3,_⟩:=o3.rd;refine hqc ?_;go_simp;refine af ?_;refine(bD _ a3 _ c3 w3 hr3).mono ?_;rintro e w4 ⟨rfl,d4⟩;refine⟨_,rfl,d4,?_⟩
   try simp only[Act.put,zz1,zz2,zz3]
   have hXl:(blk (xorl S D)).length=16:=aX _;obtain⟨X,hX⟩: ∃X,X=blk (xorl S D):=⟨_,rfl⟩;rw[←hX]at hXl⊢;have HX:=hid hX;have d34:=d3.trans (d4.mono d3.size);clear hX;refine hqc ?_;go_simp;refine af ?_;refine(FC q one X hXl w4 (T.out.drew.belowAll d34)).mono ?_;rintro e w5 ⟨rfl,d5⟩;refine⟨_,rfl,d5,?_⟩
   try simp only[Act.put,zz1,zz2,zz3]
   rw[show le64 (dotL (tabW one) X 32).1++le64 (dotL (tabW one) X 32).2=xd one X from rfl];have hYl:(xd one X).length=16:=vL _ _;obtain⟨Y,hY⟩: ∃Y,Y=xd one X:=⟨_,rfl⟩;rw[←hY]at hYl⊢;have HY:=hid hY;have d35:=d34.trans (d5.mono d34.size);clear hY
   repeat (first|((with_reducible refine hq0 ?_);refine hq0a ?_)|((with_reducible refine hq5 ?_);refine hq5a ?_)|((with_reducible refine hq1 ?_);refine hq1a ?_))
   refine aU [2] rfl (by simp) ?_;refine Cz (K.out.drew.belowAll d35) rfl rfl (by rw[hYl,hSl]) (by rw[hYl];exact sizeOf42 _) (fun w6 k6 g6 s6=> ?_);refine az (hK' _ _ ?_);have hpl:=K.out.lt;have hYk:Y=valK one s L (k+1):=by rw[HY.out,HX.out,HS.out,HD.out];rfl
   rw[hYk]at k6;have K6:=hid k6;have d05:Below w'.heap.size w' w5:=((Below.refl w'.heap.size w').drew).trans d35;have G6:=hid (ao (ao G.out (aD d05 (some p))) g6);have T6:=hid ((T.out.belowAll d05).grown g6 (fun e=>by cases e;exact hqp rfl));have r6:Rd8 w6 A m C D:=(R.out.below d05).away g6 (fun ad e=>by have:=HAB.out ad e;have:=HP.out;omega);have hDl:=r6.1;have r6c:=r6.cut (j:=16) (k:=m) m16 (Nat.le_refl _);rw[List.take_of_length_le (by omega)]at r6c;have hDd:D.drop 16=L.drop (16*(k+1)):=by rw[HD.out,List.drop_drop];congr 1
   rw[hDd]at r6c;have RC:=hid r6c;have k1:(16:Int)≤(m:Int):=by omega
   have k2:(m:Int)≤(C:Int):=by have:=r6.2.1;omega
   have hAB6: ∀ad,(if C=16 then A else A.map (·.add 16))=some ad→w.heap.size≤ad.block:=by
    intro ad h
    split at h
    ·exact HAB.out ad h
    ·cases A with
     |none=>cases h
     |some b=>cases h;exact HAB.out b rfl
   have AB:=hid hAB6;clear k6 g6 d35 d34 d05 d3 d4 d5 hYk o3 hr3 R5 hS8 hC0 hCb hK' r6 r6c hDd hAB6 hDl K G T R;go_wp2
   all_goals
    go_step3;have rc:=RC.out;have ab:=AB.out
    first
     |(rw[if_neg (by assumption)]at rc ab)
     |(rw[if_pos (by assumption)]at rc ab;rw[show C-16=0 by omega]at rc)
    have hm1:m-16=L.length-16*(k+1):=by have:=HM.out;omega
    have hk2:16*(k+1)≤L.length:=by have:=HM.out;omega
    refine⟨rfl,⟨k+1,m-16,_,_,aE _ rfl,hm1,hk2,rc,ab,K6.out,T6.out,G6.out⟩,?_⟩;simp[ui];omega
end Go.Proofs.YtddkbkbpogcffaaGreatDoor
