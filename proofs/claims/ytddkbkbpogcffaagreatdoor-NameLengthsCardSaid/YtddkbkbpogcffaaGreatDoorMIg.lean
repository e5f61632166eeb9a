/-ring:Make-/
import Derived.Test.YtddkbkbpogcffaaGreatDoorMIh
import Derived.Test.YtddkbkbpogcffaaGreatDoorMGw
import Derived.Test.YtddkbkbpogcffaaGreatDoorMWd3
namespace Go.Proofs.YtddkbkbpogcffaaGreatDoor
open Go.Proofs.Tryz
open Lib (hid)
set_option linter.unusedSimpArgs false
set_option linter.unusedVariables false
set_option maxRecDepth 100000
set_option maxHeartbeats 1600000
open Go.RowKit
@[simp] theorem Nt(x:W2):[x.1,x.2]=wl x:=rfl
def oneW(l:Y8):W2:=dotW (long l 0,long l 8) (1#64,0#64)
theorem De(l:Y8)(hl:l.length=16)(w:World):
  Calls prog 289 #[.agg (A8 l)] w fun e w' => ∃q,e= .returned (.pointer (some ⟨q,0,none⟩))∧Blk w' q 358 (A64 (flat (tabW (oneW l)) 16))∧w.heap.size≤q∧Below w.heap.size w w':=by
 obtain⟨W,hW⟩: ∃W,(w.alloc (.cells (A8 l) 42)).alloc (.cells (A64 (ac 64 32)) 358)=W:=⟨_,rfl⟩;obtain⟨b0,b1,hb,hz⟩:=new2 _ _ _ _ _ _ hW;have r8:=b0.rd8 16 (by omega) (by rw[hl];decide);rw[hl,List.take_of_length_le (by omega)]at r8;have P0:=hid b0;have T0:=hid b1;have B0:=hid hb;have R0:=hid r8;clear b0 b1 hb hz r8;go_enter func289,ntmps289;go_wp2_with fail;clear hW;refine(ji l _ 16 16 W R0.out).mono ?_;rintro e w1 ⟨rfl,d1⟩;go_wp2_with fail;refine(FE (long l 0,long l 8) (1#64,0#64) w1).mono ?_;rintro e w2 ⟨rfl,d2⟩;have D2:=B0.out.trans ((d1.trans (d2.mono d1.size)).mono B0.out.size);have t2:=T0.out.belowAll (d1.trans (d2.mono d1.size));obtain⟨one,h1⟩: ∃one,one=oneW l:=⟨_,rfl⟩;rw[show dotW (long l 0,long l 8) (1#64,0#64)=one from h1.symm];obtain⟨g,hg⟩: ∃g,g=w2.heap.size:=⟨_,rfl⟩;obtain⟨V,hV⟩: ∃V,w2.alloc (.cells (A64 (ac 64 2)) 250)=V:=⟨_,rfl⟩;obtain⟨c0,cb,cz⟩:=new1 _ _ _ _ hV;have q0:=t2.belowAll cb;have qB:=D2.trans (cb.mono D2.size);have hlt:=t2.lt;rw[←hg]at c0 cz hlt;have C0:=hid (c0.put (A64 (wl one)));have r1:=c0.row;have r2:=c0.whole;have T1:=hid (q0.farRow (k:=g) (by omega) (A64 (wl one)));have hgw:w.heap.size≤g:=by omega
 have B1:=hid (below_setRow qB hgw (A64 (wl one)));have HLT:=hid hlt;have HG:=hid hgw;have H1:=hid h1;have hgs:w2.heap.size=g:=hg.symm;clear d1 d2 D2 t2 cb q0 qB hlt hgw h1 T0 B0 R0 P0 c0 cz hg;go_wp2_with fail;have F1:Blk (V.setRow g (A64 (wl one))) (w.heap.size+1) 358 (A64 (flat (tabW one) (2^0))):=by rw[show 2^0=1 from rfl,FF];exact T1.out
 have T2:=hid F1;clear T1 F1 r1 r2;go_loopw [13] (fun s wr=> ∃k:Nat,k≤4∧s= .int .i64 k∧Blk wr (w.heap.size+1) 358 (A64 (flat (tabW one) (2^k)))∧Blk wr g 250 (A64 (wl (upN one k)))∧Below w.heap.size w wr) (fun s _=>4-(intOf s).toNat)
 case atStart=>exact⟨0,by omega,rfl,T2.out,C0.out,B1.out⟩
 case round=>
  obtain⟨k,hk,rfl,hT,hC,hB⟩:=hrel;have T3:=hid hT;have C3:=hid hC;have B3:=hid hB;clear hT hC hB T2 C0 B1 hV hgs;by_cases hk4:k<4
  ·have k1:(k:Int)<4:=by omega
   have k0:(0:Int)≤(k:Int):=by omega
   obtain⟨M,hM⟩: ∃M,M=2^k:=⟨_,rfl⟩;have eM: ∀t,binOp .shl t (.int .i64 1) (.int .i64 (k:Int))=pure (.int .i64 (M:Int)):=fun t=>by rw[Ie t k (by omega),hM]
   have hM8:M≤8:=by
    have:k=0∨k=1∨k=2∨k=3:=by omega
    rcases this with rfl|rfl|rfl|rfl<;>omega
   have HM:=hid hM;obtain⟨E,hE⟩: ∃E,E=upN one k:=⟨_,rfl⟩;rw[←hE]at C3;have HE:=hid hE;have T4:=T3.out;rw[←hM]at T4;have T5:=hid T4;clear hM hE T4 T3;go_wp2_with fail;go_loopw [18] (fun s wr=> ∃i:Nat,i≤M∧s= .int .i64 i∧Blk wr (w.heap.size+1) 358 (A64 (flat (tabW one) (M+i)))∧Blk wr g 250 (A64 (wl E))∧Below w.heap.size w wr) (fun s _=>M-(intOf s).toNat)
   case atStart=>exact⟨0,by omega,rfl,T5.out,C3.out,B3.out⟩
   case round=>
    obtain⟨i,hi,rfl,hT,hC,hB⟩:=hrel;have T6:=hid hT;have C6:=hid hC;have B6:=hid hB;clear hT hC hB T5 C3 B3;by_cases hiM:i<M
    ·have i1:(i:Int)<(M:Int):=by omega
     have i0:(0:Int)≤(i:Int):=by omega
     have i2:(i:Int)<16:=by omega
     obtain⟨J,hJ⟩: ∃J,J=M+i:=⟨_,rfl⟩;have eJ: ∀t,binOp .or t (.int .i64 (M:Int)) (.int .i64 (i:Int))=pure (.int .i64 (J:Int)):=fun t=>by rw[hJ];exact zqB t M i (by rw[HM.out];exact Kv k i hk4 (by rw[←HM.out];exact hiM))
     have J0:(0:Int)≤(J:Int):=by omega
     have J1:(J:Int)<16:=by omega
     have j16:J<16:=by omega
     have ij:i<J:=by omega
     have hn:=Di one k i hk4 (by rw[←HM.out];exact hiM);rw[←HM.out,←hJ,←HE.out]at hn;have T7:=T6.out;rw[←hJ]at T7;have T8:=hid T7;have HJ:=hid hJ;have HN:=hid hn;clear hJ T6 T7 hn;go_upto_region 9 with fail;refine aw [0,0,0,0,0,0,0,0,0,0,5,5,2,0,0,0,3] (by kernel_rfl) (by kernel_rfl) (fun C hC0 hCb K' hK' => ?_);have q1: ∀w1,C w1→aF w1 (w.heap.size+1)=A64 (flat (tabW one) J):=fun w1 h=>(T8.out.drew.belowAll (hCb w1 h)).row;have q2: ∀w1,C w1→aF w1 g=A64 (wl E):=fun w1 h=>(C6.out.drew.belowAll (hCb w1 h)).row;have fl:(flat (tabW one) J).length=32:=cL _ _;have ex:(A64 (flat (tabW one) J)).extract (i*2) (i*2+2)=A64 (wl (tabW one i)):=by rw[xf,show i*2+2-i*2=2 by omega,Nat.mul_comm i 2,uH _ _ _ (by omega) ij]
     have sz:i*2+2≤32:=by omega
     have tk:(wl E).take 2=wl E:=rfl
     repeat (first|((with_reducible refine hq0 ?_);refine hq0a ?_)|((with_reducible refine hq5 ?_);refine hq5a ?_ (fun _ hcw=>by have f1:=q1 _ hcw;have f2:=q2 _ hcw;go_simp;(try go_bits);exact rfl))|((with_reducible refine hq1 ?_);refine hq1a ?_))
     refine hqc ?_;go_simp;refine af ?_;refine(ot (tabW one i) E 1#64 wr.drew).mono ?_;rintro e w1 ⟨rfl,d1⟩;refine⟨_,rfl,d1,?_⟩
     try simp only[Act.put,zz1,zz2,zz3]
     repeat (first|((with_reducible refine hq0 ?_);refine hq0a ?_)|((with_reducible refine hq5 ?_);refine hq5a ?_)|((with_reducible refine hq1 ?_);refine hq1a ?_))
     refine aU [2] rfl (by simp) ?_;refine xe (m:=flat (tabW one) J) (c:=wl (tabW one J)) (off:=J*2) (T8.out.drew.belowAll d1) rfl (by rw[←HN.out];rfl) (by rw[fl,CB];omega) (sizeOf250 _) (fun w5 k5 g5 s5=> ?_);rw[Nat.mul_comm J 2,Dh _ _ j16]at k5;refine az (hK' _ _ ?_);have hne:some g≠some (w.heap.size+1):=by
      have:=HLT.out;intro e;cases e;omega
     have T9:=hid k5;have C9:=hid ((C6.out.drew.belowAll d1).grown g5 hne);have d6:=B6.out.drew.trans (d1.mono B6.out.drew.size);have B9:=hid (d6.trans (ae g5 (by omega) d6.size));clear q1 q2 hC0 hCb hK' d1 k5 g5 s5 d6 hne ex sz fl tk eJ eM T8 C6 B6;go_wp2;exact⟨⟨i+1,by omega,by go_num,by rw[show M+(i+1)=J+1 by rw[HJ.out];omega];exact T9.out,C9.out,B9.out⟩,by simp[intOf];omega⟩
    ·obtain rfl:i=M:=by omega
     have hT:Blk wr (w.heap.size+1) 358 (A64 (flat (tabW one) (2^(k+1)))):=by
      have:=T6.out
      rwa [show i+i=2^(k+1) by rw[Nat.pow_succ,←HM.out];omega]at this
     have T7:=hid hT;have r1:=C6.out.row;have r2:=C6.out.whole;clear T6 hT;have tk:(wl E).take 2=wl E:=rfl;go_wp2_with fail;refine(Bt E wr).mono ?_;rintro e w1 ⟨rfl,d1⟩;have k1':=C6.out.belowAll d1;have r3:=k1'.row;have r4:=k1'.whole;have T8:=hid ((T7.out.belowAll d1).farRow (k:=g) (by have:=HLT.out;omega) (A64 (wl (upW E))));have C8:=hid (k1'.put (A64 (wl (upW E))));have B8:=hid (below_setRow (B6.out.trans (d1.mono B6.out.size)) HG.out (A64 (wl (upW E))));clear r1 r2 T7 C6 B6 d1 k1' eM tk;go_wp2;exact⟨⟨k+1,by omega,by go_num,T8.out,by rw[upN,←HE.out];exact C8.out,B8.out⟩,by simp[intOf];omega⟩
  ·obtain rfl:k=4:=by omega
   have T4:=T3.out;rw[H1.out]at T4;have T5:=hid T4;clear T3 T4;go_wp2;go_ret;exact⟨w.heap.size+1,rfl,T5.out,by omega,B3.out⟩
open Go.RowKit
@[go_sem high] theorem Je(a b:BitVec 8)(w:World):(dM 361 (v8 a) (v8 b)).run prog w= .ok (.agg (A8 [a,b])) w:=by kernel_rfl
theorem Ae(a b:BitVec 8)(w:World):(Instr.index 361 (.agg (A8 [a,b])) (.int .i64 0)).run prog w= .ok (v8 a) w:=by kernel_rfl
theorem Af(a b:BitVec 8)(w:World):(Instr.index 361 (.agg (A8 [a,b])) (.int .i64 1)).run prog w= .ok (v8 b) w:=by kernel_rfl
def nibB(b:BitVec 8)(j:Nat):BitVec 8:=if j=0 then b>>>4 else b&&&15#8
theorem Df(b:BitVec 8)(j:Nat)(hj:j<2)(w:World):(Instr.index 361 (.agg (A8 [b>>>4,b&&&15#8])) (.int .i64 (j:Int))).run prog w= .ok (v8 (nibB b j)) w:=by
 have:j=0∨j=1:=by omega
 rcases this with rfl|rfl
 ·exact Ae _ _ w
 ·exact Af _ _ w
theorem Ic(b:BitVec 8)(j:Nat):(nibB b j).toNat<16:=by
 have hb:=b.isLt;unfold nibB
 split
 ·rw[BitVec.toNat_ushiftRight,Nat.shiftRight_eq_div_pow];omega
 ·rw[BitVec.toNat_and,show(15#8).toNat=2^4-1 from rfl,Nat.and_two_pow_sub_one_eq_mod];omega
theorem Ku(q:Nat)(x:BitVec 8)(h:x.toNat<16)(w:World):(Instr.indexAt 356 (.pointer (some ⟨q,0,none⟩)) (v8 x)).run prog w= .ok (.pointer (some ⟨q,x.toNat*2,none⟩)) w:=by
 obtain⟨n,hn⟩: ∃n,n=x.toNat:=⟨_,rfl⟩;rw[v8,←hn];rw[←hn]at h;clear hn;have X1:(n:Int)<16:=by omega
 have X0:(0:Int)≤(n:Int):=by omega
 go_simp
def dotL(t:Nat→W2)(l:Y8):Nat→W2
 |0=>(0#64,0#64)
 |k+1=>lY (upN (dotL t l k) 4) (t (nibB (nth l (15-k/2)) (k %2)).toNat) 1#64
theorem FC(q:Nat)(one:W2)(l:Y8)(hl:l.length=16)(w:World)(hT:Blk w q 358 (A64 (flat (tabW one) 16))):
  Calls prog 290 #[.pointer (some ⟨q,0,none⟩),.agg (A8 l)] w fun e w' =>e= .returned (.agg (A8 (le64 (dotL (tabW one) l 32).1++le64 (dotL (tabW one) l 32).2)))∧Below w.heap.size w w':=by
 obtain⟨W,hW⟩: ∃W,((w.alloc (.cells (A8 l) 42)).alloc (.cells (A8 (ac 8 16)) 42)).alloc (.cells (A64 (ac 64 2)) 250)=W:=⟨_,rfl⟩;obtain⟨b0,b1,b2,hb,hz⟩:=new3 _ _ _ _ _ _ _ _ hW;have P0:=hid b0;have Z0:=hid b1;have C0:=hid b2;have B0:=hid hb;have T0:=hid (hT.belowAll hb);have HQ:=hid hT.lt;clear b0 b1 b2 hb hz hT;go_enter func290,ntmps290;go_wp2_with fail;clear hW;go_loopw [13] (fun s wr=> ∃i:Nat,i≤16∧s= .int .i64 i∧Blk wr w.heap.size 42 (A8 l)∧Blk wr (w.heap.size+1) 42 (A8 (ac 8 16))∧Blk wr (w.heap.size+2) 250 (A64 (wl (dotL (tabW one) l (2*i))))∧Blk wr q 358 (A64 (flat (tabW one) 16))∧Below w.heap.size w wr) (fun s _=>16-(intOf s).toNat)
 case atStart=>exact⟨0,by omega,rfl,P0.out,Z0.out,C0.out,T0.out,B0.out⟩
 case round=>
  obtain⟨i,hi,rfl,hP,hZ,hC,hT,hB⟩:=hrel;have P1:=hid hP;have Z1:=hid hZ;have C1:=hid hC;have T1:=hid hT;have B1:=hid hB;clear hP hZ hC hT hB P0 Z0 C0 T0 B0;by_cases hi16:i<16
  ·have i1:(i:Int)<16:=by omega
   have i0:(0:Int)≤(i:Int):=by omega
   obtain⟨I,hI⟩: ∃I,I=15-i:=⟨_,rfl⟩;have eI:(15:Int)-(i:Int)=(I:Int):=by omega
   have eI2:IntKind.i64.wrap (I:Int)=(I:Int):=by rw[IntKind.wrap_i64];omega
   have I0:(0:Int)≤(I:Int):=by omega
   have I1:(I:Int)<16:=by omega
   have HI:=hid hI;clear hI;have c1:=P1.out.cell8 hl I (by omega);obtain⟨b,hb⟩: ∃b,b=nth l I:=⟨_,rfl⟩;rw[←hb]at c1;have HB:=hid hb;clear hb;have hD:dotL (tabW one) l (2*i)=dotL (tabW one) l (2*i+0):=rfl;rw[hD]at C1;clear hD;go_wp2_with fail;go_loopw [25] (fun s wr=> ∃j:Nat,j≤2∧s= .int .i64 j∧Blk wr w.heap.size 42 (A8 l)∧Blk wr (w.heap.size+1) 42 (A8 (ac 8 16))∧Blk wr (w.heap.size+2) 250 (A64 (wl (dotL (tabW one) l (2*i+j))))∧Blk wr q 358 (A64 (flat (tabW one) 16))∧Below w.heap.size w wr) (fun s _=>2-(intOf s).toNat)
   case atStart=>exact⟨0,by omega,rfl,P1.out,Z1.out,C1.out,T1.out,B1.out⟩
   case round=>
    obtain⟨j,hj,rfl,hP,hZ,hC,hT,hB⟩:=hrel;have P2:=hid hP;have Z2:=hid hZ;have C2:=hid hC;have T2:=hid hT;have B2:=hid hB;clear hP hZ hC hT hB P1 Z1 C1 T1 B1 c1;by_cases hj2:j<2
    ·have j1:(j:Int)<2:=by omega
     have j0:(0:Int)≤(j:Int):=by omega
     obtain⟨D,hD⟩: ∃D,D=dotL (tabW one) l (2*i+j):=⟨_,rfl⟩;rw[←hD]at C2;have HD:=hid hD;clear hD;have eX: ∀w,(Instr.index 361 (.agg (A8 [b>>>4,b&&&15#8])) (.int .i64 (j:Int))).run prog w= .ok (v8 (nibB b j)) w:=Df b j hj2;have hx16:=Ic b j;obtain⟨x,hx⟩: ∃x,x=nibB b j:=⟨_,rfl⟩;rw[←hx]at eX hx16;have HX:=hid hx;clear hx;go_wp2_with fail;go_loopw [28] (fun s wr=> ∃u:Nat,u≤4∧s= .int .i64 u∧Blk wr w.heap.size 42 (A8 l)∧Blk wr (w.heap.size+1) 42 (A8 (ac 8 16))∧Blk wr (w.heap.size+2) 250 (A64 (wl (upN D u)))∧Blk wr q 358 (A64 (flat (tabW one) 16))∧Below w.heap.size w wr) (fun s _=>4-(intOf s).toNat)
     case atStart=>exact⟨0,by omega,rfl,P2.out,Z2.out,C2.out,T2.out,B2.out⟩
     case round=>
      obtain⟨u,hu,rfl,hP,hZ,hC,hT,hB⟩:=hrel;have P3:=hid hP;have Z3:=hid hZ;have T3:=hid hT;have B3:=hid hB;obtain⟨U,hU⟩: ∃U,U=upN D u:=⟨_,rfl⟩;rw[←hU]at hC;have C3:=hid hC;have HU:=hid hU;clear hP hZ hC hT hB P2 Z2 C2 T2 B2 hU eX;have tk:(wl U).take 2=wl U:=rfl;by_cases hu4:u<4
      ·have u1:(u:Int)<4:=by omega
       have u0:(0:Int)≤(u:Int):=by omega
       have r1:=C3.out.row;have r2:=C3.out.whole;go_wp2_with fail;refine(Bt U wr).mono ?_;rintro e w1 ⟨rfl,d1⟩;have k1:=C3.out.belowAll d1;have r3:=k1.row;have r4:=k1.whole;have hq:=HQ.out;have T4:=hid ((T3.out.belowAll d1).farRow (k:=w.heap.size+2) (by omega) (A64 (wl (upW U))));have P4:=hid ((P3.out.belowAll d1).farRow (k:=w.heap.size+2) (by omega) (A64 (wl (upW U))));have Z4:=hid ((Z3.out.belowAll d1).farRow (k:=w.heap.size+2) (by omega) (A64 (wl (upW U))));have C4:=hid (k1.put (A64 (wl (upW U))));have B4:=hid (below_setRow (B3.out.trans (d1.mono B3.out.size)) (show w.heap.size≤w.heap.size+2 by omega) (A64 (wl (upW U))));clear r1 r2 T3 C3 B3 P3 Z3 d1 k1 tk hq;go_wp2;exact⟨⟨u+1,by omega,by go_num,P4.out,Z4.out,by rw[upN,←HU.out];exact C4.out,T4.out,B4.out⟩,by simp[intOf];omega⟩
      ·obtain rfl:u=4:=by omega
       go_upto_region 15 with fail;refine aw [5,0,0,0,0,0,5,2,3] (by kernel_rfl) (by kernel_rfl) (fun C hC0 hCb K' hK' => ?_);have q1: ∀w1,C w1→aF w1 q=A64 (flat (tabW one) 16):=fun w1 h=>(T3.out.drew.belowAll (hCb w1 h)).row;have q2: ∀w1,C w1→aF w1 (w.heap.size+2)=A64 (wl U):=fun w1 h=>(C3.out.drew.belowAll (hCb w1 h)).row;have fl:(flat (tabW one) 16).length=32:=cL _ _;have eA: ∀w,(Instr.indexAt 356 (.pointer (some ⟨q,0,none⟩)) (v8 x)).run prog w= .ok (.pointer (some ⟨q,x.toNat*2,none⟩)) w:=Ku q x hx16;have ex:(A64 (flat (tabW one) 16)).extract (x.toNat*2) (x.toNat*2+2)=A64 (wl (tabW one x.toNat)):=by rw[xf,show x.toNat*2+2-x.toNat*2=2 by omega,Nat.mul_comm x.toNat 2,uH _ _ _ hx16 hx16]
       have sz:x.toNat*2+2≤32:=by omega
       repeat (first|((with_reducible refine hq0 ?_);refine hq0a ?_)|((with_reducible refine hq5 ?_);refine hq5a ?_ (fun _ hcw=>by have f1:=q1 _ hcw;have f2:=q2 _ hcw;go_simp;(try go_bits);exact rfl))|((with_reducible refine hq1 ?_);refine hq1a ?_))
       refine hqc ?_;go_simp;refine af ?_;refine(ot U (tabW one x.toNat) 1#64 wr.drew).mono ?_;rintro e w1 ⟨rfl,d1⟩;refine⟨_,rfl,d1,?_⟩
       try simp only[Act.put,zz1,zz2,zz3]
       refine aU [2] rfl (by simp) ?_;refine aq (cs:=A64 (wl (dotL (tabW one) l (2*i+(j+1))))) (C3.out.drew.belowAll d1) rfl (by rw[show 2*i+(j+1)=2*i+j+1 by omega,dotL,←HD.out,←HU.out,show 15-(2*i+j)/2=I by rw[HI.out];omega,show(2*i+j) %2=j by omega,←HB.out,←HX.out];rfl) (by rw[bS,bS];rfl) (dY _) (by rw[bS];exact sizeOf250 _) (fun w5 k5 g5 s5=> ?_);refine az (hK' _ _ ?_);have hq:=HQ.out;have hne:some q≠some (w.heap.size+2):=by intro e;cases e;omega
       have d4:=B3.out.drew.trans (d1.mono B3.out.drew.size);have B5:=hid (d4.trans (ae g5 (by omega) d4.size));have P5:=hid ((P3.out.drew.belowAll d1).grown g5 (by simp));have Z5:=hid ((Z3.out.drew.belowAll d1).grown g5 (by simp));have T5:=hid ((T3.out.drew.belowAll d1).grown g5 hne);have C5:=hid k5;clear q1 q2 fl ex sz hC0 hCb hK' d1 k5 g5 s5 d4 hq hne tk eA;go_wp2;exact⟨⟨j+1,by omega,by go_num,P5.out,Z5.out,C5.out,T5.out,B5.out⟩,by simp[intOf];omega⟩
    ·obtain rfl:j=2:=by omega
     go_wp2;exact⟨⟨i+1,by omega,by go_num,P2.out,Z2.out,C2.out,T2.out,B2.out⟩,by simp[intOf];omega⟩
  ·obtain rfl:i=16:=by omega
   have r1:=C1.out.row;have r2:=C1.out.whole;obtain⟨U,hU⟩: ∃U,U=dotL (tabW one) l (2*16):=⟨_,rfl⟩;rw[←hU]at r1;have HU:=hid hU;clear hU;have tk:(wl U).take 2=wl U:=rfl;go_wp2_with fail;refine(dK U wr).mono ?_;rintro e w1 ⟨rfl,d1⟩;have z1:=Z1.out.belowAll d1;have r3:=z1.row;have r4:=z1.whole;have bl:(le64 U.1++le64 U.2).length=16:=by simp
   obtain⟨bb,hbb⟩: ∃bb,bb=le64 U.1++le64 U.2:=⟨_,rfl⟩;rw[←hbb]at bl;rw[←hbb];have HBB:=hid hbb;have KK:=(z1.put (A8 bb)).row;have K3:=hid KK;have B3:=hid (below_setRow (B1.out.trans (d1.mono B1.out.size)) (show w.heap.size≤w.heap.size+1 by omega) (A8 bb));clear hbb r1 r2 tk z1 KK d1;go_wp2;refine aj (A8 bb) rfl rfl rfl (isAgg42 _) (sizeOf42 _) (by rw[ag];exact bl) K3.out ⟨by rw[HBB.out,HU.out],B3.out⟩
open Go.RowKit
end Go.Proofs.YtddkbkbpogcffaaGreatDoor
