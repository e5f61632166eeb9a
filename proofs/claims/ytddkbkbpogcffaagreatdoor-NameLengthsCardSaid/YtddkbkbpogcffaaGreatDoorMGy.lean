/-hctr:Encipher,Decipher-/
import Derived.Test.YtddkbkbpogcffaaGreatDoorMHq
import Derived.Test.YtddkbkbpogcffaaGreatDoorMGh
namespace Go.Proofs.YtddkbkbpogcffaaGreatDoor
open Go.Proofs.Tryz
open Lib (hid)
set_option linter.unusedSimpArgs false
set_option linter.unusedVariables false
set_option maxRecDepth 100000
set_option maxHeartbeats 1600000
open Go.RowKit
theorem CE(p k pt m cp:Nat)(L h lb x:Y8)(w:World)(hc:CiAt w p k pt m L h lb)(hm:3≤m)(hm2:m≤100)(hcp:Blk w cp 127 #[.pointer (some ⟨p,0,none⟩)])(hx:x.length=16):
  Calls prog 277 #[.agg (A8 x),.pointer (some ⟨cp,0,none⟩)] w fun e w' =>e= .returned (.agg (A8 (encS L m x)))∧Below w.heap.size w w':=by
 obtain⟨W,hW⟩: ∃W,(w.alloc (.cells (A8 x) 42)).alloc (.cells (A8 (ac 8 16)) 42)=W:=⟨_,rfl⟩;obtain⟨b0,b1,hb,hz⟩:=new2 _ _ _ _ _ _ hW;have P0:=hid b0;have Z0:=hid b1;have B0:=hid hb;have C0:=hid (hc.below hb);have V0:=hid (hcp.belowAll hb);have hUl:(encS L m x).length=16:=dp L m x;obtain⟨U,hU⟩: ∃U,U=encS L m x:=⟨_,rfl⟩;rw[←hU]at hUl⊢;have HU:=hid hU;clear b0 b1 hb hz hc hcp hU;go_enter func277,ntmps277;go_upto_region 1 with fail;clear hW;refine aw [5,0,0,5,5,2,3] (by kernel_rfl) (by kernel_rfl) (fun C hC0 hCb K' hK' => ?_);have Q1: ∀w1,C w1→w1.cell? ⟨cp,0,none⟩=some (.pointer (some ⟨p,0,none⟩)):=fun w1 hw=>(V0.out.drew.belowAll (hCb w1 hw)).cell 0;have Q2: ∀w1,C w1→w1.cell? ⟨p,0,none⟩=some (.pointer (some ⟨k,0,none⟩)):=fun w1 hw=>(C0.out.drew.below (hCb w1 hw)).cell;have Q3: ∀w1,C w1→aF w1 w.heap.size=A8 x:=fun w1 hw=>(P0.out.drew.belowAll (hCb w1 hw)).row
 repeat (first|((with_reducible refine hq0 ?_);refine hq0a ?_)|((with_reducible refine hq5 ?_);refine hq5a ?_ (fun _ hcw=>by have f1:=Q1 _ hcw;have f2:=Q2 _ hcw;have f3:=Q3 _ hcw;go_simp;(try go_bits);exact rfl))|((with_reducible refine hq1 ?_);refine hq1a ?_))
 refine hqc ?_;go_simp;refine af ?_;refine(fS k pt m L x W.drew C0.out.drew.key hx hm hm2).mono ?_;rintro e w3 ⟨rfl,d3⟩;refine⟨_,rfl,d3,?_⟩
 try simp only[Act.put,zz1,zz2,zz3]
 rw[show encS L m x=U from HU.out.symm];refine aU [2] rfl (by simp) ?_;refine aq (Z0.out.drew.belowAll d3) rfl rfl (by rw[ag,ag,hUl,ah]) (aH _) (by rw[ag,hUl];exact sizeOf42 _) (fun w4 k4 g4 s4=> ?_);refine az (hK' _ _ ?_);have B4:=hid ((B0.out.drew.trans (d3.mono B0.out.size)).grown g4 (Nat.le_trans B0.out.size d3.size) (fun k hk=>by cases hk;omega));have r4:=k4.row;clear Q1 Q2 Q3 hC0 hCb hK' d3 g4 s4;go_wp2;refine aj (A8 U) rfl rfl rfl (isAgg42 _) (sizeOf42 _) (by rw[ag];exact hUl) r4 ⟨rfl,B4.out⟩
theorem tG(args:Array Value)(w:World):(callFunc 277 args).run prog w= .ok (.enter 277 args) w:=by
 go_simp
theorem Fb(p k pt m:Nat)(L h lb T M:Y8)(a b:Option Addr)(n c len d:Nat)(w:World)(hc:CiAt w p k pt m L h lb)(hm:3≤m)(hm2:m≤100)
  (ht:Rd8 w a n c T) (hM:Rd8 w b len d M) (hn:n≤1000) (h16:16≤len) (hlen:len≤520):
  Calls prog 273 #[.pointer (some ⟨p,0,none⟩),.slice a n c,.slice b len d] w fun e w' => ∃v,e= .returned (.tuple #[v,.int .i64 0])∧Own8 w' w.heap.size 5 v (ew (encS L m) L m h lb T M)∧Below w.heap.size w w':=by
 obtain⟨W,hW⟩: ∃W,(w.alloc (.cells #[.pointer (some ⟨p,0,none⟩)] 127))=W:=⟨_,rfl⟩;obtain⟨b0,hb,hz⟩:=new1 _ _ _ _ hW;have c0:W.cell? ⟨w.heap.size,0,none⟩=some (.pointer (some ⟨p,0,none⟩)):=b0.cell 0;have V0:=hid b0;have B0:=hid hb;have C0:=hid (hc.below hb);have dd:=uG (encS L m) 277 w.heap.size p k pt m L h lb T M a b n c len d W C0.out hm hm2 (ht.below hb) (hM.below hb) hn h16 hlen (fun x _=>dp L m x) tG
  (fun w1 x hw hx=>CE p k pt m w.heap.size L h lb x w1 (C0.out.below hw) hm hm2 (V0.out.belowAll hw) hx)
 have DD:=hid dd;clear dd b0 hb hz hc ht hM;go_enter func273,ntmps273;go_wp2_with fail;refine DD.out.mono ?_;rintro e w1 ⟨v,rfl,own,d1⟩;have O:=hid (Own8.base own B0.out.size);have B1:=hid (B0.out.trans (d1.mono B0.out.size));clear own d1;go_wp2;go_ret2;exact⟨v,rfl,O.out,B1.out⟩
theorem CF(p k pt m cp:Nat)(L h lb x:Y8)(w:World)(hc:CiAt w p k pt m L h lb)(hm:3≤m)(hm2:m≤100)(hcp:Blk w cp 127 #[.pointer (some ⟨p,0,none⟩)])(hx:x.length=16):
  Calls prog 276 #[.agg (A8 x),.pointer (some ⟨cp,0,none⟩)] w fun e w' =>e= .returned (.agg (A8 (decS L m x)))∧Below w.heap.size w w':=by
 obtain⟨W,hW⟩: ∃W,(w.alloc (.cells (A8 x) 42)).alloc (.cells (A8 (ac 8 16)) 42)=W:=⟨_,rfl⟩;obtain⟨b0,b1,hb,hz⟩:=new2 _ _ _ _ _ _ hW;have P0:=hid b0;have Z0:=hid b1;have B0:=hid hb;have C0:=hid (hc.below hb);have V0:=hid (hcp.belowAll hb);have hUl:(decS L m x).length=16:=fU L m x;obtain⟨U,hU⟩: ∃U,U=decS L m x:=⟨_,rfl⟩;rw[←hU]at hUl⊢;have HU:=hid hU;clear b0 b1 hb hz hc hcp hU;go_enter func276,ntmps276;go_upto_region 1 with fail;clear hW;refine aw [5,0,0,5,5,2,3] (by kernel_rfl) (by kernel_rfl) (fun C hC0 hCb K' hK' => ?_);have Q1: ∀w1,C w1→w1.cell? ⟨cp,0,none⟩=some (.pointer (some ⟨p,0,none⟩)):=fun w1 hw=>(V0.out.drew.belowAll (hCb w1 hw)).cell 0;have Q2: ∀w1,C w1→w1.cell? ⟨p,0,none⟩=some (.pointer (some ⟨k,0,none⟩)):=fun w1 hw=>(C0.out.drew.below (hCb w1 hw)).cell;have Q3: ∀w1,C w1→aF w1 w.heap.size=A8 x:=fun w1 hw=>(P0.out.drew.belowAll (hCb w1 hw)).row
 repeat (first|((with_reducible refine hq0 ?_);refine hq0a ?_)|((with_reducible refine hq5 ?_);refine hq5a ?_ (fun _ hcw=>by have f1:=Q1 _ hcw;have f2:=Q2 _ hcw;have f3:=Q3 _ hcw;go_simp;(try go_bits);exact rfl))|((with_reducible refine hq1 ?_);refine hq1a ?_))
 refine hqc ?_;go_simp;refine af ?_;refine(pb k pt m L x W.drew C0.out.drew.key hx hm hm2).mono ?_;rintro e w3 ⟨rfl,d3⟩;refine⟨_,rfl,d3,?_⟩
 try simp only[Act.put,zz1,zz2,zz3]
 rw[show decS L m x=U from HU.out.symm];refine aU [2] rfl (by simp) ?_;refine aq (Z0.out.drew.belowAll d3) rfl rfl (by rw[ag,ag,hUl,ah]) (aH _) (by rw[ag,hUl];exact sizeOf42 _) (fun w4 k4 g4 s4=> ?_);refine az (hK' _ _ ?_);have B4:=hid ((B0.out.drew.trans (d3.mono B0.out.size)).grown g4 (Nat.le_trans B0.out.size d3.size) (fun k hk=>by cases hk;omega));have r4:=k4.row;clear Q1 Q2 Q3 hC0 hCb hK' d3 g4 s4;go_wp2;refine aj (A8 U) rfl rfl rfl (isAgg42 _) (sizeOf42 _) (by rw[ag];exact hUl) r4 ⟨rfl,B4.out⟩
theorem tH(args:Array Value)(w:World):(callFunc 276 args).run prog w= .ok (.enter 276 args) w:=by
 go_simp
theorem Fc(p k pt m:Nat)(L h lb T M:Y8)(a b:Option Addr)(n c len d:Nat)(w:World)(hc:CiAt w p k pt m L h lb)(hm:3≤m)(hm2:m≤100)
  (ht:Rd8 w a n c T) (hM:Rd8 w b len d M) (hn:n≤1000) (h16:16≤len) (hlen:len≤520):
  Calls prog 272 #[.pointer (some ⟨p,0,none⟩),.slice a n c,.slice b len d] w fun e w' => ∃v,e= .returned (.tuple #[v,.int .i64 0])∧Own8 w' w.heap.size 5 v (ew (decS L m) L m h lb T M)∧Below w.heap.size w w':=by
 obtain⟨W,hW⟩: ∃W,(w.alloc (.cells #[.pointer (some ⟨p,0,none⟩)] 127))=W:=⟨_,rfl⟩;obtain⟨b0,hb,hz⟩:=new1 _ _ _ _ hW;have c0:W.cell? ⟨w.heap.size,0,none⟩=some (.pointer (some ⟨p,0,none⟩)):=b0.cell 0;have V0:=hid b0;have B0:=hid hb;have C0:=hid (hc.below hb);have dd:=uG (decS L m) 276 w.heap.size p k pt m L h lb T M a b n c len d W C0.out hm hm2 (ht.below hb) (hM.below hb) hn h16 hlen (fun x _=>fU L m x) tH
  (fun w1 x hw hx=>CF p k pt m w.heap.size L h lb x w1 (C0.out.below hw) hm hm2 (V0.out.belowAll hw) hx)
 have DD:=hid dd;clear dd b0 hb hz hc ht hM;go_enter func272,ntmps272;go_wp2_with fail;refine DD.out.mono ?_;rintro e w1 ⟨v,rfl,own,d1⟩;have O:=hid (Own8.base own B0.out.size);have B1:=hid (B0.out.trans (d1.mono B0.out.size));clear own d1;go_wp2;go_ret2;exact⟨v,rfl,O.out,B1.out⟩
open Go.RowKit
open Go.RowKit
section
variable {P:Program} {ops:Array Oper} {ks:List Nat} {l:List Oper} {a:Act}
theorem mg(w:World)(e t:TypeId)(g o:Nat)(u:Value)(m l:Y8)(hb:Blk w g t (PB u m))(h2:(sizeOf e).run P w= .ok l.length w)(h3:o+l.length≤m.length):
  (bR e (.pointer (some ⟨g,1+o,none⟩)) (.agg (A8 l))).run P w= .ok () (w.setRow g (PB u (splc m o l))):=by
 have hg:w.heap[g]? =some (.cells (PB u m) t (0,0)):=hb;have hst:=run_storeCells_at (P:=P) g (1+o) t (A8 l).toList 0 (PB u m) w hg (by rw[Array.length_toList,ag,Bm];omega) (fun v hv=>by
  have:=Array.all_eq_true'.1 (aH l) v (by simpa using hv);exact this)
 have e1:((PB u m).toList.take (1+o+0)++(A8 l).toList++(PB u m).toList.drop (1+o+0+(A8 l).toList.length)).toArray=PB u (splc m o l):=by
  simp only[PB,A8,Nat.add_zero,List.length_map];rw[Nat.add_comm 1 o,List.take_succ_cons,show o+1+l.length=(o+l.length)+1 by omega,List.drop_succ_cons];simp[splc,List.map_take,List.map_drop]
 rw[e1]at hst;have h2':(sizeOf e).run P w= .ok (A8 l).size w:=by rw[ag];exact h2
 simp only[bR,Instr.storeAt,Instr.sureAddr,storeVar,Sem.run_bind,Sem.run_pure,Result.andThen_ok,h2',Value.cells,ne_eq,not_true_eq_false,if_false,hst]
theorem lR {K:Act→World→Prop} {w:World} {e:TypeId} {p x:Operand} {ty:TypeId} {pos:String} {after:Array Edge} {g o:Nat} {t:TypeId} {u:Value} {m c:Y8}(hb:Blk w g t (PB u m))(hp:a.eval p= .pointer (some ⟨g,1+o,none⟩))(hv:a.eval x= .agg (A8 c))(hn:o+c.length≤m.length)
  (hsz:(sizeOf e).run P w= .ok c.length w) (h: ∀w1,Blk w1 g t (PB u (splc m o c))→w.grownBy w1 (some g)→w1.heap.size=w.heap.size→wpZ P ops K ks l a w1):wpZ P ops K (2::ks) (⟨none,.store e p x,ty,pos,after,none⟩::l) a w:=by
 have hr:(execOp a.eval ⟨none,.store e p x,ty,pos,after,none⟩).run P w= .ok .skip (w.setRow g (PB u (splc m o c))):=by
  rw[aV,hp,hv,mg w e t g o u m c hb hsz hn];simp
 refine kB rfl (fun K' hK' => ?_);unfold Oper.wp;rw[hr];exact hK' _ _ (h _ (hb.put _) (aK w g _) (by simp))
end
def hone:Y8:=1#8::ac 8 15
@[go_sem ↓ high] theorem Ko(w:World):(Instr.build 42 #[(0,.int .u8 1)]).run prog w= .ok (.agg (A8 hone)) w:=by kernel_rfl
@[go_sem ↓ high] theorem Jb(w:World):(Instr.build 42 #[]).run prog w= .ok (.agg (A8 (ac 8 16))) w:=by kernel_rfl
def hkey(L:Y8)(m:Nat):Y8:=encS L m (ac 8 16)
def lkey(L:Y8)(m:Nat):Y8:=encS L m hone
theorem Fd(h lb:Y8)(hh:h.length=16)(hl:lb.length=16):splc (splc (ac 8 32) 0 h) 16 lb=h++lb:=by
 have e0:splc (ac 8 32) 0 h=h++ac 8 16:=by simp[splc,ac,hh]
 rw[e0,splc,List.take_left' hh,List.drop_eq_nil_of_le (by simp[hh,hl]),List.append_nil]
theorem Fe(p:Nat)(key:Y8)(a:Option Addr)(n c:Nat)(w:World)(hT:TabAt w p)(hr:Rd8 w a n c key)(hn:n=16∨n=24∨n=32):
  Calls prog 68 #[.pointer (some ⟨p,0,none⟩),.slice a n c] w fun e w' => ∃q k,e= .returned (.tuple #[.pointer (some ⟨q,0,none⟩),.int .i64 0])∧CiAt w' q k p (n/4+7) (sch (n/4) key (3*(n/4)+28)) (hkey (sch (n/4) key (3*(n/4)+28)) (n/4+7)) (lkey (sch (n/4) key (3*(n/4)+28)) (n/4+7))∧Below w.heap.size w w':=by
 have hm:3≤n/4+7:=by omega
 have hm2:n/4+7≤100:=by omega
 have ex:=qy p key a n c w hT hr hn;obtain⟨m,hm0⟩: ∃m,m=n/4+7:=⟨_,rfl⟩;obtain⟨L,hL⟩: ∃L,L=sch (n/4) key (3*(n/4)+28):=⟨_,rfl⟩;rw[←hm0,←hL]at ex;rw[←hm0]at hm hm2;rw[←hm0,←hL];have EX:=hid ex;clear ex hm0 hL hr hT hn;go_enter func68,ntmps68;go_wp2_with fail;refine EX.out.mono ?_;rintro e w1 ⟨k,rfl,hk,hkB,d1⟩;have K1:=hid hk;have D1:=hid d1;clear hk d1 EX;obtain⟨u,hu⟩: ∃u:Value,u= .pointer (some ⟨k,0,none⟩):=⟨_,rfl⟩;have HB:=hid (Blk.new w1 163 (PB (.pointer (some ⟨k,0,none⟩)) (ac 8 32)));have DD:=hid (D1.out.alloc D1.out.size (.cells (PB (.pointer (some ⟨k,0,none⟩)) (ac 8 32)) 163));have KK:=hid (K1.out.below ((Below.refl w1.heap.size w1).alloc (Nat.le_refl _) (.cells (PB (.pointer (some ⟨k,0,none⟩)) (ac 8 32)) 163)));have hq1:w.heap.size≤w1.heap.size:=D1.out.size;have LL:=hid (show∀w',Below w1.heap.size w1 w'→KeyAt w' k p m L from fun w' h=>K1.out.below h);have DW:=hid ((Below.refl w1.heap.size w1).alloc (Nat.le_refl _) (.cells (PB (.pointer (some ⟨k,0,none⟩)) (ac 8 32)) 163));clear K1;go_upto_region 5 with fail;generalize hW2:World.alloc _ _=W2;have eW:w1.alloc (.cells (PB (.pointer (some ⟨k,0,none⟩)) (ac 8 32)) 163)=W2:=hW2;rw[eW]at HB DD KK DW;clear hW2 eW;generalize w1.heap.size=q at*;have hHl:(hkey L m).length=16:=dp L m _;have hLl:(lkey L m).length=16:=dp L m _;obtain⟨H,hH⟩: ∃H,H=hkey L m:=⟨_,rfl⟩;obtain⟨G,hG⟩: ∃G,G=lkey L m:=⟨_,rfl⟩;rw[←hH]at hHl;rw[←hG]at hLl;have HH:=hid hH;have HG:=hid hG;clear hH hG;refine aw [0,0,0,0,0,5,0,2,0,0,0,5,0,2,0,0,3,0,0,3] (by kernel_rfl) (by kernel_rfl) (fun C0 hC0 hCb K' hK' => ?_)
 have Q1: ∀w1,C0 w1→w1.cell? ⟨q,0,none⟩=some (.pointer (some ⟨k,0,none⟩)):=fun w1 hw=>by rw[(HB.out.drew.belowAll (hCb w1 hw)).cell,qs]
 repeat (first|((with_reducible refine hq0 ?_);refine hq0a ?_)|((with_reducible refine hq5 ?_);refine hq5a ?_ (fun _ hcw=>by have f1:=Q1 _ hcw;go_simp;(try go_bits);exact rfl))|((with_reducible refine hq1 ?_);refine hq1a ?_))
 refine hqc ?_;go_simp;refine af ?_;refine(fS k p m L (ac 8 16) W2.drew KK.out.drew rfl hm hm2).mono ?_;rintro e w3 ⟨rfl,d3⟩;refine⟨_,rfl,d3,?_⟩
 try simp only[Act.put,zz1,zz2,zz3]
 rw[show encS L m (ac 8 16)=H from HH.out.symm]
 repeat (first|((with_reducible refine hq0 ?_);refine hq0a ?_)|((with_reducible refine hq5 ?_);refine hq5a ?_ (fun _ hcw=>by have f1:=Q1 _ hcw;go_simp;(try go_bits);exact rfl))|((with_reducible refine hq1 ?_);refine hq1a ?_))
 refine hqc ?_;go_simp;refine af ?_;refine(fS k p m L hone w3 (KK.out.drew.below d3) rfl hm hm2).mono ?_;rintro e w4 ⟨rfl,d4⟩;refine⟨_,rfl,d4,?_⟩
 try simp only[Act.put,zz1,zz2,zz3]
 rw[show encS L m hone=G from HG.out.symm];have d34:=d3.trans (d4.mono d3.size);refine aU [0,0,2,0,0,2] rfl (by simp) ?_
 repeat (first|((with_reducible refine zq0 ?_);refine zq0a ?_)|((with_reducible refine zq1 ?_);refine zq1a ?_))
 refine lR (o:=0) (HB.out.drew.belowAll d34) rfl rfl (by rw[hHl,ah];omega) (by rw[hHl];exact sizeOf42 _) (fun w5 k5 g5 s5=> ?_)
 repeat (first|((with_reducible refine zq0 ?_);refine zq0a ?_)|((with_reducible refine zq1 ?_);refine zq1a ?_))
 refine lR (o:=16) k5 rfl rfl (by rw[hLl];simp[splc,hHl]) (by rw[hLl];exact sizeOf42 _) (fun w6 k6 g6 s6=> ?_);refine az (hK' _ _ ?_);rw[Fd H G hHl hLl]at k6;have Kq:=HB.out.lt;have B5:=(DD.out.drew.trans (d34.mono DD.out.size)).grown g5 (Nat.le_trans DD.out.size d34.size) (fun k hk=>by cases hk;exact hq1);have B6:=B5.grown g6 B5.size (fun k hk=>by cases hk;exact hq1);have dq:q≤W2.drew.heap.size:=Nat.le_of_lt Kq;have E5:=(DW.out.drew.trans (d34.mono dq)).grown g5 (Nat.le_trans dq d34.size) (fun k hk=>by cases hk;exact Nat.le_refl _);have E6:=E5.grown g6 (Nat.le_trans (Nat.le_trans dq d34.size) (by omega)) (fun k hk=>by cases hk;exact Nat.le_refl _);have CI:CiAt w6 q k p m L H G:=⟨LL.out _ E6,k6,hHl,hLl⟩;rw[HH.out,HG.out]at CI;have CI2:=hid CI;have BB:=hid B6;clear Q1 hC0 hCb hK' d3 d4 d34 k5 g5 s5 k6 g6 s6 B5 B6 E5 E6 CI HB DD KK LL DW D1;go_wp2;go_ret2;exact⟨q,k,rfl,CI2.out,BB.out⟩
end Go.Proofs.YtddkbkbpogcffaaGreatDoor
