/-octet.Wide:Bytes-/
import Derived.Test.YtlpkfdkhlffmlaaGreatDoorMGw
import Derived.Test.YtlpkfdkhlffmlaaGreatDoorMGq
import Derived.Test.YtlpkfdkhlffmlaaGreatDoorMGu
import Derived.Deep.CutRange
namespace Go.Proofs.YtlpkfdkhlffmlaaGreatDoor
open Go.Proofs.Tryz
open Lib (hid)
set_option linter.unusedSimpArgs false
set_option linter.unusedVariables false
set_option maxRecDepth 100000
set_option maxHeartbeats 1600000
open Go.RowKit
theorem qt {P:Program} {ops:Array Oper} {C:World→Prop} {R:Act→World→Prop} {dep:Nat→List Nat} {i j k m:Nat} {x y f g:Oper} {a:Act} {w:World}(hne:[i,j,k,m].Nodup)(di:dep i=[])(dj:dep j=[i])(dk:dep k=[])(dm:dep m=[])
  (hx:wpH P ops C (fun a w=>wpH P ops C (fun a w=>wpH P ops C R [2,2] [f,g] a w∧wpH P ops C R [2,2] [g,f] a w) [2] [y] a w∧wpH P ops C (fun a w=>wpH P ops C R [2,2] [y,g] a w∧wpH P ops C R [2,2] [g,y] a w) [2] [f] a w∧wpH P ops C (fun a w=>wpH P ops C R [2,2] [y,f] a w∧wpH P ops C R [2,2] [f,y] a w) [2] [g] a w) [2] [x] a w)
  (hf:wpH P ops C (fun a w=>wpH P ops C (fun a w=>wpH P ops C R [2,2] [y,g] a w∧wpH P ops C R [2,2] [g,y] a w) [2] [x] a w∧wpH P ops C R [2,2,2] [g,x,y] a w) [2] [f] a w)
  (hg:wpH P ops C (fun a w=>wpH P ops C (fun a w=>wpH P ops C R [2,2] [y,f] a w∧wpH P ops C R [2,2] [f,y] a w) [2] [x] a w∧wpH P ops C R [2,2,2] [f,x,y] a w) [2] [g] a w):
  da P ops C dep R 4 [(i,2,x),(j,2,y),(k,2,f),(m,2,g)] a w:=by
 simp only[List.nodup_cons,List.mem_cons,List.not_mem_nil,or_false,not_or,List.nodup_nil,and_true,not_false_eq_true]at hne;obtain⟨⟨n1,n2,n3⟩,⟨n4,n5⟩,n6⟩:=hne;have m1:j≠i:=fun e=>n1 e.symm;have m2:k≠i:=fun e=>n2 e.symm;have m3:m≠i:=fun e=>n3 e.symm;have m4:k≠j:=fun e=>n4 e.symm;have m5:m≠j:=fun e=>n5 e.symm;have m6:m≠k:=fun e=>n6 e.symm;simp only[wpH]at hx hf hg;simp only[da,List.mem_cons,List.not_mem_nil,or_false,forall_eq_or_imp,forall_eq,List.filter_cons,List.filter_nil,bne_iff_ne,ne_eq,n1,n2,n3,n4,n5,n6,m1,m2,m3,m4,m5,m6,not_false_eq_true,not_true_eq_false,if_true,if_false,di,dj,dk,dm];simp[n1,n2,n3,n4,n5,n6,m1,m2,m3,m4,m5,m6];exact⟨hx,hf,hg⟩
theorem df(X:W2)(w:World):
  Calls prog 233 #[.agg (A64 (wl X))] w fun e w' =>e= .returned (.agg (A8 (le64 X.1++le64 X.2)))∧Below w.heap.size w w':=by
 obtain⟨W,hW⟩: ∃W,((w.alloc (.cells (A64 (wl X)) 242)).alloc (.cells (A8 (aa 8 16)) 154)).alloc (.cells (A8 (aa 8 16)) 154)=W:=⟨_,rfl⟩;obtain⟨b0,b1,b2,hb,hz⟩:=new3 _ _ _ _ _ _ _ _ hW;have X0:=hid b0;have K0:=hid b1;have Z0:=hid b2;have B0:=hid hb;clear b0 b1 b2 hb hz;go_enter func233,ntmps233;go_upto_region 2 with fail;clear hW
 go_cut [4,5] from 6 to 11 (fun s4 s5 wx=> ∃pf pg:Nat,s4= .pointer (some ⟨pf,0,none⟩)∧s5= .pointer (some ⟨pg,0,none⟩)∧W.heap.size≤pf∧W.heap.size≤pg∧pf≠pg∧Blk wx pf 171 (A8 (le64 X.1))∧Blk wx pg 171 (A8 (le64 X.2))∧Below W.heap.size W wx)
 case first=>
  refine cq [0,5,2,0,5,2,2,2,3,3] [0,1,3,4] [(2,2,_),(5,2,_),(6,2,_),(7,2,_)] (fun i=>if i=5 then [2]else []) [8,9] [_,_,_,_] [_,_] [0,5,0,5] [3,3] 4 rfl rfl rfl (by kernel_rfl) (by kernel_rfl) (by kernel_rfl) rfl rfl rfl (fun C hC0 hCb hCe K' hK' => ?_);have R0: ∀w1,C w1→w1.cell? ⟨w.heap.size,0,none⟩=some (v64 X.1):=fun w1 h=>(X0.out.drew.belowAll (hCb w1 h)).cell64 (m:=2) rfl 0 (by omega);have R1: ∀w1,C w1→w1.cell? ⟨w.heap.size,1,none⟩=some (v64 X.2):=fun w1 h=>(X0.out.drew.belowAll (hCb w1 h)).cell64 (m:=2) rfl 1 (by omega)
  repeat (first|((with_reducible refine hq0 ?_);refine hq0a ?_)|((with_reducible refine hq5 ?_);refine hq5a ?_ (fun _ hcw=>by have f:=R0 _ hcw;have f1:=R1 _ hcw;go_simp;(try go_bits);exact rfl))|((with_reducible refine hq1 ?_);refine hq1a ?_))
  refine ax ?_;clear R0 R1 hC0 hCb;have Du0:Below W.heap.size W W.drew:=(Below.refl W.heap.size W).drew;refine qt (by decide) rfl rfl rfl rfl ?_ ?_ ?_
  ·(with_reducible refine ff ?_ ?_)
   ·exact rfl
   go_simp;refine ae ?_;refine(aw X.1 W.drew).mono ?_;rintro e u1 ⟨rfl,du1⟩;refine⟨_,rfl,du1,?_⟩
   try simp only[Act.put,zz1,zz2,zz3]
   have Du1:=Du0.trans (du1.mono Du0.size);refine ax ⟨?_,?_,?_⟩
   ·(with_reducible refine ff ?_ ?_)
    ·exact rfl
    go_simp;refine ae ?_;refine(aw X.2 u1).mono ?_;rintro e u2 ⟨rfl,du2⟩;refine⟨_,rfl,du2,?_⟩
    try simp only[Act.put,zz1,zz2,zz3]
    have Du2:=Du1.trans (du2.mono Du1.size);refine ax ⟨?_,?_⟩
    ·obtain⟨u3,eu3⟩: ∃u,u2.alloc (.cells (A8 (aa 8 8)) 171)=u:=⟨_,rfl⟩;obtain⟨bfu3,du3,zu3⟩:=new1 _ _ _ _ eu3;obtain⟨pf,hpf⟩: ∃g,g=u2.heap.size:=⟨_,rfl⟩;refine aX (v:= .pointer (some ⟨pf,0,none⟩)) (w':=u3) rfl (by rw[←eu3,hpf];go_simp) du3 ?_;simp only[Act.put,zz1,zz2,zz3];rw[←hpf]at bfu3;have Gf:W.heap.size≤pf:=by rw[hpf];exact Du2.size
     clear eu3 zu3 hpf;have Du3:=Du2.trans (du3.mono Du2.size);obtain⟨u4,eu4⟩: ∃u,u3.alloc (.cells (A8 (aa 8 8)) 171)=u:=⟨_,rfl⟩;obtain⟨bgu4,du4,zu4⟩:=new1 _ _ _ _ eu4;obtain⟨pg,hpg⟩: ∃g,g=u3.heap.size:=⟨_,rfl⟩;refine aX (v:= .pointer (some ⟨pg,0,none⟩)) (w':=u4) rfl (by rw[←eu4,hpg];go_simp) du4 ?_;simp only[Act.put,zz1,zz2,zz3];rw[←hpg]at bgu4;have Gg:W.heap.size≤pg:=by rw[hpg];exact Du3.size
     have ne:pf≠pg:=by have:=bfu3.lt;omega
     clear eu4 zu4 hpg;have Du4:=Du3.trans (du4.mono Du3.size);have bfu4:=bfu3.belowAll du4;refine ax ?_;have BD:Below W.drew.heap.size W.drew u4:=⟨Du4.os,Du4.tape,Du4.output,Du4.size,Du4.block⟩;refine bE ?_;refine am bfu4 rfl rfl rfl (aB _) (sizeOf171 _) (fun w8 k8 q8 s8=> ?_);have BD8:=BD.trans (ac q8 Gf BD.size);refine ak ⟨hCe _ BD8,?_⟩;refine bE ?_;refine am (bgu4.grown q8 (by intro e;cases e;exact(ne).symm rfl)) rfl rfl rfl (aB _) (sizeOf171 _) (fun w9 k9 q9 s9=> ?_);have BD9:=BD8.trans (ac q9 Gg BD8.size);refine ak ⟨hCe _ BD9,?_⟩;refine cQ (hK' _ _ ?_);go_wp2
     go_meet
     exact⟨pf,pg,rfl,rfl,Gf,Gg,ne,k8.grown q9 (by intro e;cases e;exact ne rfl),k9,(Du4.trans (ac q8 Gf Du4.size)).trans (ac q9 Gg (Nat.le_trans Du4.size q8.size))⟩
    ·obtain⟨u3,eu3⟩: ∃u,u2.alloc (.cells (A8 (aa 8 8)) 171)=u:=⟨_,rfl⟩;obtain⟨bgu3,du3,zu3⟩:=new1 _ _ _ _ eu3;obtain⟨pg,hpg⟩: ∃g,g=u2.heap.size:=⟨_,rfl⟩;refine aX (v:= .pointer (some ⟨pg,0,none⟩)) (w':=u3) rfl (by rw[←eu3,hpg];go_simp) du3 ?_;simp only[Act.put,zz1,zz2,zz3];rw[←hpg]at bgu3;have Gg:W.heap.size≤pg:=by rw[hpg];exact Du2.size
     clear eu3 zu3 hpg;have Du3:=Du2.trans (du3.mono Du2.size);obtain⟨u4,eu4⟩: ∃u,u3.alloc (.cells (A8 (aa 8 8)) 171)=u:=⟨_,rfl⟩;obtain⟨bfu4,du4,zu4⟩:=new1 _ _ _ _ eu4;obtain⟨pf,hpf⟩: ∃g,g=u3.heap.size:=⟨_,rfl⟩;refine aX (v:= .pointer (some ⟨pf,0,none⟩)) (w':=u4) rfl (by rw[←eu4,hpf];go_simp) du4 ?_;simp only[Act.put,zz1,zz2,zz3];rw[←hpf]at bfu4;have Gf:W.heap.size≤pf:=by rw[hpf];exact Du3.size
     have ne:pg≠pf:=by have:=bgu3.lt;omega
     clear eu4 zu4 hpf;have Du4:=Du3.trans (du4.mono Du3.size);have bgu4:=bgu3.belowAll du4;refine ax ?_;have BD:Below W.drew.heap.size W.drew u4:=⟨Du4.os,Du4.tape,Du4.output,Du4.size,Du4.block⟩;refine bE ?_;refine am bfu4 rfl rfl rfl (aB _) (sizeOf171 _) (fun w8 k8 q8 s8=> ?_);have BD8:=BD.trans (ac q8 Gf BD.size);refine ak ⟨hCe _ BD8,?_⟩;refine bE ?_;refine am (bgu4.grown q8 (by intro e;cases e;exact(ne.symm).symm rfl)) rfl rfl rfl (aB _) (sizeOf171 _) (fun w9 k9 q9 s9=> ?_);have BD9:=BD8.trans (ac q9 Gg BD8.size);refine ak ⟨hCe _ BD9,?_⟩;refine cQ (hK' _ _ ?_);go_wp2
     go_meet
     exact⟨pf,pg,rfl,rfl,Gf,Gg,ne.symm,k8.grown q9 (by intro e;cases e;exact ne.symm rfl),k9,(Du4.trans (ac q8 Gf Du4.size)).trans (ac q9 Gg (Nat.le_trans Du4.size q8.size))⟩
   ·obtain⟨u2,eu2⟩: ∃u,u1.alloc (.cells (A8 (aa 8 8)) 171)=u:=⟨_,rfl⟩;obtain⟨bfu2,du2,zu2⟩:=new1 _ _ _ _ eu2;obtain⟨pf,hpf⟩: ∃g,g=u1.heap.size:=⟨_,rfl⟩;refine aX (v:= .pointer (some ⟨pf,0,none⟩)) (w':=u2) rfl (by rw[←eu2,hpf];go_simp) du2 ?_;simp only[Act.put,zz1,zz2,zz3];rw[←hpf]at bfu2;have Gf:W.heap.size≤pf:=by rw[hpf];exact Du1.size
    clear eu2 zu2 hpf;have Du2:=Du1.trans (du2.mono Du1.size);refine ax ⟨?_,?_⟩
    ·(with_reducible refine ff ?_ ?_)
     ·exact rfl
     go_simp;refine ae ?_;refine(aw X.2 u2).mono ?_;rintro e u3 ⟨rfl,du3⟩;refine⟨_,rfl,du3,?_⟩
     try simp only[Act.put,zz1,zz2,zz3]
     have Du3:=Du2.trans (du3.mono Du2.size);have bfu3:=bfu2.belowAll du3;obtain⟨u4,eu4⟩: ∃u,u3.alloc (.cells (A8 (aa 8 8)) 171)=u:=⟨_,rfl⟩;obtain⟨bgu4,du4,zu4⟩:=new1 _ _ _ _ eu4;obtain⟨pg,hpg⟩: ∃g,g=u3.heap.size:=⟨_,rfl⟩;refine aX (v:= .pointer (some ⟨pg,0,none⟩)) (w':=u4) rfl (by rw[←eu4,hpg];go_simp) du4 ?_;simp only[Act.put,zz1,zz2,zz3];rw[←hpg]at bgu4;have Gg:W.heap.size≤pg:=by rw[hpg];exact Du3.size
     have ne:pf≠pg:=by have:=bfu3.lt;omega
     clear eu4 zu4 hpg;have Du4:=Du3.trans (du4.mono Du3.size);have bfu4:=bfu3.belowAll du4;refine ax ?_;have BD:Below W.drew.heap.size W.drew u4:=⟨Du4.os,Du4.tape,Du4.output,Du4.size,Du4.block⟩;refine bE ?_;refine am bfu4 rfl rfl rfl (aB _) (sizeOf171 _) (fun w8 k8 q8 s8=> ?_);have BD8:=BD.trans (ac q8 Gf BD.size);refine ak ⟨hCe _ BD8,?_⟩;refine bE ?_;refine am (bgu4.grown q8 (by intro e;cases e;exact(ne).symm rfl)) rfl rfl rfl (aB _) (sizeOf171 _) (fun w9 k9 q9 s9=> ?_);have BD9:=BD8.trans (ac q9 Gg BD8.size);refine ak ⟨hCe _ BD9,?_⟩;refine cQ (hK' _ _ ?_);go_wp2
     go_meet
     exact⟨pf,pg,rfl,rfl,Gf,Gg,ne,k8.grown q9 (by intro e;cases e;exact ne rfl),k9,(Du4.trans (ac q8 Gf Du4.size)).trans (ac q9 Gg (Nat.le_trans Du4.size q8.size))⟩
    ·obtain⟨u3,eu3⟩: ∃u,u2.alloc (.cells (A8 (aa 8 8)) 171)=u:=⟨_,rfl⟩;obtain⟨bgu3,du3,zu3⟩:=new1 _ _ _ _ eu3;obtain⟨pg,hpg⟩: ∃g,g=u2.heap.size:=⟨_,rfl⟩;refine aX (v:= .pointer (some ⟨pg,0,none⟩)) (w':=u3) rfl (by rw[←eu3,hpg];go_simp) du3 ?_;simp only[Act.put,zz1,zz2,zz3];rw[←hpg]at bgu3;have Gg:W.heap.size≤pg:=by rw[hpg];exact Du2.size
     have ne:pf≠pg:=by have:=bfu2.lt;omega
     clear eu3 zu3 hpg;have Du3:=Du2.trans (du3.mono Du2.size);have bfu3:=bfu2.belowAll du3;refine hqc ?_;go_simp;refine ae ?_;refine(aw X.2 u3).mono ?_;rintro e u4 ⟨rfl,du4⟩;refine⟨_,rfl,du4,?_⟩
     try simp only[Act.put,zz1,zz2,zz3]
     have Du4:=Du3.trans (du4.mono Du3.size);have bfu4:=bfu3.belowAll du4;have bgu4:=bgu3.belowAll du4;refine ax ?_;have BD:Below W.drew.heap.size W.drew u4:=⟨Du4.os,Du4.tape,Du4.output,Du4.size,Du4.block⟩;refine bE ?_;refine am bfu4 rfl rfl rfl (aB _) (sizeOf171 _) (fun w8 k8 q8 s8=> ?_);have BD8:=BD.trans (ac q8 Gf BD.size);refine ak ⟨hCe _ BD8,?_⟩;refine bE ?_;refine am (bgu4.grown q8 (by intro e;cases e;exact(ne).symm rfl)) rfl rfl rfl (aB _) (sizeOf171 _) (fun w9 k9 q9 s9=> ?_);have BD9:=BD8.trans (ac q9 Gg BD8.size);refine ak ⟨hCe _ BD9,?_⟩;refine cQ (hK' _ _ ?_);go_wp2
     go_meet
     exact⟨pf,pg,rfl,rfl,Gf,Gg,ne,k8.grown q9 (by intro e;cases e;exact ne rfl),k9,(Du4.trans (ac q8 Gf Du4.size)).trans (ac q9 Gg (Nat.le_trans Du4.size q8.size))⟩
   ·obtain⟨u2,eu2⟩: ∃u,u1.alloc (.cells (A8 (aa 8 8)) 171)=u:=⟨_,rfl⟩;obtain⟨bgu2,du2,zu2⟩:=new1 _ _ _ _ eu2;obtain⟨pg,hpg⟩: ∃g,g=u1.heap.size:=⟨_,rfl⟩;refine aX (v:= .pointer (some ⟨pg,0,none⟩)) (w':=u2) rfl (by rw[←eu2,hpg];go_simp) du2 ?_;simp only[Act.put,zz1,zz2,zz3];rw[←hpg]at bgu2;have Gg:W.heap.size≤pg:=by rw[hpg];exact Du1.size
    clear eu2 zu2 hpg;have Du2:=Du1.trans (du2.mono Du1.size);refine ax ⟨?_,?_⟩
    ·(with_reducible refine ff ?_ ?_)
     ·exact rfl
     go_simp;refine ae ?_;refine(aw X.2 u2).mono ?_;rintro e u3 ⟨rfl,du3⟩;refine⟨_,rfl,du3,?_⟩
     try simp only[Act.put,zz1,zz2,zz3]
     have Du3:=Du2.trans (du3.mono Du2.size);have bgu3:=bgu2.belowAll du3;obtain⟨u4,eu4⟩: ∃u,u3.alloc (.cells (A8 (aa 8 8)) 171)=u:=⟨_,rfl⟩;obtain⟨bfu4,du4,zu4⟩:=new1 _ _ _ _ eu4;obtain⟨pf,hpf⟩: ∃g,g=u3.heap.size:=⟨_,rfl⟩;refine aX (v:= .pointer (some ⟨pf,0,none⟩)) (w':=u4) rfl (by rw[←eu4,hpf];go_simp) du4 ?_;simp only[Act.put,zz1,zz2,zz3];rw[←hpf]at bfu4;have Gf:W.heap.size≤pf:=by rw[hpf];exact Du3.size
     have ne:pg≠pf:=by have:=bgu3.lt;omega
     clear eu4 zu4 hpf;have Du4:=Du3.trans (du4.mono Du3.size);have bgu4:=bgu3.belowAll du4;refine ax ?_;have BD:Below W.drew.heap.size W.drew u4:=⟨Du4.os,Du4.tape,Du4.output,Du4.size,Du4.block⟩;refine bE ?_;refine am bfu4 rfl rfl rfl (aB _) (sizeOf171 _) (fun w8 k8 q8 s8=> ?_);have BD8:=BD.trans (ac q8 Gf BD.size);refine ak ⟨hCe _ BD8,?_⟩;refine bE ?_;refine am (bgu4.grown q8 (by intro e;cases e;exact(ne.symm).symm rfl)) rfl rfl rfl (aB _) (sizeOf171 _) (fun w9 k9 q9 s9=> ?_);have BD9:=BD8.trans (ac q9 Gg BD8.size);refine ak ⟨hCe _ BD9,?_⟩;refine cQ (hK' _ _ ?_);go_wp2
     go_meet
     exact⟨pf,pg,rfl,rfl,Gf,Gg,ne.symm,k8.grown q9 (by intro e;cases e;exact ne.symm rfl),k9,(Du4.trans (ac q8 Gf Du4.size)).trans (ac q9 Gg (Nat.le_trans Du4.size q8.size))⟩
    ·obtain⟨u3,eu3⟩: ∃u,u2.alloc (.cells (A8 (aa 8 8)) 171)=u:=⟨_,rfl⟩;obtain⟨bfu3,du3,zu3⟩:=new1 _ _ _ _ eu3;obtain⟨pf,hpf⟩: ∃g,g=u2.heap.size:=⟨_,rfl⟩;refine aX (v:= .pointer (some ⟨pf,0,none⟩)) (w':=u3) rfl (by rw[←eu3,hpf];go_simp) du3 ?_;simp only[Act.put,zz1,zz2,zz3];rw[←hpf]at bfu3;have Gf:W.heap.size≤pf:=by rw[hpf];exact Du2.size
     have ne:pg≠pf:=by have:=bgu2.lt;omega
     clear eu3 zu3 hpf;have Du3:=Du2.trans (du3.mono Du2.size);have bgu3:=bgu2.belowAll du3;refine hqc ?_;go_simp;refine ae ?_;refine(aw X.2 u3).mono ?_;rintro e u4 ⟨rfl,du4⟩;refine⟨_,rfl,du4,?_⟩
     try simp only[Act.put,zz1,zz2,zz3]
     have Du4:=Du3.trans (du4.mono Du3.size);have bgu4:=bgu3.belowAll du4;have bfu4:=bfu3.belowAll du4;refine ax ?_;have BD:Below W.drew.heap.size W.drew u4:=⟨Du4.os,Du4.tape,Du4.output,Du4.size,Du4.block⟩;refine bE ?_;refine am bfu4 rfl rfl rfl (aB _) (sizeOf171 _) (fun w8 k8 q8 s8=> ?_);have BD8:=BD.trans (ac q8 Gf BD.size);refine ak ⟨hCe _ BD8,?_⟩;refine bE ?_;refine am (bgu4.grown q8 (by intro e;cases e;exact(ne.symm).symm rfl)) rfl rfl rfl (aB _) (sizeOf171 _) (fun w9 k9 q9 s9=> ?_);have BD9:=BD8.trans (ac q9 Gg BD8.size);refine ak ⟨hCe _ BD9,?_⟩;refine cQ (hK' _ _ ?_);go_wp2
     go_meet
     exact⟨pf,pg,rfl,rfl,Gf,Gg,ne.symm,k8.grown q9 (by intro e;cases e;exact ne.symm rfl),k9,(Du4.trans (ac q8 Gf Du4.size)).trans (ac q9 Gg (Nat.le_trans Du4.size q8.size))⟩
  ·obtain⟨u1,eu1⟩: ∃u,W.drew.alloc (.cells (A8 (aa 8 8)) 171)=u:=⟨_,rfl⟩;obtain⟨bfu1,du1,zu1⟩:=new1 _ _ _ _ eu1;obtain⟨pf,hpf⟩: ∃g,g=W.drew.heap.size:=⟨_,rfl⟩;refine aX (v:= .pointer (some ⟨pf,0,none⟩)) (w':=u1) rfl (by rw[←eu1,hpf];go_simp) du1 ?_;simp only[Act.put,zz1,zz2,zz3];rw[←hpf]at bfu1;have Gf:W.heap.size≤pf:=by rw[hpf];exact Du0.size
   clear eu1 zu1 hpf;have Du1:=Du0.trans (du1.mono Du0.size);refine ax ⟨?_,?_⟩
   ·(with_reducible refine ff ?_ ?_)
    ·exact rfl
    go_simp;refine ae ?_;refine(aw X.1 u1).mono ?_;rintro e u2 ⟨rfl,du2⟩;refine⟨_,rfl,du2,?_⟩
    try simp only[Act.put,zz1,zz2,zz3]
    have Du2:=Du1.trans (du2.mono Du1.size);have bfu2:=bfu1.belowAll du2;refine ax ⟨?_,?_⟩
    ·(with_reducible refine ff ?_ ?_)
     ·exact rfl
     go_simp;refine ae ?_;refine(aw X.2 u2).mono ?_;rintro e u3 ⟨rfl,du3⟩;refine⟨_,rfl,du3,?_⟩
     try simp only[Act.put,zz1,zz2,zz3]
     have Du3:=Du2.trans (du3.mono Du2.size);have bfu3:=bfu2.belowAll du3;obtain⟨u4,eu4⟩: ∃u,u3.alloc (.cells (A8 (aa 8 8)) 171)=u:=⟨_,rfl⟩;obtain⟨bgu4,du4,zu4⟩:=new1 _ _ _ _ eu4;obtain⟨pg,hpg⟩: ∃g,g=u3.heap.size:=⟨_,rfl⟩;refine aX (v:= .pointer (some ⟨pg,0,none⟩)) (w':=u4) rfl (by rw[←eu4,hpg];go_simp) du4 ?_;simp only[Act.put,zz1,zz2,zz3];rw[←hpg]at bgu4;have Gg:W.heap.size≤pg:=by rw[hpg];exact Du3.size
     have ne:pf≠pg:=by have:=bfu3.lt;omega
     clear eu4 zu4 hpg;have Du4:=Du3.trans (du4.mono Du3.size);have bfu4:=bfu3.belowAll du4;refine ax ?_;have BD:Below W.drew.heap.size W.drew u4:=⟨Du4.os,Du4.tape,Du4.output,Du4.size,Du4.block⟩;refine bE ?_;refine am bfu4 rfl rfl rfl (aB _) (sizeOf171 _) (fun w8 k8 q8 s8=> ?_);have BD8:=BD.trans (ac q8 Gf BD.size);refine ak ⟨hCe _ BD8,?_⟩;refine bE ?_;refine am (bgu4.grown q8 (by intro e;cases e;exact(ne).symm rfl)) rfl rfl rfl (aB _) (sizeOf171 _) (fun w9 k9 q9 s9=> ?_);have BD9:=BD8.trans (ac q9 Gg BD8.size);refine ak ⟨hCe _ BD9,?_⟩;refine cQ (hK' _ _ ?_);go_wp2
     go_meet
     exact⟨pf,pg,rfl,rfl,Gf,Gg,ne,k8.grown q9 (by intro e;cases e;exact ne rfl),k9,(Du4.trans (ac q8 Gf Du4.size)).trans (ac q9 Gg (Nat.le_trans Du4.size q8.size))⟩
    ·obtain⟨u3,eu3⟩: ∃u,u2.alloc (.cells (A8 (aa 8 8)) 171)=u:=⟨_,rfl⟩;obtain⟨bgu3,du3,zu3⟩:=new1 _ _ _ _ eu3;obtain⟨pg,hpg⟩: ∃g,g=u2.heap.size:=⟨_,rfl⟩;refine aX (v:= .pointer (some ⟨pg,0,none⟩)) (w':=u3) rfl (by rw[←eu3,hpg];go_simp) du3 ?_;simp only[Act.put,zz1,zz2,zz3];rw[←hpg]at bgu3;have Gg:W.heap.size≤pg:=by rw[hpg];exact Du2.size
     have ne:pf≠pg:=by have:=bfu2.lt;omega
     clear eu3 zu3 hpg;have Du3:=Du2.trans (du3.mono Du2.size);have bfu3:=bfu2.belowAll du3;refine hqc ?_;go_simp;refine ae ?_;refine(aw X.2 u3).mono ?_;rintro e u4 ⟨rfl,du4⟩;refine⟨_,rfl,du4,?_⟩
     try simp only[Act.put,zz1,zz2,zz3]
     have Du4:=Du3.trans (du4.mono Du3.size);have bfu4:=bfu3.belowAll du4;have bgu4:=bgu3.belowAll du4;refine ax ?_;have BD:Below W.drew.heap.size W.drew u4:=⟨Du4.os,Du4.tape,Du4.output,Du4.size,Du4.block⟩;refine bE ?_;refine am bfu4 rfl rfl rfl (aB _) (sizeOf171 _) (fun w8 k8 q8 s8=> ?_);have BD8:=BD.trans (ac q8 Gf BD.size);refine ak ⟨hCe _ BD8,?_⟩;refine bE ?_;refine am (bgu4.grown q8 (by intro e;cases e;exact(ne).symm rfl)) rfl rfl rfl (aB _) (sizeOf171 _) (fun w9 k9 q9 s9=> ?_);have BD9:=BD8.trans (ac q9 Gg BD8.size);refine ak ⟨hCe _ BD9,?_⟩;refine cQ (hK' _ _ ?_);go_wp2
     go_meet
     exact⟨pf,pg,rfl,rfl,Gf,Gg,ne,k8.grown q9 (by intro e;cases e;exact ne rfl),k9,(Du4.trans (ac q8 Gf Du4.size)).trans (ac q9 Gg (Nat.le_trans Du4.size q8.size))⟩
   ·obtain⟨u2,eu2⟩: ∃u,u1.alloc (.cells (A8 (aa 8 8)) 171)=u:=⟨_,rfl⟩;obtain⟨bgu2,du2,zu2⟩:=new1 _ _ _ _ eu2;obtain⟨pg,hpg⟩: ∃g,g=u1.heap.size:=⟨_,rfl⟩;refine aX (v:= .pointer (some ⟨pg,0,none⟩)) (w':=u2) rfl (by rw[←eu2,hpg];go_simp) du2 ?_;simp only[Act.put,zz1,zz2,zz3];rw[←hpg]at bgu2;have Gg:W.heap.size≤pg:=by rw[hpg];exact Du1.size
    have ne:pf≠pg:=by have:=bfu1.lt;omega
    clear eu2 zu2 hpg;have Du2:=Du1.trans (du2.mono Du1.size);have bfu2:=bfu1.belowAll du2;refine hqc ?_;go_simp;refine ae ?_;refine(aw X.1 u2).mono ?_;rintro e u3 ⟨rfl,du3⟩;refine⟨_,rfl,du3,?_⟩
    try simp only[Act.put,zz1,zz2,zz3]
    have Du3:=Du2.trans (du3.mono Du2.size);have bfu3:=bfu2.belowAll du3;have bgu3:=bgu2.belowAll du3;refine hqc ?_;go_simp;refine ae ?_;refine(aw X.2 u3).mono ?_;rintro e u4 ⟨rfl,du4⟩;refine⟨_,rfl,du4,?_⟩
    try simp only[Act.put,zz1,zz2,zz3]
    have Du4:=Du3.trans (du4.mono Du3.size);have bfu4:=bfu3.belowAll du4;have bgu4:=bgu3.belowAll du4;refine ax ?_;have BD:Below W.drew.heap.size W.drew u4:=⟨Du4.os,Du4.tape,Du4.output,Du4.size,Du4.block⟩;refine bE ?_;refine am bfu4 rfl rfl rfl (aB _) (sizeOf171 _) (fun w8 k8 q8 s8=> ?_);have BD8:=BD.trans (ac q8 Gf BD.size);refine ak ⟨hCe _ BD8,?_⟩;refine bE ?_;refine am (bgu4.grown q8 (by intro e;cases e;exact(ne).symm rfl)) rfl rfl rfl (aB _) (sizeOf171 _) (fun w9 k9 q9 s9=> ?_);have BD9:=BD8.trans (ac q9 Gg BD8.size);refine ak ⟨hCe _ BD9,?_⟩;refine cQ (hK' _ _ ?_);go_wp2
    go_meet
    exact⟨pf,pg,rfl,rfl,Gf,Gg,ne,k8.grown q9 (by intro e;cases e;exact ne rfl),k9,(Du4.trans (ac q8 Gf Du4.size)).trans (ac q9 Gg (Nat.le_trans Du4.size q8.size))⟩
  ·obtain⟨u1,eu1⟩: ∃u,W.drew.alloc (.cells (A8 (aa 8 8)) 171)=u:=⟨_,rfl⟩;obtain⟨bgu1,du1,zu1⟩:=new1 _ _ _ _ eu1;obtain⟨pg,hpg⟩: ∃g,g=W.drew.heap.size:=⟨_,rfl⟩;refine aX (v:= .pointer (some ⟨pg,0,none⟩)) (w':=u1) rfl (by rw[←eu1,hpg];go_simp) du1 ?_;simp only[Act.put,zz1,zz2,zz3];rw[←hpg]at bgu1;have Gg:W.heap.size≤pg:=by rw[hpg];exact Du0.size
   clear eu1 zu1 hpg;have Du1:=Du0.trans (du1.mono Du0.size);refine ax ⟨?_,?_⟩
   ·(with_reducible refine ff ?_ ?_)
    ·exact rfl
    go_simp;refine ae ?_;refine(aw X.1 u1).mono ?_;rintro e u2 ⟨rfl,du2⟩;refine⟨_,rfl,du2,?_⟩
    try simp only[Act.put,zz1,zz2,zz3]
    have Du2:=Du1.trans (du2.mono Du1.size);have bgu2:=bgu1.belowAll du2;refine ax ⟨?_,?_⟩
    ·(with_reducible refine ff ?_ ?_)
     ·exact rfl
     go_simp;refine ae ?_;refine(aw X.2 u2).mono ?_;rintro e u3 ⟨rfl,du3⟩;refine⟨_,rfl,du3,?_⟩
     try simp only[Act.put,zz1,zz2,zz3]
     have Du3:=Du2.trans (du3.mono Du2.size);have bgu3:=bgu2.belowAll du3;obtain⟨u4,eu4⟩: ∃u,u3.alloc (.cells (A8 (aa 8 8)) 171)=u:=⟨_,rfl⟩;obtain⟨bfu4,du4,zu4⟩:=new1 _ _ _ _ eu4;obtain⟨pf,hpf⟩: ∃g,g=u3.heap.size:=⟨_,rfl⟩;refine aX (v:= .pointer (some ⟨pf,0,none⟩)) (w':=u4) rfl (by rw[←eu4,hpf];go_simp) du4 ?_;simp only[Act.put,zz1,zz2,zz3];rw[←hpf]at bfu4;have Gf:W.heap.size≤pf:=by rw[hpf];exact Du3.size
     have ne:pg≠pf:=by have:=bgu3.lt;omega
     clear eu4 zu4 hpf;have Du4:=Du3.trans (du4.mono Du3.size);have bgu4:=bgu3.belowAll du4;refine ax ?_;have BD:Below W.drew.heap.size W.drew u4:=⟨Du4.os,Du4.tape,Du4.output,Du4.size,Du4.block⟩;refine bE ?_;refine am bfu4 rfl rfl rfl (aB _) (sizeOf171 _) (fun w8 k8 q8 s8=> ?_);have BD8:=BD.trans (ac q8 Gf BD.size);refine ak ⟨hCe _ BD8,?_⟩;refine bE ?_;refine am (bgu4.grown q8 (by intro e;cases e;exact(ne.symm).symm rfl)) rfl rfl rfl (aB _) (sizeOf171 _) (fun w9 k9 q9 s9=> ?_);have BD9:=BD8.trans (ac q9 Gg BD8.size);refine ak ⟨hCe _ BD9,?_⟩;refine cQ (hK' _ _ ?_);go_wp2
     go_meet
     exact⟨pf,pg,rfl,rfl,Gf,Gg,ne.symm,k8.grown q9 (by intro e;cases e;exact ne.symm rfl),k9,(Du4.trans (ac q8 Gf Du4.size)).trans (ac q9 Gg (Nat.le_trans Du4.size q8.size))⟩
    ·obtain⟨u3,eu3⟩: ∃u,u2.alloc (.cells (A8 (aa 8 8)) 171)=u:=⟨_,rfl⟩;obtain⟨bfu3,du3,zu3⟩:=new1 _ _ _ _ eu3;obtain⟨pf,hpf⟩: ∃g,g=u2.heap.size:=⟨_,rfl⟩;refine aX (v:= .pointer (some ⟨pf,0,none⟩)) (w':=u3) rfl (by rw[←eu3,hpf];go_simp) du3 ?_;simp only[Act.put,zz1,zz2,zz3];rw[←hpf]at bfu3;have Gf:W.heap.size≤pf:=by rw[hpf];exact Du2.size
     have ne:pg≠pf:=by have:=bgu2.lt;omega
     clear eu3 zu3 hpf;have Du3:=Du2.trans (du3.mono Du2.size);have bgu3:=bgu2.belowAll du3;refine hqc ?_;go_simp;refine ae ?_;refine(aw X.2 u3).mono ?_;rintro e u4 ⟨rfl,du4⟩;refine⟨_,rfl,du4,?_⟩
     try simp only[Act.put,zz1,zz2,zz3]
     have Du4:=Du3.trans (du4.mono Du3.size);have bgu4:=bgu3.belowAll du4;have bfu4:=bfu3.belowAll du4;refine ax ?_;have BD:Below W.drew.heap.size W.drew u4:=⟨Du4.os,Du4.tape,Du4.output,Du4.size,Du4.block⟩;refine bE ?_;refine am bfu4 rfl rfl rfl (aB _) (sizeOf171 _) (fun w8 k8 q8 s8=> ?_);have BD8:=BD.trans (ac q8 Gf BD.size);refine ak ⟨hCe _ BD8,?_⟩;refine bE ?_;refine am (bgu4.grown q8 (by intro e;cases e;exact(ne.symm).symm rfl)) rfl rfl rfl (aB _) (sizeOf171 _) (fun w9 k9 q9 s9=> ?_);have BD9:=BD8.trans (ac q9 Gg BD8.size);refine ak ⟨hCe _ BD9,?_⟩;refine cQ (hK' _ _ ?_);go_wp2
     go_meet
     exact⟨pf,pg,rfl,rfl,Gf,Gg,ne.symm,k8.grown q9 (by intro e;cases e;exact ne.symm rfl),k9,(Du4.trans (ac q8 Gf Du4.size)).trans (ac q9 Gg (Nat.le_trans Du4.size q8.size))⟩
   ·obtain⟨u2,eu2⟩: ∃u,u1.alloc (.cells (A8 (aa 8 8)) 171)=u:=⟨_,rfl⟩;obtain⟨bfu2,du2,zu2⟩:=new1 _ _ _ _ eu2;obtain⟨pf,hpf⟩: ∃g,g=u1.heap.size:=⟨_,rfl⟩;refine aX (v:= .pointer (some ⟨pf,0,none⟩)) (w':=u2) rfl (by rw[←eu2,hpf];go_simp) du2 ?_;simp only[Act.put,zz1,zz2,zz3];rw[←hpf]at bfu2;have Gf:W.heap.size≤pf:=by rw[hpf];exact Du1.size
    have ne:pg≠pf:=by have:=bgu1.lt;omega
    clear eu2 zu2 hpf;have Du2:=Du1.trans (du2.mono Du1.size);have bgu2:=bgu1.belowAll du2;refine hqc ?_;go_simp;refine ae ?_;refine(aw X.1 u2).mono ?_;rintro e u3 ⟨rfl,du3⟩;refine⟨_,rfl,du3,?_⟩
    try simp only[Act.put,zz1,zz2,zz3]
    have Du3:=Du2.trans (du3.mono Du2.size);have bgu3:=bgu2.belowAll du3;have bfu3:=bfu2.belowAll du3;refine hqc ?_;go_simp;refine ae ?_;refine(aw X.2 u3).mono ?_;rintro e u4 ⟨rfl,du4⟩;refine⟨_,rfl,du4,?_⟩
    try simp only[Act.put,zz1,zz2,zz3]
    have Du4:=Du3.trans (du4.mono Du3.size);have bgu4:=bgu3.belowAll du4;have bfu4:=bfu3.belowAll du4;refine ax ?_;have BD:Below W.drew.heap.size W.drew u4:=⟨Du4.os,Du4.tape,Du4.output,Du4.size,Du4.block⟩;refine bE ?_;refine am bfu4 rfl rfl rfl (aB _) (sizeOf171 _) (fun w8 k8 q8 s8=> ?_);have BD8:=BD.trans (ac q8 Gf BD.size);refine ak ⟨hCe _ BD8,?_⟩;refine bE ?_;refine am (bgu4.grown q8 (by intro e;cases e;exact(ne.symm).symm rfl)) rfl rfl rfl (aB _) (sizeOf171 _) (fun w9 k9 q9 s9=> ?_);have BD9:=BD8.trans (ac q9 Gg BD8.size);refine ak ⟨hCe _ BD9,?_⟩;refine cQ (hK' _ _ ?_);go_wp2
    go_meet
    exact⟨pf,pg,rfl,rfl,Gf,Gg,ne.symm,k8.grown q9 (by intro e;cases e;exact ne.symm rfl),k9,(Du4.trans (ac q8 Gf Du4.size)).trans (ac q9 Gg (Nat.le_trans Du4.size q8.size))⟩
 case rest=>
  obtain⟨pf,pg,rfl,rfl,Gf,Gg,ne,bf,bg,D⟩:=hcut;have K1:=hid (K0.out.belowAll D);have Z1:=Z0.out.belowAll D;have lz:=Z0.out.lt;have B1:=hid (B0.out.trans (D.mono B0.out.size));have HG:=hid bg;clear D K0 Z0 B0 X0;have e1:splc (aa 8 16) 0 (((le64 X.1).take 8).take (min 8 16))=le64 X.1++aa 8 8:=rfl;have e2:splc (le64 X.1++aa 8 8) 8 (((le64 X.2).take 8).take (min 8 8))=le64 X.1++le64 X.2:=rfl;go_upto_region 3 with fail;refine ao [0,0,2] (by kernel_rfl) (by kernel_rfl) (fun ops' K2 hK2=> ?_)
  repeat (first|((with_reducible refine zq0 ?_);refine zq0a ?_)|((with_reducible refine zq1 ?_);refine zq1a ?_))
  have rf:=bf.drew.rd8 8 (Nat.le_refl _) (by unfold maxLen;simp);refine cH (dLen:=16) (dCap:=16) (off:=0) Z1.drew rf rfl rfl underlying22 eo (by simp) (fun w3 v3 k3 g3 s3=> ?_);refine ak (hK2 _ _ ?_);rw[e1]at k3;have K3:=hid (K1.out.drew.grown g3 (by simp));have b3:=HG.out.drew.grown g3 (by intro e;cases e;omega);have B3:=hid (B1.out.drew.trans (ac g3 (by omega) B1.out.drew.size));clear hK2 g3 s3 rf Z1 K1 B1 HG;go_upto_region 4 with fail;refine ao [0,0,2] (by kernel_rfl) (by kernel_rfl) (fun ops' K2 hK2=> ?_)
  repeat (first|((with_reducible refine zq0 ?_);refine zq0a ?_)|((with_reducible refine zq1 ?_);refine zq1a ?_))
  have rf:=b3.drew.rd8 8 (Nat.le_refl _) (by unfold maxLen;simp);refine cH (dLen:=8) (dCap:=8) (off:=8) k3.drew rf rfl rfl underlying22 eo (by simp) (fun w4 v4 k4 g4 s4=> ?_);refine ak (hK2 _ _ ?_);rw[e2]at k4;have K4:=K3.out.drew.grown g4 (by simp);have r1:=k4.row;have r2:=K4.row;have r3:=K4.whole;have B4:=hid (B3.out.drew.trans (ac g4 (by omega) B3.out.drew.size));obtain⟨E,hE⟩: ∃E,E=le64 X.1++le64 X.2:=⟨_,rfl⟩;have hEl:E.length=16:=by rw[hE];rfl
  rw[←hE]at r1;have HE:=hid hE;clear hK2 g4 s4 rf b3 K4 hE e1 e2;go_wp2;refine ag (A8 E) rfl rfl rfl (isAgg154 _) (sizeOf154 _) (by rw[au];exact hEl) (ah _ r3) ⟨by rw[HE.out],below_setRow B4.out (by omega) _⟩
end Go.Proofs.YtlpkfdkhlffmlaaGreatDoor
