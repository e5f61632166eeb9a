/-
  ShelfNone holds:for every input the law returns true,panics not and changes no argument ('Rows.ShelfNoneSaid'),outright.
-/
import Derived.Test.YtlpkfdkhlffmlaaGreatDoorRows
import Derived.Test.YtlpkfdkhlffmlaaGreatDoorTie
import Derived.Test.YtlpkfdkhlffmlaaGreatDoorCards
import Derived.SevenTiedAt
import Derived.Test.YtlpkfdkhlffmlaaGreatDoorMKl
import Derived.Test.YtlpkfdkhlffmlaaGreatDoorMRi
import Derived.Test.YtlpkfdkhlffmlaaGreatDoorMGh
import Derived.Test.YtlpkfdkhlffmlaaGreatDoorMWShelfNone
import Derived.ProofKit
import Derived.OpenShut
import Derived.ShutString
import Derived.ChangeOld
import Derived.Below
namespace Go.Proofs.YtlpkfdkhlffmlaaGreatDoor
open Go.Proofs.Tryz
set_option linter.unusedSimpArgs false
set_option linter.unusedVariables false
set_option maxRecDepth 100000
set_option maxHeartbeats 1600000
open Go.ChangeShapes Go.WideShapes Go.ChangeAt Go.RowKit
open Go.ChangeMaps (open_string shut_string)
set_option linter.unusedVariables false
theorem jF(os:Os)(started:os.Started)(H:Type)(enc:TypeId×Value→H):
  ReturnsInHanded {} Tryz.checked os 3 .any (fun w args=>(Rows.shelfNoneSpec.pre enc prog Tryz.f3 [] false w args∧laidMetH prog mb w)∧sizedMet enc prog Tryz.f3 (OpenSpec.ofChange Rows.shelfNoneSpec) false w args) (Rows.shelfNoneSpec.post enc prog Tryz.f3 false true false false):=by
 refine returnsInHanded_of_change_and (C:=Tryz.checked) (X:=fun w _=>laidMetH prog mb w) (fun _ _ _ hh h=>h.of_heap hh) own started (by kernel_rfl) func3
  (ChangeSpec.witness_shaped (enc:=enc) (C:=Tryz.checked) (os:=os) (X:=fun w _=>laidMetH prog mb w) false (World.doorLaid prog 400 os) #[.int .i64 0,.agg #[.int .i64 0,.int .i64 0,.int .i64 0,.int .i64 0,.string ByteArray.empty,.string ByteArray.empty,.slice none 0 0,.int .u8 0]] 8 rfl (World.shaped_of_RefB (by kernel_rfl) (by kernel_rfl)) (by kernel_rfl) (by kernel_rfl) (by kernel_rfl) (uE os _)) ?_
 intro W base args ds gs before hval0 hW _ _ hL _;have hval: ∀(j:Nat) t v,Tryz.f3.params[j]? =some t→args[j]? =some v→Value.okWide prog W .any base t v:=hval0;have hW':=hW;obtain⟨p,q,hA0,hV,rfl,hfz,hnd⟩:=hW;have hA:DataW.TrodAll enc prog W 0 (fun _=>true) true Tryz.f3.params.toList args.toList ds p:=hA0;rw[Tryz.params3]at hA hval;obtain⟨v0,vs0,d0,ds0,p0,qq0,hargs,rfl,rfl,h0,r0⟩:=trodAll_cons hA;obtain⟨v1,vs1,d1,ds1,p1,qq1,rfl,rfl,rfl,h1,r1⟩:=trodAll_cons r0;obtain⟨rfl,rfl,rfl⟩:=trodAll_nil r1;obtain rfl:args= #[v0,v1]:=by cases args;simp_all
 obtain⟨rfl,rfl⟩:=trodVars_none hV;have lt0: ∀x∈p0,x.block<W.heap.size:=by obtain⟨m,hm⟩:=h0;exact DataW.trod_lt m _ _ _ hm
 obtain⟨l0,hv0,_,_,w0⟩:=open_int underlying3 (hval 0 3 v0 rfl rfl) h0;subst hv0;have lt1: ∀x∈p1,x.block<W.heap.size:=by obtain⟨m,hm⟩:=h1;exact DataW.trod_lt m _ _ _ hm
 obtain⟨d1_,f1_,t1_,a1_,n1_,m1_,b1_,l1_,c1_,y1_,k1_,w1,u1,z1,hv1⟩:=wY (hval 1 24 v1 rfl rfl) h1;subst hv1;have hTurn:=jE hL;clear hA0 hval0;refine(mq l0 d1_ f1_ t1_ a1_ n1_ m1_ b1_ l1_ c1_ y1_ k1_ W hTurn w1 u1 z1).mono fun e W' ⟨he,bel⟩=> ?_;subst he;exact⟨_,rfl,_,_,_,[],_,[],hW',trodAll_mk1 (shut_bool underlying4 _),(trodAll_cons_mk (Below.trod sP (by kernel_rfl) (of_decide_eq_true (by kernel_rfl)) h0 bel lt0) (trodAll_cons_mk (Below.trod sP (by kernel_rfl) (of_decide_eq_true (by kernel_rfl)) h1 bel lt1) trodAll_mk0)),rfl,bel.frame _,fun h=>by cases h⟩
theorem md:Rows.shelfNoneRow.holds Tryz.pinned (OpenSpec.ofChange Rows.shelfNoneSpec):=
 OpenClaim.holds_of_wide 3 Tryz.f3 rfl rfl rfl rfl rfl rfl rfl ⟨rfl,rfl,rfl,rfl,rfl⟩ rfl rfl rfl rfl rfl (by kernel_rfl) func3 (by kernel_rfl)
  (of_decide_eq_true (by kernel_rfl)) (by unfold Func.isWrapper;first|(rw[if_pos (by decide+kernel)];kernel_rfl)|(rw[if_neg (by decide+kernel)];exact⟨rfl,rfl⟩))
  (fun os started H enc _=>jF os started H enc)
theorem ShelfNone_proved:Rows.ShelfNoneCardSaid:=
 Claim7.holds_tied_plain_at .later [] [.data,.data,.data,.data] true (true, "09a7d6a3aed90784084d2a4805d1ccf469fc69f514e3e7ed0a7301998fd696f4") true
  md (fun _ h=>by cases h) (by kernel_rfl) (fun _ h=>by cases h) shelfNone_row_tie rfl ⟨rfl,rfl⟩ (by kernel_rfl) rfl
  (fun f fn hf hfn=>by
   obtain rfl:f=3:=Option.some.inj ((show prog.funcNamed "wringer/wringerlaw28.ShelfNone" =some 3 by kernel_rfl).symm.trans hf)|>.symm;obtain rfl:fn=Tryz.f3:=(Option.some.inj (func3.symm.trans hfn)).symm;exact⟨by kernel_rfl,fun j t ht=>by
    rw[Tryz.params3]at ht;have hm:t∈ [3,24]:=by simpa using Array.mem_of_getElem? ht
    have hall:([3,24].all fun u=> !prog.wantsStandIn u)=true:=by kernel_rfl
    exact(show prog.wantsStandIn t=false by simpa using List.all_eq_true.1 hall t hm)⟩)
  (by kernel_rfl)
#print axioms ShelfNone_proved
end Go.Proofs.YtlpkfdkhlffmlaaGreatDoor
