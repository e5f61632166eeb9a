/-
  NameLengths holds:for every input the law returns true,panics not and changes no argument ('Rows.NameLengthsSaid'),outright.
-/
import Derived.Test.YtddkbkbpogcffaaGreatDoorRows
import Derived.Test.YtddkbkbpogcffaaGreatDoorTie
import Derived.Test.YtddkbkbpogcffaaGreatDoorCards
import Derived.SevenTiedAt
import Derived.Test.YtddkbkbpogcffaaGreatDoorMKl
import Derived.Test.YtddkbkbpogcffaaGreatDoorMKi
import Derived.Test.YtddkbkbpogcffaaGreatDoorMGh
import Derived.Test.YtddkbkbpogcffaaGreatDoorMWNameLengths
import Derived.ProofKit
import Derived.OpenShut
import Derived.ShutString
import Derived.ChangeOld
import Derived.Below
namespace Go.Proofs.YtddkbkbpogcffaaGreatDoor
open Go.Proofs.Tryz
set_option linter.unusedSimpArgs false
set_option linter.unusedVariables false
set_option maxRecDepth 100000
set_option maxHeartbeats 1600000
open Go.ChangeShapes Go.WideShapes Go.ChangeAt Go.RowKit
open Go.ChangeMaps (open_string shut_string)
set_option linter.unusedVariables false
theorem Oo(os:Os)(started:os.Started)(H:Type)(enc:TypeId×Value→H):
  ReturnsInHanded {} Tryz.checked os 5 .any (fun w args=>(Rows.nameLengthsSpec.pre enc prog Tryz.f5 [] false w args∧laidMetH prog oJ w)∧sizedMet enc prog Tryz.f5 (OpenSpec.ofChange Rows.nameLengthsSpec) false w args) (Rows.nameLengthsSpec.post enc prog Tryz.f5 false true false false):=by
 refine returnsInHanded_of_change_and (C:=Tryz.checked) (X:=fun w _=>laidMetH prog oJ w) (fun _ _ _ hh h=>h.of_heap hh) own started (by kernel_rfl) func5
  (ChangeSpec.witness_shaped (enc:=enc) (C:=Tryz.checked) (os:=os) (X:=fun w _=>laidMetH prog oJ w) false (World.doorLaid prog 400 os) #[.agg #[.int .i64 0,.slice none 0 0,.int .i64 0,.int .u64 0,.string ByteArray.empty],.string ByteArray.empty] 8 rfl (World.shaped_of_RefB (by kernel_rfl) (by kernel_rfl)) (by kernel_rfl) (by kernel_rfl) (by kernel_rfl) (DB os _)) ?_
 intro W base args ds gs before hval0 hW _ _ hL _;have hval: ∀(j:Nat) t v,Tryz.f5.params[j]? =some t→args[j]? =some v→Value.okWide prog W .any base t v:=hval0;have hW':=hW;obtain⟨p,q,hA0,hV,rfl,hfz,hnd⟩:=hW;have hA:DataW.TrodAll enc prog W 0 (fun _=>true) true Tryz.f5.params.toList args.toList ds p:=hA0;rw[Tryz.params5]at hA hval;obtain⟨v0,vs0,d0,ds0,p0,qq0,hargs,rfl,rfl,h0,r0⟩:=trodAll_cons hA;obtain⟨v1,vs1,d1,ds1,p1,qq1,rfl,rfl,rfl,h1,r1⟩:=trodAll_cons r0;obtain⟨rfl,rfl,rfl⟩:=trodAll_nil r1;obtain rfl:args= #[v0,v1]:=by cases args;simp_all
 obtain⟨rfl,rfl⟩:=trodVars_none hV;have lt0: ∀x∈p0,x.block<W.heap.size:=by obtain⟨m,hm⟩:=h0;exact DataW.trod_lt m _ _ _ hm
 obtain⟨g0,a0,n0,c0,k0,p0_,f0,s0,w0,u0,hv0⟩:=Ar (hval 0 25 v0 rfl rfl) h0;subst hv0;have lt1: ∀x∈p1,x.block<W.heap.size:=by obtain⟨m,hm⟩:=h1;exact DataW.trod_lt m _ _ _ hm
 obtain⟨l1,hv1,w1⟩:=Ok underlying9 (hval 1 9 v1 rfl rfl) h1;subst hv1;have hTurn:=oK hL;have hBla:=oL hL;clear hA0 hval0;refine(Ot g0 a0 n0 c0 p0_ f0 s0 k0 l1 W hTurn hBla w0 w1).mono fun e W' ⟨he,bel⟩=> ?_;subst he;exact⟨_,rfl,_,_,_,[],_,[],hW',trodAll_mk1 (shut_bool underlying4 _),(trodAll_cons_mk (Below.trod Hc (by kernel_rfl) (of_decide_eq_true (by kernel_rfl)) h0 bel lt0) (trodAll_cons_mk (Below.trod Hc (by kernel_rfl) (of_decide_eq_true (by kernel_rfl)) h1 bel lt1) trodAll_mk0)),rfl,bel.frame _,fun h=>by cases h⟩
theorem Oq:Rows.nameLengthsRow.holds Tryz.pinned (OpenSpec.ofChange Rows.nameLengthsSpec):=
 OpenClaim.holds_of_wide 5 Tryz.f5 rfl rfl rfl rfl rfl rfl rfl ⟨rfl,rfl,rfl,rfl,rfl⟩ rfl rfl rfl rfl rfl (by kernel_rfl) func5 (by kernel_rfl)
  (of_decide_eq_true (by kernel_rfl)) (by unfold Func.isWrapper;first|(rw[if_pos (by decide+kernel)];kernel_rfl)|(rw[if_neg (by decide+kernel)];exact⟨rfl,rfl⟩))
  (fun os started H enc _=>Oo os started H enc)
theorem NameLengths_proved:Rows.NameLengthsCardSaid:=
 Claim7.holds_tied_plain_at .later [] [.data,.data,.data,.data] true (true, "3cd8f37b4c65eda0dc3461789d8584269848574cb663eb6e7ee7d38c8c5f376a") false
  Oq (fun _ h=>by cases h) (by kernel_rfl) (fun _ h=>by cases h) nameLengths_row_tie rfl ⟨rfl,rfl⟩ (by kernel_rfl) rfl
  (fun f fn hf hfn=>by
   obtain rfl:f=5:=Option.some.inj ((show prog.funcNamed "wringer/wringerlaw27.NameLengths" =some 5 by kernel_rfl).symm.trans hf)|>.symm;obtain rfl:fn=Tryz.f5:=(Option.some.inj (func5.symm.trans hfn)).symm;exact⟨by kernel_rfl,fun j t ht=>by
    rw[Tryz.params5]at ht;have hm:t∈ [25,9]:=by simpa using Array.mem_of_getElem? ht
    have hall:([25,9].all fun u=> !prog.wantsStandIn u)=true:=by kernel_rfl
    exact(show prog.wantsStandIn t=false by simpa using List.all_eq_true.1 hall t hm)⟩)
  (by kernel_rfl)
#print axioms NameLengths_proved
end Go.Proofs.YtddkbkbpogcffaaGreatDoor
