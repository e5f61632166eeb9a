/-
  AdiantumEnciphers holds: for every input the law returns true, panics not and changes no argument ('Rows.AdiantumEnciphersSaid'), outright.
-/
import Derived.Test.YtfdkmjegcghieaaGreatDoorRows
import Derived.Test.YtfdkmjegcghieaaGreatDoorTie
import Derived.Test.YtfdkmjegcghieaaGreatDoorCards
import Derived.SevenTiedAt
import Derived.Test.YtfdkmjegcghieaaGreatDoorMTied
import Derived.Test.YtfdkmjegcghieaaGreatDoorMGk
import Derived.Test.YtfdkmjegcghieaaGreatDoorMWAdiantumEnciphers
import Derived.ProofKit
import Derived.OpenShut
import Derived.ShutString
import Derived.ChangeOld
import Derived.Below
namespace Go.Proofs.YtfdkmjegcghieaaGreatDoor
set_option linter.unusedSimpArgs false
set_option maxRecDepth 100000
set_option maxHeartbeats 1600000
open Go.ChangeShapes Go.WideShapes Go.ChangeAt Go.RowKit
open Go.ChangeMaps (open_string shut_string)
set_option linter.unusedVariables false
theorem AdiantumEnciphers_lifted (os : Os) (started : os.Started) (H : Type) (enc : TypeId × Value → H) :
  ReturnsInHanded {} Tryz.checked os 4 .any (fun w args => (Rows.adiantumEnciphersSpec.pre enc Tryz.prog Tryz.f4 [] false w args ∧ laidMetH Tryz.prog laidL w) ∧ sizedMet enc Tryz.prog Tryz.f4 (OpenSpec.ofChange Rows.adiantumEnciphersSpec) false w args) (Rows.adiantumEnciphersSpec.post enc Tryz.prog Tryz.f4 false true false false) := by
 refine returnsInHanded_of_change_and (C := Tryz.checked) (X := fun w _ => laidMetH Tryz.prog laidL w) (fun _ _ _ hh h => h.of_heap hh) own started (by kernel_rfl) Tryz.func4
  (ChangeSpec.witness_shaped (enc := enc) (C := Tryz.checked) (os := os) (X := fun w _ => laidMetH Tryz.prog laidL w) false (World.doorLaid Tryz.prog 400 os) #[.agg (Array.replicate 32 (.int .u8 0) ++ #[.slice none 0 0, .slice none 0 0])] 8 rfl (World.shaped_of_RefB (by kernel_rfl) (by kernel_rfl)) (by kernel_rfl) (by kernel_rfl) (by kernel_rfl) (door_met os _)) ?_
 intro W base args ds gs before hval0 hW _ _ hL _
 have hval : ∀ (j : Nat) t v, Tryz.f4.params[j]? = some t → args[j]? = some v → Value.okWide Tryz.prog W .any base t v := hval0
 have hW' := hW
 obtain ⟨p, q, hA0, hV, rfl, hfz, hnd⟩ := hW
 have hA : DataW.TrodAll enc Tryz.prog W 0 (fun _ => true) true Tryz.f4.params.toList args.toList ds p := hA0
 rw [Tryz.params4] at hA hval
 obtain ⟨v0, vs0, d0, ds0, p0, qq0, hargs, rfl, rfl, h0, r0⟩ := trodAll_cons hA
 obtain ⟨rfl, rfl, rfl⟩ := trodAll_nil r0
 obtain rfl : args = #[v0] := by cases args; simp_all
 obtain ⟨rfl, rfl⟩ := trodVars_none hV
 have lt0 : ∀ x ∈ p0, x.block < W.heap.size := by obtain ⟨m, hm⟩ := h0; exact DataW.trod_lt m _ _ _ hm
 obtain ⟨T0, k0, a0, n0, c0, t0, b0, m0, c0_, x0, w0, u0, z0, hv0⟩ := open_atext (hval 0 46 v0 rfl rfl) h0
 subst hv0
 have hTurn := turning_of_laid hL
 clear hA0 hval0
 refine (AdiantumEnciphers_walk T0 k0 a0 n0 c0 t0 b0 m0 c0_ x0 W w0 u0 z0 hTurn).mono fun e W' ⟨he, bel⟩ => ?_
 subst he
 exact ⟨_, rfl, _, _, _, [], _, [], hW', trodAll_mk1 (shut_bool Tryz.underlying4 _), (trodAll_cons_mk (Below.trod laidOut (by kernel_rfl) (of_decide_eq_true (by kernel_rfl)) h0 bel lt0) trodAll_mk0), rfl, bel.frame _, fun h => by cases h⟩
theorem AdiantumEnciphers_over : Rows.adiantumEnciphersRow.holds Tryz.pinned (OpenSpec.ofChange Rows.adiantumEnciphersSpec) :=
 OpenClaim.holds_of_wide 4 Tryz.f4 rfl rfl rfl rfl rfl rfl rfl ⟨rfl, rfl, rfl, rfl, rfl⟩ rfl rfl rfl rfl rfl (by kernel_rfl) Tryz.func4 (by kernel_rfl)
  (of_decide_eq_true (by kernel_rfl)) (by unfold Func.isWrapper; first | (rw [if_pos (by decide +kernel)]; kernel_rfl) | (rw [if_neg (by decide +kernel)]; exact ⟨rfl, rfl⟩))
  (fun os started H enc _ => AdiantumEnciphers_lifted os started H enc)
theorem AdiantumEnciphers_proved : Rows.AdiantumEnciphersCardSaid :=
 Claim7.holds_tied_plain_at .later [] [.data, .data] true (true, "2b8dd93603230460387a38153704344dd5066727b9d76cd6c85fe25e9cd200ac") false
  AdiantumEnciphers_over (fun _ h => by cases h) (by kernel_rfl) (fun _ h => by cases h) adiantumEnciphers_row_tie rfl ⟨rfl, rfl⟩ (by kernel_rfl) rfl
  (fun f fn hf hfn => by
   obtain rfl : f = 4 := Option.some.inj ((show Tryz.prog.funcNamed "wringer/wringerlaw17.AdiantumEnciphers" = some 4 by kernel_rfl).symm.trans hf) |>.symm
   obtain rfl : fn = Tryz.f4 := (Option.some.inj (Tryz.func4.symm.trans hfn)).symm
   exact ⟨by kernel_rfl, fun j t ht => by
    rw [Tryz.params4] at ht
    have hm : t ∈ [46] := by simpa using Array.mem_of_getElem? ht
    have hall : ([46].all fun u => !Tryz.prog.wantsStandIn u) = true := by kernel_rfl
    exact (show Tryz.prog.wantsStandIn t = false by simpa using List.all_eq_true.1 hall t hm)⟩)
  (by kernel_rfl)
#print axioms AdiantumEnciphers_proved
end Go.Proofs.YtfdkmjegcghieaaGreatDoor
