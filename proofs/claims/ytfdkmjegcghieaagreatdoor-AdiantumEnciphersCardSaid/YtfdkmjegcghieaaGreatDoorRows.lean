/-
  NARROWER THAN 'FOR EVERY INPUT', by the rows' own cells (each row's printed sentence says how): HctrEnciphers: laid · AdiantumEnciphers: laid.
  DERIVED. THE GIVEN ROWS OF THIS SEAT. 2 by the template 'for every input the law returns true; each argument reads behind the call as it read before'; 0 by the template 'total and deterministic' (their statements: YtfdkmjegcghieaaGreatDoorTotals.lean).
  GIVEN WITH THE SEED: the statements are not yours to turn. If you find one false, say at which input.
  Laid BY PROGRAM, IN A SANDBOX (cutbox-rows.mjs): the forced cells as the released guide's own fill.sh prints them over the translation 9e96b56bc0d0eeef… (all of the seat's roots in one cut). By AI agents, Wed Nov 11 2026. No macro, syntax, notation, axiom, sorry.
-/
import Derived.Test.YtfdkmjegcghieaaGreatDoorChecked
import GoSem.Claim
import GoSem.ClaimJoined
import GoSem.ClaimMapViews
import Derived.JoinedTies
import Derived.KernelRfl
namespace Go.Proofs.YtfdkmjegcghieaaGreatDoor
/- THE CELL 'sum', in the pinned program and in every row, IS THE sha256 OF THE DUMP (.gsa) THAT YtfdkmjegcghieaaGreatDoorProg.lean LOADS. Nothing in Lean hashes anything: it is a label: what it is worth is what the hold of that sum in a sandbox is worth. -/
noncomputable def Tryz.pinned : Pinned := { name := "ytfdkmjegcghieaagreatdoor", sum := "9e96b56bc0d0eeef75864ed999c979d10460ed9e79bb353699948e79989430a5", checked := Tryz.checked }
namespace Rows
def none {H : Type} : Left H := { results := [], args := [] }

/- WHAT THE LISTED PACKAGE-LEVEL VARIABLES READ AS WHEN THE CALL BEGINS. Each datum BY PROGRAM (the guide's laid-datum.mjs) off the statement by which the dump's own 'gosem.cut.vars' lays the variable. In a bare row this is a premise. The card (YtfdkmjegcghieaaGreatDoorCards.lean) ties it to the program's text. -/
def laid_wringer_turn_mixes {H : Type} : DataW H := .agg [.lit (.int .u8 2), .lit (.int .u8 3), .lit (.int .u8 1), .lit (.int .u8 1)]
def laid_wringer_turn_unmixes {H : Type} : DataW H := .agg [.lit (.int .u8 14), .lit (.int .u8 11), .lit (.int .u8 13), .lit (.int .u8 9)]

/-- 'wringerlaw18.HctrEnciphers': WHATEVER THE INPUT: true; the input reads as it did. -/
def hctrEnciphersSpec : ChangeSpec := { name := "hctrEnciphers", fn := fun _ => fun
  | [d] => { results := [.lit (.bool true)], args := [d] }
  | _ => none }
def hctrEnciphersRow : OpenClaim := { program := "ytfdkmjegcghieaagreatdoor", sum := "9e96b56bc0d0eeef75864ed999c979d10460ed9e79bb353699948e79989430a5", func := "wringer/wringerlaw18.HctrEnciphers", spec := "hctrEnciphers", unfollowed := true, recurses := true, named := ["wringer/turn.mixes", "wringer/turn.unmixes"], apart := false, laid := [("wringer/turn.mixes", laid_wringer_turn_mixes), ("wringer/turn.unmixes", laid_wringer_turn_unmixes)] }
def HctrEnciphersSaid : Prop := hctrEnciphersRow.holds Tryz.pinned (OpenSpec.ofChange hctrEnciphersSpec)

/-- ITS FALSE NEIGHBOUR: 'it returns false'. Refute it at one input. -/
def hctrEnciphersWrong : ChangeSpec := { name := "hctrEnciphers", fn := fun _ => fun
  | [d] => { results := [.lit (.bool false)], args := [d] }
  | _ => none }
def HctrEnciphersWrongFalsely : Prop := hctrEnciphersRow.holds Tryz.pinned (OpenSpec.ofChange hctrEnciphersWrong)

/-- 'wringerlaw17.AdiantumEnciphers': WHATEVER THE INPUT: true; the input reads as it did. -/
def adiantumEnciphersSpec : ChangeSpec := { name := "adiantumEnciphers", fn := fun _ => fun
  | [d] => { results := [.lit (.bool true)], args := [d] }
  | _ => none }
def adiantumEnciphersRow : OpenClaim := { program := "ytfdkmjegcghieaagreatdoor", sum := "9e96b56bc0d0eeef75864ed999c979d10460ed9e79bb353699948e79989430a5", func := "wringer/wringerlaw17.AdiantumEnciphers", spec := "adiantumEnciphers", inPlace := ["math/bits.Add64", "math/bits.Sub64"], unfollowed := true, recurses := true, named := ["wringer/turn.mixes", "wringer/turn.unmixes"], apart := false, laid := [("wringer/turn.mixes", laid_wringer_turn_mixes), ("wringer/turn.unmixes", laid_wringer_turn_unmixes)] }
def AdiantumEnciphersSaid : Prop := adiantumEnciphersRow.holds Tryz.pinned (OpenSpec.ofChange adiantumEnciphersSpec)

/-- ITS FALSE NEIGHBOUR: 'it returns false'. Refute it at one input. -/
def adiantumEnciphersWrong : ChangeSpec := { name := "adiantumEnciphers", fn := fun _ => fun
  | [d] => { results := [.lit (.bool false)], args := [d] }
  | _ => none }
def AdiantumEnciphersWrongFalsely : Prop := adiantumEnciphersRow.holds Tryz.pinned (OpenSpec.ofChange adiantumEnciphersWrong)

/- THE SECOND FORM. 'bulk': how many values and letters a reading holds, each counted each time it is reached (what is shared counts as often as it is met; a slice's spare places count too). A statement '..UptoSaid' is the law's where the arguments, and the package variables that the reading takes, are together of bulk at most 1048576: NARROWER than '..Said'. Prove '..Said' where nothing that the law and all that it calls make is longer than what came in: it says more and counts as full. Else prove '..UptoSaid'. A law counts once. -/
mutual
def uptoBulk {H : Type} : DataW H → Nat
  | .lit (.string bytes) => bytes.length + 1
  | .lit _ => 1
  | .nil => 1
  | .ptr d => uptoBulk d + 1
  | .slice elems spare => uptoBulkAll elems + uptoBulkAll spare + 1
  | .agg parts => uptoBulkAll parts + 1
  | .iface _ d => uptoBulk d + 1
  | .map entries => uptoBulkEntries entries + 1
  | .held _ => 1
def uptoBulkAll {H : Type} : List (DataW H) → Nat
  | [] => 0
  | d :: r => uptoBulk d + uptoBulkAll r
def uptoBulkEntries {H : Type} : List (Lit × DataW H) → Nat
  | [] => 0
  | x :: r => uptoBulkEntry x + uptoBulkEntries r
def uptoBulkEntry {H : Type} : Lit × DataW H → Nat
  | (.string bytes, d) => bytes.length + uptoBulk d + 1
  | (_, d) => uptoBulk d + 1
 end
def uptoSmall : (H : Type) → List (DataW H) → Bool := fun _ ds => decide (uptoBulkAll ds ≤ 1048576)
def OpenSpec.upto (s : _root_.Go.ChangeSpec) : _root_.Go.OpenSpec := { _root_.Go.OpenSpec.ofChange s with cond := some uptoSmall }

/-- 'wringerlaw18.HctrEnciphers', WHERE WHAT IT READS IS OF BULK AT MOST 1048576: true; the input reads as it did. -/
def hctrEnciphersUptoRow : OpenClaim := { program := "ytfdkmjegcghieaagreatdoor", sum := "9e96b56bc0d0eeef75864ed999c979d10460ed9e79bb353699948e79989430a5", func := "wringer/wringerlaw18.HctrEnciphers", spec := "hctrEnciphers", unfollowed := true, recurses := true, named := ["wringer/turn.mixes", "wringer/turn.unmixes"], apart := false, laid := [("wringer/turn.mixes", laid_wringer_turn_mixes), ("wringer/turn.unmixes", laid_wringer_turn_unmixes)], narrowed := true }
def HctrEnciphersUptoSaid : Prop := hctrEnciphersUptoRow.holds Tryz.pinned (OpenSpec.upto hctrEnciphersSpec)

/-- 'wringerlaw17.AdiantumEnciphers', WHERE WHAT IT READS IS OF BULK AT MOST 1048576: true; the input reads as it did. -/
def adiantumEnciphersUptoRow : OpenClaim := { program := "ytfdkmjegcghieaagreatdoor", sum := "9e96b56bc0d0eeef75864ed999c979d10460ed9e79bb353699948e79989430a5", func := "wringer/wringerlaw17.AdiantumEnciphers", spec := "adiantumEnciphers", inPlace := ["math/bits.Add64", "math/bits.Sub64"], unfollowed := true, recurses := true, named := ["wringer/turn.mixes", "wringer/turn.unmixes"], apart := false, laid := [("wringer/turn.mixes", laid_wringer_turn_mixes), ("wringer/turn.unmixes", laid_wringer_turn_unmixes)], narrowed := true }
def AdiantumEnciphersUptoSaid : Prop := adiantumEnciphersUptoRow.holds Tryz.pinned (OpenSpec.upto adiantumEnciphersSpec)

end Rows
end Go.Proofs.YtfdkmjegcghieaaGreatDoor
