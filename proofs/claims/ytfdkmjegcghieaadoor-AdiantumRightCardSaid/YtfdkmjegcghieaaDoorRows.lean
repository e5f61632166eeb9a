/-
  NARROWER THAN 'FOR EVERY INPUT', by the rows' own cells (each row's printed sentence says how): HctrApart: laid · HctrSteps: laid · HctrLeft: laid · HctrKeys: laid · HctrBack: laid · AdiantumApart: laid · AdiantumSteps: laid · AdiantumRight: laid · AdiantumKeys: laid · AdiantumBack: laid.
  DERIVED. THE GIVEN ROWS OF THIS SEAT. 10 by the template 'for every input the law returns true; each argument reads behind the call as it read before'; 0 by the template 'total and deterministic' (their statements: YtfdkmjegcghieaaDoorTotals.lean).
  GIVEN WITH THE SEED: the statements are not yours to turn. If you find one false, say at which input.
  Laid BY PROGRAM, IN A SANDBOX (cutbox-rows.mjs): the forced cells as the released guide's own fill.sh prints them over the translation f0552db874898ed5… (all of the seat's roots in one cut). By AI agents, Wed Nov 11 2026. No macro, syntax, notation, axiom, sorry.
-/
import Derived.Test.YtfdkmjegcghieaaDoorChecked
import GoSem.Claim
import GoSem.ClaimJoined
import GoSem.ClaimMapViews
import Derived.JoinedTies
import Derived.KernelRfl
namespace Go.Proofs.YtfdkmjegcghieaaDoor
/- THE CELL 'sum', in the pinned program and in every row, IS THE sha256 OF THE DUMP (.gsa) THAT YtfdkmjegcghieaaDoorProg.lean LOADS. Nothing in Lean hashes anything: it is a label: what it is worth is what the hold of that sum in a sandbox is worth. -/
noncomputable def Tryd.pinned : Pinned := { name := "ytfdkmjegcghieaadoor", sum := "f0552db874898ed5d03c517d3c824078191a996ac6820c426f104df5b7b0cb15", checked := Tryd.checked }
namespace Rows
def none {H : Type} : Left H := { results := [], args := [] }

/- WHAT THE LISTED PACKAGE-LEVEL VARIABLES READ AS WHEN THE CALL BEGINS. Each datum BY PROGRAM (the guide's laid-datum.mjs) off the statement by which the dump's own 'gosem.cut.vars' lays the variable. In a bare row this is a premise. The card (YtfdkmjegcghieaaDoorCards.lean) ties it to the program's text. -/
def laid_wringer_turn_mixes {H : Type} : DataW H := .agg [.lit (.int .u8 2), .lit (.int .u8 3), .lit (.int .u8 1), .lit (.int .u8 1)]
def laid_wringer_turn_unmixes {H : Type} : DataW H := .agg [.lit (.int .u8 14), .lit (.int .u8 11), .lit (.int .u8 13), .lit (.int .u8 9)]

/-- 'wringerlaw18.HctrApart': WHATEVER THE INPUT: true; the input reads as it did. -/
def hctrApartSpec : ChangeSpec := { name := "hctrApart", fn := fun _ => fun
  | [d1, d2] => { results := [.lit (.bool true)], args := [d1, d2] }
  | _ => none }
def hctrApartRow : OpenClaim := { program := "ytfdkmjegcghieaadoor", sum := "f0552db874898ed5d03c517d3c824078191a996ac6820c426f104df5b7b0cb15", func := "wringer/wringerlaw18.HctrApart", spec := "hctrApart", unfollowed := true, recurses := true, named := ["wringer/turn.mixes", "wringer/turn.unmixes"], apart := false, laid := [("wringer/turn.mixes", laid_wringer_turn_mixes), ("wringer/turn.unmixes", laid_wringer_turn_unmixes)] }
def HctrApartSaid : Prop := hctrApartRow.holds Tryd.pinned (OpenSpec.ofChange hctrApartSpec)

/-- ITS FALSE NEIGHBOUR: 'it returns false'. Refute it at one input. -/
def hctrApartWrong : ChangeSpec := { name := "hctrApart", fn := fun _ => fun
  | [d1, d2] => { results := [.lit (.bool false)], args := [d1, d2] }
  | _ => none }
def HctrApartWrongFalsely : Prop := hctrApartRow.holds Tryd.pinned (OpenSpec.ofChange hctrApartWrong)

/-- 'wringerlaw18.HctrSteps': WHATEVER THE INPUT: true; the input reads as it did. -/
def hctrStepsSpec : ChangeSpec := { name := "hctrSteps", fn := fun _ => fun
  | [d] => { results := [.lit (.bool true)], args := [d] }
  | _ => none }
def hctrStepsRow : OpenClaim := { program := "ytfdkmjegcghieaadoor", sum := "f0552db874898ed5d03c517d3c824078191a996ac6820c426f104df5b7b0cb15", func := "wringer/wringerlaw18.HctrSteps", spec := "hctrSteps", unfollowed := true, recurses := true, named := ["wringer/turn.mixes", "wringer/turn.unmixes"], apart := false, laid := [("wringer/turn.mixes", laid_wringer_turn_mixes), ("wringer/turn.unmixes", laid_wringer_turn_unmixes)] }
def HctrStepsSaid : Prop := hctrStepsRow.holds Tryd.pinned (OpenSpec.ofChange hctrStepsSpec)

/-- ITS FALSE NEIGHBOUR: 'it returns false'. Refute it at one input. -/
def hctrStepsWrong : ChangeSpec := { name := "hctrSteps", fn := fun _ => fun
  | [d] => { results := [.lit (.bool false)], args := [d] }
  | _ => none }
def HctrStepsWrongFalsely : Prop := hctrStepsRow.holds Tryd.pinned (OpenSpec.ofChange hctrStepsWrong)

/-- 'wringerlaw18.HctrLeft': WHATEVER THE INPUT: true; the input reads as it did. -/
def hctrLeftSpec : ChangeSpec := { name := "hctrLeft", fn := fun _ => fun
  | [d1, d2] => { results := [.lit (.bool true)], args := [d1, d2] }
  | _ => none }
def hctrLeftRow : OpenClaim := { program := "ytfdkmjegcghieaadoor", sum := "f0552db874898ed5d03c517d3c824078191a996ac6820c426f104df5b7b0cb15", func := "wringer/wringerlaw18.HctrLeft", spec := "hctrLeft", unfollowed := true, recurses := true, named := ["wringer/turn.mixes", "wringer/turn.unmixes"], apart := false, laid := [("wringer/turn.mixes", laid_wringer_turn_mixes), ("wringer/turn.unmixes", laid_wringer_turn_unmixes)] }
def HctrLeftSaid : Prop := hctrLeftRow.holds Tryd.pinned (OpenSpec.ofChange hctrLeftSpec)

/-- ITS FALSE NEIGHBOUR: 'it returns false'. Refute it at one input. -/
def hctrLeftWrong : ChangeSpec := { name := "hctrLeft", fn := fun _ => fun
  | [d1, d2] => { results := [.lit (.bool false)], args := [d1, d2] }
  | _ => none }
def HctrLeftWrongFalsely : Prop := hctrLeftRow.holds Tryd.pinned (OpenSpec.ofChange hctrLeftWrong)

/-- 'wringerlaw18.HctrKeys': WHATEVER THE INPUT: true; the input reads as it did. -/
def hctrKeysSpec : ChangeSpec := { name := "hctrKeys", fn := fun _ => fun
  | [d1, d2] => { results := [.lit (.bool true)], args := [d1, d2] }
  | _ => none }
def hctrKeysRow : OpenClaim := { program := "ytfdkmjegcghieaadoor", sum := "f0552db874898ed5d03c517d3c824078191a996ac6820c426f104df5b7b0cb15", func := "wringer/wringerlaw18.HctrKeys", spec := "hctrKeys", unfollowed := true, recurses := true, named := ["wringer/turn.mixes", "wringer/turn.unmixes"], apart := false, laid := [("wringer/turn.mixes", laid_wringer_turn_mixes), ("wringer/turn.unmixes", laid_wringer_turn_unmixes)] }
def HctrKeysSaid : Prop := hctrKeysRow.holds Tryd.pinned (OpenSpec.ofChange hctrKeysSpec)

/-- ITS FALSE NEIGHBOUR: 'it returns false'. Refute it at one input. -/
def hctrKeysWrong : ChangeSpec := { name := "hctrKeys", fn := fun _ => fun
  | [d1, d2] => { results := [.lit (.bool false)], args := [d1, d2] }
  | _ => none }
def HctrKeysWrongFalsely : Prop := hctrKeysRow.holds Tryd.pinned (OpenSpec.ofChange hctrKeysWrong)

/-- 'wringerlaw18.HctrBack': WHATEVER THE INPUT: true; the input reads as it did. -/
def hctrBackSpec : ChangeSpec := { name := "hctrBack", fn := fun _ => fun
  | [d] => { results := [.lit (.bool true)], args := [d] }
  | _ => none }
def hctrBackRow : OpenClaim := { program := "ytfdkmjegcghieaadoor", sum := "f0552db874898ed5d03c517d3c824078191a996ac6820c426f104df5b7b0cb15", func := "wringer/wringerlaw18.HctrBack", spec := "hctrBack", unfollowed := true, recurses := true, named := ["wringer/turn.mixes", "wringer/turn.unmixes"], apart := false, laid := [("wringer/turn.mixes", laid_wringer_turn_mixes), ("wringer/turn.unmixes", laid_wringer_turn_unmixes)] }
def HctrBackSaid : Prop := hctrBackRow.holds Tryd.pinned (OpenSpec.ofChange hctrBackSpec)

/-- ITS FALSE NEIGHBOUR: 'it returns false'. Refute it at one input. -/
def hctrBackWrong : ChangeSpec := { name := "hctrBack", fn := fun _ => fun
  | [d] => { results := [.lit (.bool false)], args := [d] }
  | _ => none }
def HctrBackWrongFalsely : Prop := hctrBackRow.holds Tryd.pinned (OpenSpec.ofChange hctrBackWrong)

/-- 'wringerlaw17.AdiantumApart': WHATEVER THE INPUT: true; the input reads as it did. -/
def adiantumApartSpec : ChangeSpec := { name := "adiantumApart", fn := fun _ => fun
  | [d1, d2] => { results := [.lit (.bool true)], args := [d1, d2] }
  | _ => none }
def adiantumApartRow : OpenClaim := { program := "ytfdkmjegcghieaadoor", sum := "f0552db874898ed5d03c517d3c824078191a996ac6820c426f104df5b7b0cb15", func := "wringer/wringerlaw17.AdiantumApart", spec := "adiantumApart", inPlace := ["math/bits.Add64", "math/bits.Sub64"], unfollowed := true, recurses := true, named := ["wringer/turn.mixes", "wringer/turn.unmixes"], apart := false, laid := [("wringer/turn.mixes", laid_wringer_turn_mixes), ("wringer/turn.unmixes", laid_wringer_turn_unmixes)] }
def AdiantumApartSaid : Prop := adiantumApartRow.holds Tryd.pinned (OpenSpec.ofChange adiantumApartSpec)

/-- ITS FALSE NEIGHBOUR: 'it returns false'. Refute it at one input. -/
def adiantumApartWrong : ChangeSpec := { name := "adiantumApart", fn := fun _ => fun
  | [d1, d2] => { results := [.lit (.bool false)], args := [d1, d2] }
  | _ => none }
def AdiantumApartWrongFalsely : Prop := adiantumApartRow.holds Tryd.pinned (OpenSpec.ofChange adiantumApartWrong)

/-- 'wringerlaw17.AdiantumSteps': WHATEVER THE INPUT: true; the input reads as it did. -/
def adiantumStepsSpec : ChangeSpec := { name := "adiantumSteps", fn := fun _ => fun
  | [d] => { results := [.lit (.bool true)], args := [d] }
  | _ => none }
def adiantumStepsRow : OpenClaim := { program := "ytfdkmjegcghieaadoor", sum := "f0552db874898ed5d03c517d3c824078191a996ac6820c426f104df5b7b0cb15", func := "wringer/wringerlaw17.AdiantumSteps", spec := "adiantumSteps", inPlace := ["math/bits.Add64", "math/bits.Sub64"], unfollowed := true, recurses := true, named := ["wringer/turn.mixes", "wringer/turn.unmixes"], apart := false, laid := [("wringer/turn.mixes", laid_wringer_turn_mixes), ("wringer/turn.unmixes", laid_wringer_turn_unmixes)] }
def AdiantumStepsSaid : Prop := adiantumStepsRow.holds Tryd.pinned (OpenSpec.ofChange adiantumStepsSpec)

/-- ITS FALSE NEIGHBOUR: 'it returns false'. Refute it at one input. -/
def adiantumStepsWrong : ChangeSpec := { name := "adiantumSteps", fn := fun _ => fun
  | [d] => { results := [.lit (.bool false)], args := [d] }
  | _ => none }
def AdiantumStepsWrongFalsely : Prop := adiantumStepsRow.holds Tryd.pinned (OpenSpec.ofChange adiantumStepsWrong)

/-- 'wringerlaw17.AdiantumRight': WHATEVER THE INPUT: true; the input reads as it did. -/
def adiantumRightSpec : ChangeSpec := { name := "adiantumRight", fn := fun _ => fun
  | [d1, d2] => { results := [.lit (.bool true)], args := [d1, d2] }
  | _ => none }
def adiantumRightRow : OpenClaim := { program := "ytfdkmjegcghieaadoor", sum := "f0552db874898ed5d03c517d3c824078191a996ac6820c426f104df5b7b0cb15", func := "wringer/wringerlaw17.AdiantumRight", spec := "adiantumRight", inPlace := ["math/bits.Add64", "math/bits.Sub64"], unfollowed := true, recurses := true, named := ["wringer/turn.mixes", "wringer/turn.unmixes"], apart := false, laid := [("wringer/turn.mixes", laid_wringer_turn_mixes), ("wringer/turn.unmixes", laid_wringer_turn_unmixes)] }
def AdiantumRightSaid : Prop := adiantumRightRow.holds Tryd.pinned (OpenSpec.ofChange adiantumRightSpec)

/-- ITS FALSE NEIGHBOUR: 'it returns false'. Refute it at one input. -/
def adiantumRightWrong : ChangeSpec := { name := "adiantumRight", fn := fun _ => fun
  | [d1, d2] => { results := [.lit (.bool false)], args := [d1, d2] }
  | _ => none }
def AdiantumRightWrongFalsely : Prop := adiantumRightRow.holds Tryd.pinned (OpenSpec.ofChange adiantumRightWrong)

/-- 'wringerlaw17.AdiantumKeys': WHATEVER THE INPUT: true; the input reads as it did. -/
def adiantumKeysSpec : ChangeSpec := { name := "adiantumKeys", fn := fun _ => fun
  | [d1, d2] => { results := [.lit (.bool true)], args := [d1, d2] }
  | _ => none }
def adiantumKeysRow : OpenClaim := { program := "ytfdkmjegcghieaadoor", sum := "f0552db874898ed5d03c517d3c824078191a996ac6820c426f104df5b7b0cb15", func := "wringer/wringerlaw17.AdiantumKeys", spec := "adiantumKeys", inPlace := ["math/bits.Add64", "math/bits.Sub64"], unfollowed := true, recurses := true, named := ["wringer/turn.mixes", "wringer/turn.unmixes"], apart := false, laid := [("wringer/turn.mixes", laid_wringer_turn_mixes), ("wringer/turn.unmixes", laid_wringer_turn_unmixes)] }
def AdiantumKeysSaid : Prop := adiantumKeysRow.holds Tryd.pinned (OpenSpec.ofChange adiantumKeysSpec)

/-- ITS FALSE NEIGHBOUR: 'it returns false'. Refute it at one input. -/
def adiantumKeysWrong : ChangeSpec := { name := "adiantumKeys", fn := fun _ => fun
  | [d1, d2] => { results := [.lit (.bool false)], args := [d1, d2] }
  | _ => none }
def AdiantumKeysWrongFalsely : Prop := adiantumKeysRow.holds Tryd.pinned (OpenSpec.ofChange adiantumKeysWrong)

/-- 'wringerlaw17.AdiantumBack': WHATEVER THE INPUT: true; the input reads as it did. -/
def adiantumBackSpec : ChangeSpec := { name := "adiantumBack", fn := fun _ => fun
  | [d] => { results := [.lit (.bool true)], args := [d] }
  | _ => none }
def adiantumBackRow : OpenClaim := { program := "ytfdkmjegcghieaadoor", sum := "f0552db874898ed5d03c517d3c824078191a996ac6820c426f104df5b7b0cb15", func := "wringer/wringerlaw17.AdiantumBack", spec := "adiantumBack", inPlace := ["math/bits.Add64", "math/bits.Sub64"], unfollowed := true, recurses := true, named := ["wringer/turn.mixes", "wringer/turn.unmixes"], apart := false, laid := [("wringer/turn.mixes", laid_wringer_turn_mixes), ("wringer/turn.unmixes", laid_wringer_turn_unmixes)] }
def AdiantumBackSaid : Prop := adiantumBackRow.holds Tryd.pinned (OpenSpec.ofChange adiantumBackSpec)

/-- ITS FALSE NEIGHBOUR: 'it returns false'. Refute it at one input. -/
def adiantumBackWrong : ChangeSpec := { name := "adiantumBack", fn := fun _ => fun
  | [d] => { results := [.lit (.bool false)], args := [d] }
  | _ => none }
def AdiantumBackWrongFalsely : Prop := adiantumBackRow.holds Tryd.pinned (OpenSpec.ofChange adiantumBackWrong)

/- THE SECOND FORM. 'bulk': how many values and letters a reading holds, each counted each time it is reached (what is shared counts as often as it is met; a slice's spare places count too). A statement '..UptoSaid' is the law's where the arguments, and the package variables that the reading takes, are together of bulk at most 1048576: NARROWER than '..Said'. Prove '..Said' where nothing that the law and all that it calls make is longer than what came in: it says more and counts as full. Else prove '..UptoSaid'. A law counts once. -/
mutual
def uptoBulk {H : Type} : DataW H → Nat
  | .lit (.string bytes) => bytes.length + 1
  | .lit _ => 1
  | .nil => 1
  | .ptr d => uptoBulk d + 1
  | .slice elems spare => uptoBulkAll elems + uptoBulkAll spare + 1
  | .agg parts => uptoBulkAll parts + 1
  | .iface _ d => uptoBulk d + 1
  | .map entries => uptoBulkEntries entries + 1
  | .held _ => 1
def uptoBulkAll {H : Type} : List (DataW H) → Nat
  | [] => 0
  | d :: r => uptoBulk d + uptoBulkAll r
def uptoBulkEntries {H : Type} : List (Lit × DataW H) → Nat
  | [] => 0
  | x :: r => uptoBulkEntry x + uptoBulkEntries r
def uptoBulkEntry {H : Type} : Lit × DataW H → Nat
  | (.string bytes, d) => bytes.length + uptoBulk d + 1
  | (_, d) => uptoBulk d + 1
 end
def uptoSmall : (H : Type) → List (DataW H) → Bool := fun _ ds => decide (uptoBulkAll ds ≤ 1048576)
def OpenSpec.upto (s : _root_.Go.ChangeSpec) : _root_.Go.OpenSpec := { _root_.Go.OpenSpec.ofChange s with cond := some uptoSmall }

/-- 'wringerlaw18.HctrApart', WHERE WHAT IT READS IS OF BULK AT MOST 1048576: true; the input reads as it did. -/
def hctrApartUptoRow : OpenClaim := { program := "ytfdkmjegcghieaadoor", sum := "f0552db874898ed5d03c517d3c824078191a996ac6820c426f104df5b7b0cb15", func := "wringer/wringerlaw18.HctrApart", spec := "hctrApart", unfollowed := true, recurses := true, named := ["wringer/turn.mixes", "wringer/turn.unmixes"], apart := false, laid := [("wringer/turn.mixes", laid_wringer_turn_mixes), ("wringer/turn.unmixes", laid_wringer_turn_unmixes)], narrowed := true }
def HctrApartUptoSaid : Prop := hctrApartUptoRow.holds Tryd.pinned (OpenSpec.upto hctrApartSpec)

/-- 'wringerlaw18.HctrSteps', WHERE WHAT IT READS IS OF BULK AT MOST 1048576: true; the input reads as it did. -/
def hctrStepsUptoRow : OpenClaim := { program := "ytfdkmjegcghieaadoor", sum := "f0552db874898ed5d03c517d3c824078191a996ac6820c426f104df5b7b0cb15", func := "wringer/wringerlaw18.HctrSteps", spec := "hctrSteps", unfollowed := true, recurses := true, named := ["wringer/turn.mixes", "wringer/turn.unmixes"], apart := false, laid := [("wringer/turn.mixes", laid_wringer_turn_mixes), ("wringer/turn.unmixes", laid_wringer_turn_unmixes)], narrowed := true }
def HctrStepsUptoSaid : Prop := hctrStepsUptoRow.holds Tryd.pinned (OpenSpec.upto hctrStepsSpec)

/-- 'wringerlaw18.HctrLeft', WHERE WHAT IT READS IS OF BULK AT MOST 1048576: true; the input reads as it did. -/
def hctrLeftUptoRow : OpenClaim := { program := "ytfdkmjegcghieaadoor", sum := "f0552db874898ed5d03c517d3c824078191a996ac6820c426f104df5b7b0cb15", func := "wringer/wringerlaw18.HctrLeft", spec := "hctrLeft", unfollowed := true, recurses := true, named := ["wringer/turn.mixes", "wringer/turn.unmixes"], apart := false, laid := [("wringer/turn.mixes", laid_wringer_turn_mixes), ("wringer/turn.unmixes", laid_wringer_turn_unmixes)], narrowed := true }
def HctrLeftUptoSaid : Prop := hctrLeftUptoRow.holds Tryd.pinned (OpenSpec.upto hctrLeftSpec)

/-- 'wringerlaw18.HctrKeys', WHERE WHAT IT READS IS OF BULK AT MOST 1048576: true; the input reads as it did. -/
def hctrKeysUptoRow : OpenClaim := { program := "ytfdkmjegcghieaadoor", sum := "f0552db874898ed5d03c517d3c824078191a996ac6820c426f104df5b7b0cb15", func := "wringer/wringerlaw18.HctrKeys", spec := "hctrKeys", unfollowed := true, recurses := true, named := ["wringer/turn.mixes", "wringer/turn.unmixes"], apart := false, laid := [("wringer/turn.mixes", laid_wringer_turn_mixes), ("wringer/turn.unmixes", laid_wringer_turn_unmixes)], narrowed := true }
def HctrKeysUptoSaid : Prop := hctrKeysUptoRow.holds Tryd.pinned (OpenSpec.upto hctrKeysSpec)

/-- 'wringerlaw18.HctrBack', WHERE WHAT IT READS IS OF BULK AT MOST 1048576: true; the input reads as it did. -/
def hctrBackUptoRow : OpenClaim := { program := "ytfdkmjegcghieaadoor", sum := "f0552db874898ed5d03c517d3c824078191a996ac6820c426f104df5b7b0cb15", func := "wringer/wringerlaw18.HctrBack", spec := "hctrBack", unfollowed := true, recurses := true, named := ["wringer/turn.mixes", "wringer/turn.unmixes"], apart := false, laid := [("wringer/turn.mixes", laid_wringer_turn_mixes), ("wringer/turn.unmixes", laid_wringer_turn_unmixes)], narrowed := true }
def HctrBackUptoSaid : Prop := hctrBackUptoRow.holds Tryd.pinned (OpenSpec.upto hctrBackSpec)

/-- 'wringerlaw17.AdiantumApart', WHERE WHAT IT READS IS OF BULK AT MOST 1048576: true; the input reads as it did. -/
def adiantumApartUptoRow : OpenClaim := { program := "ytfdkmjegcghieaadoor", sum := "f0552db874898ed5d03c517d3c824078191a996ac6820c426f104df5b7b0cb15", func := "wringer/wringerlaw17.AdiantumApart", spec := "adiantumApart", inPlace := ["math/bits.Add64", "math/bits.Sub64"], unfollowed := true, recurses := true, named := ["wringer/turn.mixes", "wringer/turn.unmixes"], apart := false, laid := [("wringer/turn.mixes", laid_wringer_turn_mixes), ("wringer/turn.unmixes", laid_wringer_turn_unmixes)], narrowed := true }
def AdiantumApartUptoSaid : Prop := adiantumApartUptoRow.holds Tryd.pinned (OpenSpec.upto adiantumApartSpec)

/-- 'wringerlaw17.AdiantumSteps', WHERE WHAT IT READS IS OF BULK AT MOST 1048576: true; the input reads as it did. -/
def adiantumStepsUptoRow : OpenClaim := { program := "ytfdkmjegcghieaadoor", sum := "f0552db874898ed5d03c517d3c824078191a996ac6820c426f104df5b7b0cb15", func := "wringer/wringerlaw17.AdiantumSteps", spec := "adiantumSteps", inPlace := ["math/bits.Add64", "math/bits.Sub64"], unfollowed := true, recurses := true, named := ["wringer/turn.mixes", "wringer/turn.unmixes"], apart := false, laid := [("wringer/turn.mixes", laid_wringer_turn_mixes), ("wringer/turn.unmixes", laid_wringer_turn_unmixes)], narrowed := true }
def AdiantumStepsUptoSaid : Prop := adiantumStepsUptoRow.holds Tryd.pinned (OpenSpec.upto adiantumStepsSpec)

/-- 'wringerlaw17.AdiantumRight', WHERE WHAT IT READS IS OF BULK AT MOST 1048576: true; the input reads as it did. -/
def adiantumRightUptoRow : OpenClaim := { program := "ytfdkmjegcghieaadoor", sum := "f0552db874898ed5d03c517d3c824078191a996ac6820c426f104df5b7b0cb15", func := "wringer/wringerlaw17.AdiantumRight", spec := "adiantumRight", inPlace := ["math/bits.Add64", "math/bits.Sub64"], unfollowed := true, recurses := true, named := ["wringer/turn.mixes", "wringer/turn.unmixes"], apart := false, laid := [("wringer/turn.mixes", laid_wringer_turn_mixes), ("wringer/turn.unmixes", laid_wringer_turn_unmixes)], narrowed := true }
def AdiantumRightUptoSaid : Prop := adiantumRightUptoRow.holds Tryd.pinned (OpenSpec.upto adiantumRightSpec)

/-- 'wringerlaw17.AdiantumKeys', WHERE WHAT IT READS IS OF BULK AT MOST 1048576: true; the input reads as it did. -/
def adiantumKeysUptoRow : OpenClaim := { program := "ytfdkmjegcghieaadoor", sum := "f0552db874898ed5d03c517d3c824078191a996ac6820c426f104df5b7b0cb15", func := "wringer/wringerlaw17.AdiantumKeys", spec := "adiantumKeys", inPlace := ["math/bits.Add64", "math/bits.Sub64"], unfollowed := true, recurses := true, named := ["wringer/turn.mixes", "wringer/turn.unmixes"], apart := false, laid := [("wringer/turn.mixes", laid_wringer_turn_mixes), ("wringer/turn.unmixes", laid_wringer_turn_unmixes)], narrowed := true }
def AdiantumKeysUptoSaid : Prop := adiantumKeysUptoRow.holds Tryd.pinned (OpenSpec.upto adiantumKeysSpec)

/-- 'wringerlaw17.AdiantumBack', WHERE WHAT IT READS IS OF BULK AT MOST 1048576: true; the input reads as it did. -/
def adiantumBackUptoRow : OpenClaim := { program := "ytfdkmjegcghieaadoor", sum := "f0552db874898ed5d03c517d3c824078191a996ac6820c426f104df5b7b0cb15", func := "wringer/wringerlaw17.AdiantumBack", spec := "adiantumBack", inPlace := ["math/bits.Add64", "math/bits.Sub64"], unfollowed := true, recurses := true, named := ["wringer/turn.mixes", "wringer/turn.unmixes"], apart := false, laid := [("wringer/turn.mixes", laid_wringer_turn_mixes), ("wringer/turn.unmixes", laid_wringer_turn_unmixes)], narrowed := true }
def AdiantumBackUptoSaid : Prop := adiantumBackUptoRow.holds Tryd.pinned (OpenSpec.upto adiantumBackSpec)

end Rows
end Go.Proofs.YtfdkmjegcghieaaDoor
