/-
  NARROWER THAN 'FOR EVERY INPUT', by the rows' own cells (each row's printed sentence says how): AesApart: laid · AesSchedules: laid · AesMade: laid · AesFirst: laid · AesWords: laid · XctrBlocks: laid · XctrApart: laid · XctrCrypts: laid · XctrBack: laid · XctrRows: laid · XctrMade: laid · AesBlocks: laid · AesBack: laid.
  DERIVED. THE GIVEN ROWS OF THIS SEAT. 13 by the template 'for every input the law returns true; each argument reads behind the call as it read before'; 0 by the template 'total and deterministic' (their statements: YthogbbigglmapaaDoorTotals.lean).
  GIVEN WITH THE SEED: the statements are not yours to turn. If you find one false, say at which input.
  Laid BY PROGRAM, IN A SANDBOX (cutbox-rows.mjs): the forced cells as the released guide's own fill.sh prints them over the translation 9a52649c4bb634d1… (all of the seat's roots in one cut). By AI agents, Wed Nov 11 2026. No macro, syntax, notation, axiom, sorry.
-/
import Derived.Test.YthogbbigglmapaaDoorChecked
import GoSem.Claim
import GoSem.ClaimJoined
import GoSem.ClaimMapViews
import Derived.JoinedTies
import Derived.KernelRfl
namespace Go.Proofs.YthogbbigglmapaaDoor
/- THE CELL 'sum', in the pinned program and in every row, IS THE sha256 OF THE DUMP (.gsa) THAT YthogbbigglmapaaDoorProg.lean LOADS. Nothing in Lean hashes anything: it is a label: what it is worth is what the hold of that sum in a sandbox is worth. -/
noncomputable def Tryd.pinned : Pinned := { name := "ythogbbigglmapaadoor", sum := "9a52649c4bb634d1181488193510e529fc228f97885127d13dbb99a2c3e74ef9", checked := Tryd.checked }
namespace Rows
def none {H : Type} : Left H := { results := [], args := [] }

/- WHAT THE LISTED PACKAGE-LEVEL VARIABLES READ AS WHEN THE CALL BEGINS. Each datum BY PROGRAM (the guide's laid-datum.mjs) off the statement by which the dump's own 'gosem.cut.vars' lays the variable. In a bare row this is a premise. The card (YthogbbigglmapaaDoorCards.lean) ties it to the program's text. -/
def laid_wringer_turn_mixes {H : Type} : DataW H := .agg [.lit (.int .u8 2), .lit (.int .u8 3), .lit (.int .u8 1), .lit (.int .u8 1)]
def laid_wringer_turn_unmixes {H : Type} : DataW H := .agg [.lit (.int .u8 14), .lit (.int .u8 11), .lit (.int .u8 13), .lit (.int .u8 9)]

/-- 'wringerlaw04.AesApart': WHATEVER THE INPUT: true; the input reads as it did. -/
def aesApartSpec : ChangeSpec := { name := "aesApart", fn := fun _ => fun
  | [d1, d2, d3] => { results := [.lit (.bool true)], args := [d1, d2, d3] }
  | _ => none }
def aesApartRow : OpenClaim := { program := "ythogbbigglmapaadoor", sum := "9a52649c4bb634d1181488193510e529fc228f97885127d13dbb99a2c3e74ef9", func := "wringer/wringerlaw04.AesApart", spec := "aesApart", unfollowed := true, recurses := true, named := ["wringer/turn.mixes", "wringer/turn.unmixes"], apart := false, laid := [("wringer/turn.mixes", laid_wringer_turn_mixes), ("wringer/turn.unmixes", laid_wringer_turn_unmixes)] }
def AesApartSaid : Prop := aesApartRow.holds Tryd.pinned (OpenSpec.ofChange aesApartSpec)

/-- ITS FALSE NEIGHBOUR: 'it returns false'. Refute it at one input. -/
def aesApartWrong : ChangeSpec := { name := "aesApart", fn := fun _ => fun
  | [d1, d2, d3] => { results := [.lit (.bool false)], args := [d1, d2, d3] }
  | _ => none }
def AesApartWrongFalsely : Prop := aesApartRow.holds Tryd.pinned (OpenSpec.ofChange aesApartWrong)

/-- 'wringerlaw04.AesSchedules': WHATEVER THE INPUT: true; the input reads as it did. -/
def aesSchedulesSpec : ChangeSpec := { name := "aesSchedules", fn := fun _ => fun
  | [d1, d2] => { results := [.lit (.bool true)], args := [d1, d2] }
  | _ => none }
def aesSchedulesRow : OpenClaim := { program := "ythogbbigglmapaadoor", sum := "9a52649c4bb634d1181488193510e529fc228f97885127d13dbb99a2c3e74ef9", func := "wringer/wringerlaw04.AesSchedules", spec := "aesSchedules", unfollowed := true, recurses := true, named := ["wringer/turn.mixes", "wringer/turn.unmixes"], apart := false, laid := [("wringer/turn.mixes", laid_wringer_turn_mixes), ("wringer/turn.unmixes", laid_wringer_turn_unmixes)] }
def AesSchedulesSaid : Prop := aesSchedulesRow.holds Tryd.pinned (OpenSpec.ofChange aesSchedulesSpec)

/-- ITS FALSE NEIGHBOUR: 'it returns false'. Refute it at one input. -/
def aesSchedulesWrong : ChangeSpec := { name := "aesSchedules", fn := fun _ => fun
  | [d1, d2] => { results := [.lit (.bool false)], args := [d1, d2] }
  | _ => none }
def AesSchedulesWrongFalsely : Prop := aesSchedulesRow.holds Tryd.pinned (OpenSpec.ofChange aesSchedulesWrong)

/-- 'wringerlaw04.AesMade': WHATEVER THE INPUT: true; the input reads as it did. -/
def aesMadeSpec : ChangeSpec := { name := "aesMade", fn := fun _ => fun
  | [d1, d2] => { results := [.lit (.bool true)], args := [d1, d2] }
  | _ => none }
def aesMadeRow : OpenClaim := { program := "ythogbbigglmapaadoor", sum := "9a52649c4bb634d1181488193510e529fc228f97885127d13dbb99a2c3e74ef9", func := "wringer/wringerlaw04.AesMade", spec := "aesMade", unfollowed := true, recurses := true, named := ["wringer/turn.mixes", "wringer/turn.unmixes"], apart := false, laid := [("wringer/turn.mixes", laid_wringer_turn_mixes), ("wringer/turn.unmixes", laid_wringer_turn_unmixes)] }
def AesMadeSaid : Prop := aesMadeRow.holds Tryd.pinned (OpenSpec.ofChange aesMadeSpec)

/-- ITS FALSE NEIGHBOUR: 'it returns false'. Refute it at one input. -/
def aesMadeWrong : ChangeSpec := { name := "aesMade", fn := fun _ => fun
  | [d1, d2] => { results := [.lit (.bool false)], args := [d1, d2] }
  | _ => none }
def AesMadeWrongFalsely : Prop := aesMadeRow.holds Tryd.pinned (OpenSpec.ofChange aesMadeWrong)

/-- 'wringerlaw04.AesFirst': WHATEVER THE INPUT: true; the input reads as it did. -/
def aesFirstSpec : ChangeSpec := { name := "aesFirst", fn := fun _ => fun
  | [d] => { results := [.lit (.bool true)], args := [d] }
  | _ => none }
def aesFirstRow : OpenClaim := { program := "ythogbbigglmapaadoor", sum := "9a52649c4bb634d1181488193510e529fc228f97885127d13dbb99a2c3e74ef9", func := "wringer/wringerlaw04.AesFirst", spec := "aesFirst", unfollowed := true, recurses := true, named := ["wringer/turn.mixes", "wringer/turn.unmixes"], apart := false, laid := [("wringer/turn.mixes", laid_wringer_turn_mixes), ("wringer/turn.unmixes", laid_wringer_turn_unmixes)] }
def AesFirstSaid : Prop := aesFirstRow.holds Tryd.pinned (OpenSpec.ofChange aesFirstSpec)

/-- ITS FALSE NEIGHBOUR: 'it returns false'. Refute it at one input. -/
def aesFirstWrong : ChangeSpec := { name := "aesFirst", fn := fun _ => fun
  | [d] => { results := [.lit (.bool false)], args := [d] }
  | _ => none }
def AesFirstWrongFalsely : Prop := aesFirstRow.holds Tryd.pinned (OpenSpec.ofChange aesFirstWrong)

/-- 'wringerlaw04.AesWords': WHATEVER THE INPUT: true; the input reads as it did. -/
def aesWordsSpec : ChangeSpec := { name := "aesWords", fn := fun _ => fun
  | [d1, d2] => { results := [.lit (.bool true)], args := [d1, d2] }
  | _ => none }
def aesWordsRow : OpenClaim := { program := "ythogbbigglmapaadoor", sum := "9a52649c4bb634d1181488193510e529fc228f97885127d13dbb99a2c3e74ef9", func := "wringer/wringerlaw04.AesWords", spec := "aesWords", unfollowed := true, recurses := true, named := ["wringer/turn.mixes", "wringer/turn.unmixes"], apart := false, laid := [("wringer/turn.mixes", laid_wringer_turn_mixes), ("wringer/turn.unmixes", laid_wringer_turn_unmixes)] }
def AesWordsSaid : Prop := aesWordsRow.holds Tryd.pinned (OpenSpec.ofChange aesWordsSpec)

/-- ITS FALSE NEIGHBOUR: 'it returns false'. Refute it at one input. -/
def aesWordsWrong : ChangeSpec := { name := "aesWords", fn := fun _ => fun
  | [d1, d2] => { results := [.lit (.bool false)], args := [d1, d2] }
  | _ => none }
def AesWordsWrongFalsely : Prop := aesWordsRow.holds Tryd.pinned (OpenSpec.ofChange aesWordsWrong)

/-- 'wringerlaw13.XctrBlocks': WHATEVER THE INPUT: true; the input reads as it did. -/
def xctrBlocksSpec : ChangeSpec := { name := "xctrBlocks", fn := fun _ => fun
  | [d1, d2, d3] => { results := [.lit (.bool true)], args := [d1, d2, d3] }
  | _ => none }
def xctrBlocksRow : OpenClaim := { program := "ythogbbigglmapaadoor", sum := "9a52649c4bb634d1181488193510e529fc228f97885127d13dbb99a2c3e74ef9", func := "wringer/wringerlaw13.XctrBlocks", spec := "xctrBlocks", unfollowed := true, recurses := true, named := ["wringer/turn.mixes", "wringer/turn.unmixes"], apart := false, laid := [("wringer/turn.mixes", laid_wringer_turn_mixes), ("wringer/turn.unmixes", laid_wringer_turn_unmixes)] }
def XctrBlocksSaid : Prop := xctrBlocksRow.holds Tryd.pinned (OpenSpec.ofChange xctrBlocksSpec)

/-- ITS FALSE NEIGHBOUR: 'it returns false'. Refute it at one input. -/
def xctrBlocksWrong : ChangeSpec := { name := "xctrBlocks", fn := fun _ => fun
  | [d1, d2, d3] => { results := [.lit (.bool false)], args := [d1, d2, d3] }
  | _ => none }
def XctrBlocksWrongFalsely : Prop := xctrBlocksRow.holds Tryd.pinned (OpenSpec.ofChange xctrBlocksWrong)

/-- 'wringerlaw13.XctrApart': WHATEVER THE INPUT: true; the input reads as it did. -/
def xctrApartSpec : ChangeSpec := { name := "xctrApart", fn := fun _ => fun
  | [d] => { results := [.lit (.bool true)], args := [d] }
  | _ => none }
def xctrApartRow : OpenClaim := { program := "ythogbbigglmapaadoor", sum := "9a52649c4bb634d1181488193510e529fc228f97885127d13dbb99a2c3e74ef9", func := "wringer/wringerlaw13.XctrApart", spec := "xctrApart", unfollowed := true, recurses := true, named := ["wringer/turn.mixes", "wringer/turn.unmixes"], apart := false, laid := [("wringer/turn.mixes", laid_wringer_turn_mixes), ("wringer/turn.unmixes", laid_wringer_turn_unmixes)] }
def XctrApartSaid : Prop := xctrApartRow.holds Tryd.pinned (OpenSpec.ofChange xctrApartSpec)

/-- ITS FALSE NEIGHBOUR: 'it returns false'. Refute it at one input. -/
def xctrApartWrong : ChangeSpec := { name := "xctrApart", fn := fun _ => fun
  | [d] => { results := [.lit (.bool false)], args := [d] }
  | _ => none }
def XctrApartWrongFalsely : Prop := xctrApartRow.holds Tryd.pinned (OpenSpec.ofChange xctrApartWrong)

/-- 'wringerlaw13.XctrCrypts': WHATEVER THE INPUT: true; the input reads as it did. -/
def xctrCryptsSpec : ChangeSpec := { name := "xctrCrypts", fn := fun _ => fun
  | [d1, d2, d3] => { results := [.lit (.bool true)], args := [d1, d2, d3] }
  | _ => none }
def xctrCryptsRow : OpenClaim := { program := "ythogbbigglmapaadoor", sum := "9a52649c4bb634d1181488193510e529fc228f97885127d13dbb99a2c3e74ef9", func := "wringer/wringerlaw13.XctrCrypts", spec := "xctrCrypts", unfollowed := true, recurses := true, named := ["wringer/turn.mixes", "wringer/turn.unmixes"], apart := false, laid := [("wringer/turn.mixes", laid_wringer_turn_mixes), ("wringer/turn.unmixes", laid_wringer_turn_unmixes)] }
def XctrCryptsSaid : Prop := xctrCryptsRow.holds Tryd.pinned (OpenSpec.ofChange xctrCryptsSpec)

/-- ITS FALSE NEIGHBOUR: 'it returns false'. Refute it at one input. -/
def xctrCryptsWrong : ChangeSpec := { name := "xctrCrypts", fn := fun _ => fun
  | [d1, d2, d3] => { results := [.lit (.bool false)], args := [d1, d2, d3] }
  | _ => none }
def XctrCryptsWrongFalsely : Prop := xctrCryptsRow.holds Tryd.pinned (OpenSpec.ofChange xctrCryptsWrong)

/-- 'wringerlaw13.XctrBack': WHATEVER THE INPUT: true; the input reads as it did. -/
def xctrBackSpec : ChangeSpec := { name := "xctrBack", fn := fun _ => fun
  | [d1, d2, d3] => { results := [.lit (.bool true)], args := [d1, d2, d3] }
  | _ => none }
def xctrBackRow : OpenClaim := { program := "ythogbbigglmapaadoor", sum := "9a52649c4bb634d1181488193510e529fc228f97885127d13dbb99a2c3e74ef9", func := "wringer/wringerlaw13.XctrBack", spec := "xctrBack", unfollowed := true, recurses := true, named := ["wringer/turn.mixes", "wringer/turn.unmixes"], apart := false, laid := [("wringer/turn.mixes", laid_wringer_turn_mixes), ("wringer/turn.unmixes", laid_wringer_turn_unmixes)] }
def XctrBackSaid : Prop := xctrBackRow.holds Tryd.pinned (OpenSpec.ofChange xctrBackSpec)

/-- ITS FALSE NEIGHBOUR: 'it returns false'. Refute it at one input. -/
def xctrBackWrong : ChangeSpec := { name := "xctrBack", fn := fun _ => fun
  | [d1, d2, d3] => { results := [.lit (.bool false)], args := [d1, d2, d3] }
  | _ => none }
def XctrBackWrongFalsely : Prop := xctrBackRow.holds Tryd.pinned (OpenSpec.ofChange xctrBackWrong)

/-- 'wringerlaw13.XctrRows': WHATEVER THE INPUT: true; the input reads as it did. -/
def xctrRowsSpec : ChangeSpec := { name := "xctrRows", fn := fun _ => fun
  | [d1, d2, d3] => { results := [.lit (.bool true)], args := [d1, d2, d3] }
  | _ => none }
def xctrRowsRow : OpenClaim := { program := "ythogbbigglmapaadoor", sum := "9a52649c4bb634d1181488193510e529fc228f97885127d13dbb99a2c3e74ef9", func := "wringer/wringerlaw13.XctrRows", spec := "xctrRows", unfollowed := true, recurses := true, named := ["wringer/turn.mixes", "wringer/turn.unmixes"], apart := false, laid := [("wringer/turn.mixes", laid_wringer_turn_mixes), ("wringer/turn.unmixes", laid_wringer_turn_unmixes)] }
def XctrRowsSaid : Prop := xctrRowsRow.holds Tryd.pinned (OpenSpec.ofChange xctrRowsSpec)

/-- ITS FALSE NEIGHBOUR: 'it returns false'. Refute it at one input. -/
def xctrRowsWrong : ChangeSpec := { name := "xctrRows", fn := fun _ => fun
  | [d1, d2, d3] => { results := [.lit (.bool false)], args := [d1, d2, d3] }
  | _ => none }
def XctrRowsWrongFalsely : Prop := xctrRowsRow.holds Tryd.pinned (OpenSpec.ofChange xctrRowsWrong)

/-- 'wringerlaw13.XctrMade': WHATEVER THE INPUT: true; the input reads as it did. -/
def xctrMadeSpec : ChangeSpec := { name := "xctrMade", fn := fun _ => fun
  | [d1, d2, d3] => { results := [.lit (.bool true)], args := [d1, d2, d3] }
  | _ => none }
def xctrMadeRow : OpenClaim := { program := "ythogbbigglmapaadoor", sum := "9a52649c4bb634d1181488193510e529fc228f97885127d13dbb99a2c3e74ef9", func := "wringer/wringerlaw13.XctrMade", spec := "xctrMade", unfollowed := true, recurses := true, named := ["wringer/turn.mixes", "wringer/turn.unmixes"], apart := false, laid := [("wringer/turn.mixes", laid_wringer_turn_mixes), ("wringer/turn.unmixes", laid_wringer_turn_unmixes)] }
def XctrMadeSaid : Prop := xctrMadeRow.holds Tryd.pinned (OpenSpec.ofChange xctrMadeSpec)

/-- ITS FALSE NEIGHBOUR: 'it returns false'. Refute it at one input. -/
def xctrMadeWrong : ChangeSpec := { name := "xctrMade", fn := fun _ => fun
  | [d1, d2, d3] => { results := [.lit (.bool false)], args := [d1, d2, d3] }
  | _ => none }
def XctrMadeWrongFalsely : Prop := xctrMadeRow.holds Tryd.pinned (OpenSpec.ofChange xctrMadeWrong)

/-- 'wringerlaw04.AesBlocks': WHATEVER THE INPUT: true; the input reads as it did. -/
def aesBlocksSpec : ChangeSpec := { name := "aesBlocks", fn := fun _ => fun
  | [d1, d2] => { results := [.lit (.bool true)], args := [d1, d2] }
  | _ => none }
def aesBlocksRow : OpenClaim := { program := "ythogbbigglmapaadoor", sum := "9a52649c4bb634d1181488193510e529fc228f97885127d13dbb99a2c3e74ef9", func := "wringer/wringerlaw04.AesBlocks", spec := "aesBlocks", unfollowed := true, recurses := true, named := ["wringer/turn.mixes", "wringer/turn.unmixes"], apart := false, laid := [("wringer/turn.mixes", laid_wringer_turn_mixes), ("wringer/turn.unmixes", laid_wringer_turn_unmixes)] }
def AesBlocksSaid : Prop := aesBlocksRow.holds Tryd.pinned (OpenSpec.ofChange aesBlocksSpec)

/-- ITS FALSE NEIGHBOUR: 'it returns false'. Refute it at one input. -/
def aesBlocksWrong : ChangeSpec := { name := "aesBlocks", fn := fun _ => fun
  | [d1, d2] => { results := [.lit (.bool false)], args := [d1, d2] }
  | _ => none }
def AesBlocksWrongFalsely : Prop := aesBlocksRow.holds Tryd.pinned (OpenSpec.ofChange aesBlocksWrong)

/-- 'wringerlaw04.AesBack': WHATEVER THE INPUT: true; the input reads as it did. -/
def aesBackSpec : ChangeSpec := { name := "aesBack", fn := fun _ => fun
  | [d1, d2] => { results := [.lit (.bool true)], args := [d1, d2] }
  | _ => none }
def aesBackRow : OpenClaim := { program := "ythogbbigglmapaadoor", sum := "9a52649c4bb634d1181488193510e529fc228f97885127d13dbb99a2c3e74ef9", func := "wringer/wringerlaw04.AesBack", spec := "aesBack", unfollowed := true, recurses := true, named := ["wringer/turn.mixes", "wringer/turn.unmixes"], apart := false, laid := [("wringer/turn.mixes", laid_wringer_turn_mixes), ("wringer/turn.unmixes", laid_wringer_turn_unmixes)] }
def AesBackSaid : Prop := aesBackRow.holds Tryd.pinned (OpenSpec.ofChange aesBackSpec)

/-- ITS FALSE NEIGHBOUR: 'it returns false'. Refute it at one input. -/
def aesBackWrong : ChangeSpec := { name := "aesBack", fn := fun _ => fun
  | [d1, d2] => { results := [.lit (.bool false)], args := [d1, d2] }
  | _ => none }
def AesBackWrongFalsely : Prop := aesBackRow.holds Tryd.pinned (OpenSpec.ofChange aesBackWrong)

/- THE SECOND FORM. 'bulk': how many values and letters a reading holds, each counted each time it is reached (what is shared counts as often as it is met; a slice's spare places count too). A statement '..UptoSaid' is the law's where the arguments, and the package variables that the reading takes, are together of bulk at most 1048576: NARROWER than '..Said'. Prove '..Said' where nothing that the law and all that it calls make is longer than what came in: it says more and counts as full. Else prove '..UptoSaid'. A law counts once. -/
mutual
def uptoBulk {H : Type} : DataW H → Nat
  | .lit (.string bytes) => bytes.length + 1
  | .lit _ => 1
  | .nil => 1
  | .ptr d => uptoBulk d + 1
  | .slice elems spare => uptoBulkAll elems + uptoBulkAll spare + 1
  | .agg parts => uptoBulkAll parts + 1
  | .iface _ d => uptoBulk d + 1
  | .map entries => uptoBulkEntries entries + 1
  | .held _ => 1
def uptoBulkAll {H : Type} : List (DataW H) → Nat
  | [] => 0
  | d :: r => uptoBulk d + uptoBulkAll r
def uptoBulkEntries {H : Type} : List (Lit × DataW H) → Nat
  | [] => 0
  | x :: r => uptoBulkEntry x + uptoBulkEntries r
def uptoBulkEntry {H : Type} : Lit × DataW H → Nat
  | (.string bytes, d) => bytes.length + uptoBulk d + 1
  | (_, d) => uptoBulk d + 1
 end
def uptoSmall : (H : Type) → List (DataW H) → Bool := fun _ ds => decide (uptoBulkAll ds ≤ 1048576)
def OpenSpec.upto (s : _root_.Go.ChangeSpec) : _root_.Go.OpenSpec := { _root_.Go.OpenSpec.ofChange s with cond := some uptoSmall }

/-- 'wringerlaw04.AesApart', WHERE WHAT IT READS IS OF BULK AT MOST 1048576: true; the input reads as it did. -/
def aesApartUptoRow : OpenClaim := { program := "ythogbbigglmapaadoor", sum := "9a52649c4bb634d1181488193510e529fc228f97885127d13dbb99a2c3e74ef9", func := "wringer/wringerlaw04.AesApart", spec := "aesApart", unfollowed := true, recurses := true, named := ["wringer/turn.mixes", "wringer/turn.unmixes"], apart := false, laid := [("wringer/turn.mixes", laid_wringer_turn_mixes), ("wringer/turn.unmixes", laid_wringer_turn_unmixes)], narrowed := true }
def AesApartUptoSaid : Prop := aesApartUptoRow.holds Tryd.pinned (OpenSpec.upto aesApartSpec)

/-- 'wringerlaw04.AesSchedules', WHERE WHAT IT READS IS OF BULK AT MOST 1048576: true; the input reads as it did. -/
def aesSchedulesUptoRow : OpenClaim := { program := "ythogbbigglmapaadoor", sum := "9a52649c4bb634d1181488193510e529fc228f97885127d13dbb99a2c3e74ef9", func := "wringer/wringerlaw04.AesSchedules", spec := "aesSchedules", unfollowed := true, recurses := true, named := ["wringer/turn.mixes", "wringer/turn.unmixes"], apart := false, laid := [("wringer/turn.mixes", laid_wringer_turn_mixes), ("wringer/turn.unmixes", laid_wringer_turn_unmixes)], narrowed := true }
def AesSchedulesUptoSaid : Prop := aesSchedulesUptoRow.holds Tryd.pinned (OpenSpec.upto aesSchedulesSpec)

/-- 'wringerlaw04.AesMade', WHERE WHAT IT READS IS OF BULK AT MOST 1048576: true; the input reads as it did. -/
def aesMadeUptoRow : OpenClaim := { program := "ythogbbigglmapaadoor", sum := "9a52649c4bb634d1181488193510e529fc228f97885127d13dbb99a2c3e74ef9", func := "wringer/wringerlaw04.AesMade", spec := "aesMade", unfollowed := true, recurses := true, named := ["wringer/turn.mixes", "wringer/turn.unmixes"], apart := false, laid := [("wringer/turn.mixes", laid_wringer_turn_mixes), ("wringer/turn.unmixes", laid_wringer_turn_unmixes)], narrowed := true }
def AesMadeUptoSaid : Prop := aesMadeUptoRow.holds Tryd.pinned (OpenSpec.upto aesMadeSpec)

/-- 'wringerlaw04.AesFirst', WHERE WHAT IT READS IS OF BULK AT MOST 1048576: true; the input reads as it did. -/
def aesFirstUptoRow : OpenClaim := { program := "ythogbbigglmapaadoor", sum := "9a52649c4bb634d1181488193510e529fc228f97885127d13dbb99a2c3e74ef9", func := "wringer/wringerlaw04.AesFirst", spec := "aesFirst", unfollowed := true, recurses := true, named := ["wringer/turn.mixes", "wringer/turn.unmixes"], apart := false, laid := [("wringer/turn.mixes", laid_wringer_turn_mixes), ("wringer/turn.unmixes", laid_wringer_turn_unmixes)], narrowed := true }
def AesFirstUptoSaid : Prop := aesFirstUptoRow.holds Tryd.pinned (OpenSpec.upto aesFirstSpec)

/-- 'wringerlaw04.AesWords', WHERE WHAT IT READS IS OF BULK AT MOST 1048576: true; the input reads as it did. -/
def aesWordsUptoRow : OpenClaim := { program := "ythogbbigglmapaadoor", sum := "9a52649c4bb634d1181488193510e529fc228f97885127d13dbb99a2c3e74ef9", func := "wringer/wringerlaw04.AesWords", spec := "aesWords", unfollowed := true, recurses := true, named := ["wringer/turn.mixes", "wringer/turn.unmixes"], apart := false, laid := [("wringer/turn.mixes", laid_wringer_turn_mixes), ("wringer/turn.unmixes", laid_wringer_turn_unmixes)], narrowed := true }
def AesWordsUptoSaid : Prop := aesWordsUptoRow.holds Tryd.pinned (OpenSpec.upto aesWordsSpec)

/-- 'wringerlaw13.XctrBlocks', WHERE WHAT IT READS IS OF BULK AT MOST 1048576: true; the input reads as it did. -/
def xctrBlocksUptoRow : OpenClaim := { program := "ythogbbigglmapaadoor", sum := "9a52649c4bb634d1181488193510e529fc228f97885127d13dbb99a2c3e74ef9", func := "wringer/wringerlaw13.XctrBlocks", spec := "xctrBlocks", unfollowed := true, recurses := true, named := ["wringer/turn.mixes", "wringer/turn.unmixes"], apart := false, laid := [("wringer/turn.mixes", laid_wringer_turn_mixes), ("wringer/turn.unmixes", laid_wringer_turn_unmixes)], narrowed := true }
def XctrBlocksUptoSaid : Prop := xctrBlocksUptoRow.holds Tryd.pinned (OpenSpec.upto xctrBlocksSpec)

/-- 'wringerlaw13.XctrApart', WHERE WHAT IT READS IS OF BULK AT MOST 1048576: true; the input reads as it did. -/
def xctrApartUptoRow : OpenClaim := { program := "ythogbbigglmapaadoor", sum := "9a52649c4bb634d1181488193510e529fc228f97885127d13dbb99a2c3e74ef9", func := "wringer/wringerlaw13.XctrApart", spec := "xctrApart", unfollowed := true, recurses := true, named := ["wringer/turn.mixes", "wringer/turn.unmixes"], apart := false, laid := [("wringer/turn.mixes", laid_wringer_turn_mixes), ("wringer/turn.unmixes", laid_wringer_turn_unmixes)], narrowed := true }
def XctrApartUptoSaid : Prop := xctrApartUptoRow.holds Tryd.pinned (OpenSpec.upto xctrApartSpec)

/-- 'wringerlaw13.XctrCrypts', WHERE WHAT IT READS IS OF BULK AT MOST 1048576: true; the input reads as it did. -/
def xctrCryptsUptoRow : OpenClaim := { program := "ythogbbigglmapaadoor", sum := "9a52649c4bb634d1181488193510e529fc228f97885127d13dbb99a2c3e74ef9", func := "wringer/wringerlaw13.XctrCrypts", spec := "xctrCrypts", unfollowed := true, recurses := true, named := ["wringer/turn.mixes", "wringer/turn.unmixes"], apart := false, laid := [("wringer/turn.mixes", laid_wringer_turn_mixes), ("wringer/turn.unmixes", laid_wringer_turn_unmixes)], narrowed := true }
def XctrCryptsUptoSaid : Prop := xctrCryptsUptoRow.holds Tryd.pinned (OpenSpec.upto xctrCryptsSpec)

/-- 'wringerlaw13.XctrBack', WHERE WHAT IT READS IS OF BULK AT MOST 1048576: true; the input reads as it did. -/
def xctrBackUptoRow : OpenClaim := { program := "ythogbbigglmapaadoor", sum := "9a52649c4bb634d1181488193510e529fc228f97885127d13dbb99a2c3e74ef9", func := "wringer/wringerlaw13.XctrBack", spec := "xctrBack", unfollowed := true, recurses := true, named := ["wringer/turn.mixes", "wringer/turn.unmixes"], apart := false, laid := [("wringer/turn.mixes", laid_wringer_turn_mixes), ("wringer/turn.unmixes", laid_wringer_turn_unmixes)], narrowed := true }
def XctrBackUptoSaid : Prop := xctrBackUptoRow.holds Tryd.pinned (OpenSpec.upto xctrBackSpec)

/-- 'wringerlaw13.XctrRows', WHERE WHAT IT READS IS OF BULK AT MOST 1048576: true; the input reads as it did. -/
def xctrRowsUptoRow : OpenClaim := { program := "ythogbbigglmapaadoor", sum := "9a52649c4bb634d1181488193510e529fc228f97885127d13dbb99a2c3e74ef9", func := "wringer/wringerlaw13.XctrRows", spec := "xctrRows", unfollowed := true, recurses := true, named := ["wringer/turn.mixes", "wringer/turn.unmixes"], apart := false, laid := [("wringer/turn.mixes", laid_wringer_turn_mixes), ("wringer/turn.unmixes", laid_wringer_turn_unmixes)], narrowed := true }
def XctrRowsUptoSaid : Prop := xctrRowsUptoRow.holds Tryd.pinned (OpenSpec.upto xctrRowsSpec)

/-- 'wringerlaw13.XctrMade', WHERE WHAT IT READS IS OF BULK AT MOST 1048576: true; the input reads as it did. -/
def xctrMadeUptoRow : OpenClaim := { program := "ythogbbigglmapaadoor", sum := "9a52649c4bb634d1181488193510e529fc228f97885127d13dbb99a2c3e74ef9", func := "wringer/wringerlaw13.XctrMade", spec := "xctrMade", unfollowed := true, recurses := true, named := ["wringer/turn.mixes", "wringer/turn.unmixes"], apart := false, laid := [("wringer/turn.mixes", laid_wringer_turn_mixes), ("wringer/turn.unmixes", laid_wringer_turn_unmixes)], narrowed := true }
def XctrMadeUptoSaid : Prop := xctrMadeUptoRow.holds Tryd.pinned (OpenSpec.upto xctrMadeSpec)

/-- 'wringerlaw04.AesBlocks', WHERE WHAT IT READS IS OF BULK AT MOST 1048576: true; the input reads as it did. -/
def aesBlocksUptoRow : OpenClaim := { program := "ythogbbigglmapaadoor", sum := "9a52649c4bb634d1181488193510e529fc228f97885127d13dbb99a2c3e74ef9", func := "wringer/wringerlaw04.AesBlocks", spec := "aesBlocks", unfollowed := true, recurses := true, named := ["wringer/turn.mixes", "wringer/turn.unmixes"], apart := false, laid := [("wringer/turn.mixes", laid_wringer_turn_mixes), ("wringer/turn.unmixes", laid_wringer_turn_unmixes)], narrowed := true }
def AesBlocksUptoSaid : Prop := aesBlocksUptoRow.holds Tryd.pinned (OpenSpec.upto aesBlocksSpec)

/-- 'wringerlaw04.AesBack', WHERE WHAT IT READS IS OF BULK AT MOST 1048576: true; the input reads as it did. -/
def aesBackUptoRow : OpenClaim := { program := "ythogbbigglmapaadoor", sum := "9a52649c4bb634d1181488193510e529fc228f97885127d13dbb99a2c3e74ef9", func := "wringer/wringerlaw04.AesBack", spec := "aesBack", unfollowed := true, recurses := true, named := ["wringer/turn.mixes", "wringer/turn.unmixes"], apart := false, laid := [("wringer/turn.mixes", laid_wringer_turn_mixes), ("wringer/turn.unmixes", laid_wringer_turn_unmixes)], narrowed := true }
def AesBackUptoSaid : Prop := aesBackUptoRow.holds Tryd.pinned (OpenSpec.upto aesBackSpec)

end Rows
end Go.Proofs.YthogbbigglmapaaDoor
