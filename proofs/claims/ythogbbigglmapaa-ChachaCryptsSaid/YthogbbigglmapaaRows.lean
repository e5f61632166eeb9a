/-
  No cell of these rows narrows 'for every input' (looked for: loops, veiled, ifaces, maps, wideKeys, modest, calm, conditions, laid).
  DERIVED. THE GIVEN ROWS OF THIS SEAT. 17 by the template 'for every input the law returns true; each argument reads behind the call as it read before'; 0 by the template 'total and deterministic' (their statements: YthogbbigglmapaaTotals.lean).
  GIVEN WITH THE SEED: the statements are not yours to turn. If you find one false, say at which input.
  Laid BY PROGRAM, IN A SANDBOX (cutbox-rows.mjs): the forced cells as the released guide's own fill.sh prints them over the translation 1ec224065e811dc6… (all of the seat's roots in one cut). By AI agents, Wed Nov 11 2026. No macro, syntax, notation, axiom, sorry.
-/
import Derived.Test.YthogbbigglmapaaChecked
import GoSem.Claim
import GoSem.ClaimJoined
import GoSem.ClaimMapViews
import Derived.JoinedTies
import Derived.KernelRfl
namespace Go.Proofs.Ythogbbigglmapaa
/- THE CELL 'sum', in the pinned program and in every row, IS THE sha256 OF THE DUMP (.gsa) THAT YthogbbigglmapaaProg.lean LOADS. Nothing in Lean hashes anything: it is a label: what it is worth is what the hold of that sum in a sandbox is worth. -/
noncomputable def Try.pinned : Pinned := { name := "ythogbbigglmapaa", sum := "1ec224065e811dc6eb3ac7dc427c750950581b40d28e42925b7b8932f310f0b6", checked := Try.checked }
namespace Rows
def none {H : Type} : Left H := { results := [], args := [] }

/-- 'wringerlaw26.SixtyEncodes': WHATEVER THE INPUT: true; the input reads as it did. -/
def sixtyEncodesSpec : ChangeSpec := { name := "sixtyEncodes", fn := fun _ => fun
  | [d] => { results := [.lit (.bool true)], args := [d] }
  | _ => none }
def sixtyEncodesRow : OpenClaim := { program := "ythogbbigglmapaa", sum := "1ec224065e811dc6eb3ac7dc427c750950581b40d28e42925b7b8932f310f0b6", func := "wringer/wringerlaw26.SixtyEncodes", spec := "sixtyEncodes", apart := false }
def SixtyEncodesSaid : Prop := sixtyEncodesRow.holds Try.pinned (OpenSpec.ofChange sixtyEncodesSpec)

/-- ITS FALSE NEIGHBOUR: 'it returns false'. Refute it at one input. -/
def sixtyEncodesWrong : ChangeSpec := { name := "sixtyEncodes", fn := fun _ => fun
  | [d] => { results := [.lit (.bool false)], args := [d] }
  | _ => none }
def SixtyEncodesWrongFalsely : Prop := sixtyEncodesRow.holds Try.pinned (OpenSpec.ofChange sixtyEncodesWrong)

/-- 'wringerlaw26.SixtyDecodes': WHATEVER THE INPUT: true; the input reads as it did. -/
def sixtyDecodesSpec : ChangeSpec := { name := "sixtyDecodes", fn := fun _ => fun
  | [d] => { results := [.lit (.bool true)], args := [d] }
  | _ => none }
def sixtyDecodesRow : OpenClaim := { program := "ythogbbigglmapaa", sum := "1ec224065e811dc6eb3ac7dc427c750950581b40d28e42925b7b8932f310f0b6", func := "wringer/wringerlaw26.SixtyDecodes", spec := "sixtyDecodes", apart := false }
def SixtyDecodesSaid : Prop := sixtyDecodesRow.holds Try.pinned (OpenSpec.ofChange sixtyDecodesSpec)

/-- ITS FALSE NEIGHBOUR: 'it returns false'. Refute it at one input. -/
def sixtyDecodesWrong : ChangeSpec := { name := "sixtyDecodes", fn := fun _ => fun
  | [d] => { results := [.lit (.bool false)], args := [d] }
  | _ => none }
def SixtyDecodesWrongFalsely : Prop := sixtyDecodesRow.holds Try.pinned (OpenSpec.ofChange sixtyDecodesWrong)

/-- 'wringerlaw26.SixtyBack': WHATEVER THE INPUT: true; the input reads as it did. -/
def sixtyBackSpec : ChangeSpec := { name := "sixtyBack", fn := fun _ => fun
  | [d] => { results := [.lit (.bool true)], args := [d] }
  | _ => none }
def sixtyBackRow : OpenClaim := { program := "ythogbbigglmapaa", sum := "1ec224065e811dc6eb3ac7dc427c750950581b40d28e42925b7b8932f310f0b6", func := "wringer/wringerlaw26.SixtyBack", spec := "sixtyBack", apart := false }
def SixtyBackSaid : Prop := sixtyBackRow.holds Try.pinned (OpenSpec.ofChange sixtyBackSpec)

/-- ITS FALSE NEIGHBOUR: 'it returns false'. Refute it at one input. -/
def sixtyBackWrong : ChangeSpec := { name := "sixtyBack", fn := fun _ => fun
  | [d] => { results := [.lit (.bool false)], args := [d] }
  | _ => none }
def SixtyBackWrongFalsely : Prop := sixtyBackRow.holds Try.pinned (OpenSpec.ofChange sixtyBackWrong)

/-- 'wringerlaw26.SixtyOnly': WHATEVER THE INPUT: true; the input reads as it did. -/
def sixtyOnlySpec : ChangeSpec := { name := "sixtyOnly", fn := fun _ => fun
  | [d] => { results := [.lit (.bool true)], args := [d] }
  | _ => none }
def sixtyOnlyRow : OpenClaim := { program := "ythogbbigglmapaa", sum := "1ec224065e811dc6eb3ac7dc427c750950581b40d28e42925b7b8932f310f0b6", func := "wringer/wringerlaw26.SixtyOnly", spec := "sixtyOnly", apart := false }
def SixtyOnlySaid : Prop := sixtyOnlyRow.holds Try.pinned (OpenSpec.ofChange sixtyOnlySpec)

/-- ITS FALSE NEIGHBOUR: 'it returns false'. Refute it at one input. -/
def sixtyOnlyWrong : ChangeSpec := { name := "sixtyOnly", fn := fun _ => fun
  | [d] => { results := [.lit (.bool false)], args := [d] }
  | _ => none }
def SixtyOnlyWrongFalsely : Prop := sixtyOnlyRow.holds Try.pinned (OpenSpec.ofChange sixtyOnlyWrong)

/-- 'wringerlaw26.SixtyJoins': WHATEVER THE INPUT: true; the input reads as it did. -/
def sixtyJoinsSpec : ChangeSpec := { name := "sixtyJoins", fn := fun _ => fun
  | [d1, d2] => { results := [.lit (.bool true)], args := [d1, d2] }
  | _ => none }
def sixtyJoinsRow : OpenClaim := { program := "ythogbbigglmapaa", sum := "1ec224065e811dc6eb3ac7dc427c750950581b40d28e42925b7b8932f310f0b6", func := "wringer/wringerlaw26.SixtyJoins", spec := "sixtyJoins", apart := false }
def SixtyJoinsSaid : Prop := sixtyJoinsRow.holds Try.pinned (OpenSpec.ofChange sixtyJoinsSpec)

/-- ITS FALSE NEIGHBOUR: 'it returns false'. Refute it at one input. -/
def sixtyJoinsWrong : ChangeSpec := { name := "sixtyJoins", fn := fun _ => fun
  | [d1, d2] => { results := [.lit (.bool false)], args := [d1, d2] }
  | _ => none }
def SixtyJoinsWrongFalsely : Prop := sixtyJoinsRow.holds Try.pinned (OpenSpec.ofChange sixtyJoinsWrong)

/-- 'wringerlaw26.SixtyLengths': WHATEVER THE INPUT: true; the input reads as it did. -/
def sixtyLengthsSpec : ChangeSpec := { name := "sixtyLengths", fn := fun _ => fun
  | [d] => { results := [.lit (.bool true)], args := [d] }
  | _ => none }
def sixtyLengthsRow : OpenClaim := { program := "ythogbbigglmapaa", sum := "1ec224065e811dc6eb3ac7dc427c750950581b40d28e42925b7b8932f310f0b6", func := "wringer/wringerlaw26.SixtyLengths", spec := "sixtyLengths", apart := false }
def SixtyLengthsSaid : Prop := sixtyLengthsRow.holds Try.pinned (OpenSpec.ofChange sixtyLengthsSpec)

/-- ITS FALSE NEIGHBOUR: 'it returns false'. Refute it at one input. -/
def sixtyLengthsWrong : ChangeSpec := { name := "sixtyLengths", fn := fun _ => fun
  | [d] => { results := [.lit (.bool false)], args := [d] }
  | _ => none }
def SixtyLengthsWrongFalsely : Prop := sixtyLengthsRow.holds Try.pinned (OpenSpec.ofChange sixtyLengthsWrong)

/-- 'wringerlaw26.SixtyWrong': WHATEVER THE INPUT: true; the input reads as it did. -/
def sixtyWrongSpec : ChangeSpec := { name := "sixtyWrong", fn := fun _ => fun
  | [d1, d2, d3] => { results := [.lit (.bool true)], args := [d1, d2, d3] }
  | _ => none }
def sixtyWrongRow : OpenClaim := { program := "ythogbbigglmapaa", sum := "1ec224065e811dc6eb3ac7dc427c750950581b40d28e42925b7b8932f310f0b6", func := "wringer/wringerlaw26.SixtyWrong", spec := "sixtyWrong", apart := false }
def SixtyWrongSaid : Prop := sixtyWrongRow.holds Try.pinned (OpenSpec.ofChange sixtyWrongSpec)

/-- ITS FALSE NEIGHBOUR: 'it returns false'. Refute it at one input. -/
def sixtyWrongWrong : ChangeSpec := { name := "sixtyWrong", fn := fun _ => fun
  | [d1, d2, d3] => { results := [.lit (.bool false)], args := [d1, d2, d3] }
  | _ => none }
def SixtyWrongWrongFalsely : Prop := sixtyWrongRow.holds Try.pinned (OpenSpec.ofChange sixtyWrongWrong)

/-- 'wringerlaw26.SixtyOrder': WHATEVER THE INPUT: true; the input reads as it did. -/
def sixtyOrderSpec : ChangeSpec := { name := "sixtyOrder", fn := fun _ => fun
  | [d1, d2] => { results := [.lit (.bool true)], args := [d1, d2] }
  | _ => none }
def sixtyOrderRow : OpenClaim := { program := "ythogbbigglmapaa", sum := "1ec224065e811dc6eb3ac7dc427c750950581b40d28e42925b7b8932f310f0b6", func := "wringer/wringerlaw26.SixtyOrder", spec := "sixtyOrder", apart := false }
def SixtyOrderSaid : Prop := sixtyOrderRow.holds Try.pinned (OpenSpec.ofChange sixtyOrderSpec)

/-- ITS FALSE NEIGHBOUR: 'it returns false'. Refute it at one input. -/
def sixtyOrderWrong : ChangeSpec := { name := "sixtyOrder", fn := fun _ => fun
  | [d1, d2] => { results := [.lit (.bool false)], args := [d1, d2] }
  | _ => none }
def SixtyOrderWrongFalsely : Prop := sixtyOrderRow.holds Try.pinned (OpenSpec.ofChange sixtyOrderWrong)

/-- 'wringerlaw05.ChachaLetters': WHATEVER THE INPUT: true; the input reads as it did. -/
def chachaLettersSpec : ChangeSpec := { name := "chachaLetters", fn := fun _ => fun
  | [d1, d2] => { results := [.lit (.bool true)], args := [d1, d2] }
  | _ => none }
def chachaLettersRow : OpenClaim := { program := "ythogbbigglmapaa", sum := "1ec224065e811dc6eb3ac7dc427c750950581b40d28e42925b7b8932f310f0b6", func := "wringer/wringerlaw05.ChachaLetters", spec := "chachaLetters", unfollowed := true, recurses := true, apart := false }
def ChachaLettersSaid : Prop := chachaLettersRow.holds Try.pinned (OpenSpec.ofChange chachaLettersSpec)

/-- ITS FALSE NEIGHBOUR: 'it returns false'. Refute it at one input. -/
def chachaLettersWrong : ChangeSpec := { name := "chachaLetters", fn := fun _ => fun
  | [d1, d2] => { results := [.lit (.bool false)], args := [d1, d2] }
  | _ => none }
def ChachaLettersWrongFalsely : Prop := chachaLettersRow.holds Try.pinned (OpenSpec.ofChange chachaLettersWrong)

/-- 'wringerlaw05.ChachaMixes': WHATEVER THE INPUT: true; the input reads as it did. -/
def chachaMixesSpec : ChangeSpec := { name := "chachaMixes", fn := fun _ => fun
  | [d1, d2] => { results := [.lit (.bool true)], args := [d1, d2] }
  | _ => none }
def chachaMixesRow : OpenClaim := { program := "ythogbbigglmapaa", sum := "1ec224065e811dc6eb3ac7dc427c750950581b40d28e42925b7b8932f310f0b6", func := "wringer/wringerlaw05.ChachaMixes", spec := "chachaMixes", unfollowed := true, recurses := true, apart := false }
def ChachaMixesSaid : Prop := chachaMixesRow.holds Try.pinned (OpenSpec.ofChange chachaMixesSpec)

/-- ITS FALSE NEIGHBOUR: 'it returns false'. Refute it at one input. -/
def chachaMixesWrong : ChangeSpec := { name := "chachaMixes", fn := fun _ => fun
  | [d1, d2] => { results := [.lit (.bool false)], args := [d1, d2] }
  | _ => none }
def ChachaMixesWrongFalsely : Prop := chachaMixesRow.holds Try.pinned (OpenSpec.ofChange chachaMixesWrong)

/-- 'wringerlaw05.ChachaApart': WHATEVER THE INPUT: true; the input reads as it did. -/
def chachaApartSpec : ChangeSpec := { name := "chachaApart", fn := fun _ => fun
  | [d1, d2, d3] => { results := [.lit (.bool true)], args := [d1, d2, d3] }
  | _ => none }
def chachaApartRow : OpenClaim := { program := "ythogbbigglmapaa", sum := "1ec224065e811dc6eb3ac7dc427c750950581b40d28e42925b7b8932f310f0b6", func := "wringer/wringerlaw05.ChachaApart", spec := "chachaApart", unfollowed := true, recurses := true, apart := false }
def ChachaApartSaid : Prop := chachaApartRow.holds Try.pinned (OpenSpec.ofChange chachaApartSpec)

/-- ITS FALSE NEIGHBOUR: 'it returns false'. Refute it at one input. -/
def chachaApartWrong : ChangeSpec := { name := "chachaApart", fn := fun _ => fun
  | [d1, d2, d3] => { results := [.lit (.bool false)], args := [d1, d2, d3] }
  | _ => none }
def ChachaApartWrongFalsely : Prop := chachaApartRow.holds Try.pinned (OpenSpec.ofChange chachaApartWrong)

/-- 'wringerlaw05.ChachaBlocks': WHATEVER THE INPUT: true; the input reads as it did. -/
def chachaBlocksSpec : ChangeSpec := { name := "chachaBlocks", fn := fun _ => fun
  | [d1, d2, d3] => { results := [.lit (.bool true)], args := [d1, d2, d3] }
  | _ => none }
def chachaBlocksRow : OpenClaim := { program := "ythogbbigglmapaa", sum := "1ec224065e811dc6eb3ac7dc427c750950581b40d28e42925b7b8932f310f0b6", func := "wringer/wringerlaw05.ChachaBlocks", spec := "chachaBlocks", unfollowed := true, recurses := true, apart := false }
def ChachaBlocksSaid : Prop := chachaBlocksRow.holds Try.pinned (OpenSpec.ofChange chachaBlocksSpec)

/-- ITS FALSE NEIGHBOUR: 'it returns false'. Refute it at one input. -/
def chachaBlocksWrong : ChangeSpec := { name := "chachaBlocks", fn := fun _ => fun
  | [d1, d2, d3] => { results := [.lit (.bool false)], args := [d1, d2, d3] }
  | _ => none }
def ChachaBlocksWrongFalsely : Prop := chachaBlocksRow.holds Try.pinned (OpenSpec.ofChange chachaBlocksWrong)

/-- 'wringerlaw05.ChachaHalf': WHATEVER THE INPUT: true; the input reads as it did. -/
def chachaHalfSpec : ChangeSpec := { name := "chachaHalf", fn := fun _ => fun
  | [d1, d2, d3] => { results := [.lit (.bool true)], args := [d1, d2, d3] }
  | _ => none }
def chachaHalfRow : OpenClaim := { program := "ythogbbigglmapaa", sum := "1ec224065e811dc6eb3ac7dc427c750950581b40d28e42925b7b8932f310f0b6", func := "wringer/wringerlaw05.ChachaHalf", spec := "chachaHalf", unfollowed := true, recurses := true, apart := false }
def ChachaHalfSaid : Prop := chachaHalfRow.holds Try.pinned (OpenSpec.ofChange chachaHalfSpec)

/-- ITS FALSE NEIGHBOUR: 'it returns false'. Refute it at one input. -/
def chachaHalfWrong : ChangeSpec := { name := "chachaHalf", fn := fun _ => fun
  | [d1, d2, d3] => { results := [.lit (.bool false)], args := [d1, d2, d3] }
  | _ => none }
def ChachaHalfWrongFalsely : Prop := chachaHalfRow.holds Try.pinned (OpenSpec.ofChange chachaHalfWrong)

/-- 'wringerlaw05.ChachaCrypts': WHATEVER THE INPUT: true; the input reads as it did. -/
def chachaCryptsSpec : ChangeSpec := { name := "chachaCrypts", fn := fun _ => fun
  | [d] => { results := [.lit (.bool true)], args := [d] }
  | _ => none }
def chachaCryptsRow : OpenClaim := { program := "ythogbbigglmapaa", sum := "1ec224065e811dc6eb3ac7dc427c750950581b40d28e42925b7b8932f310f0b6", func := "wringer/wringerlaw05.ChachaCrypts", spec := "chachaCrypts", unfollowed := true, recurses := true, apart := false }
def ChachaCryptsSaid : Prop := chachaCryptsRow.holds Try.pinned (OpenSpec.ofChange chachaCryptsSpec)

/-- ITS FALSE NEIGHBOUR: 'it returns false'. Refute it at one input. -/
def chachaCryptsWrong : ChangeSpec := { name := "chachaCrypts", fn := fun _ => fun
  | [d] => { results := [.lit (.bool false)], args := [d] }
  | _ => none }
def ChachaCryptsWrongFalsely : Prop := chachaCryptsRow.holds Try.pinned (OpenSpec.ofChange chachaCryptsWrong)

/-- 'wringerlaw05.ChachaBack': WHATEVER THE INPUT: true; the input reads as it did. -/
def chachaBackSpec : ChangeSpec := { name := "chachaBack", fn := fun _ => fun
  | [d] => { results := [.lit (.bool true)], args := [d] }
  | _ => none }
def chachaBackRow : OpenClaim := { program := "ythogbbigglmapaa", sum := "1ec224065e811dc6eb3ac7dc427c750950581b40d28e42925b7b8932f310f0b6", func := "wringer/wringerlaw05.ChachaBack", spec := "chachaBack", unfollowed := true, recurses := true, apart := false }
def ChachaBackSaid : Prop := chachaBackRow.holds Try.pinned (OpenSpec.ofChange chachaBackSpec)

/-- ITS FALSE NEIGHBOUR: 'it returns false'. Refute it at one input. -/
def chachaBackWrong : ChangeSpec := { name := "chachaBack", fn := fun _ => fun
  | [d] => { results := [.lit (.bool false)], args := [d] }
  | _ => none }
def ChachaBackWrongFalsely : Prop := chachaBackRow.holds Try.pinned (OpenSpec.ofChange chachaBackWrong)

/-- 'wringerlaw05.ChachaRows': WHATEVER THE INPUT: true; the input reads as it did. -/
def chachaRowsSpec : ChangeSpec := { name := "chachaRows", fn := fun _ => fun
  | [d1, d2, d3] => { results := [.lit (.bool true)], args := [d1, d2, d3] }
  | _ => none }
def chachaRowsRow : OpenClaim := { program := "ythogbbigglmapaa", sum := "1ec224065e811dc6eb3ac7dc427c750950581b40d28e42925b7b8932f310f0b6", func := "wringer/wringerlaw05.ChachaRows", spec := "chachaRows", unfollowed := true, recurses := true, apart := false }
def ChachaRowsSaid : Prop := chachaRowsRow.holds Try.pinned (OpenSpec.ofChange chachaRowsSpec)

/-- ITS FALSE NEIGHBOUR: 'it returns false'. Refute it at one input. -/
def chachaRowsWrong : ChangeSpec := { name := "chachaRows", fn := fun _ => fun
  | [d1, d2, d3] => { results := [.lit (.bool false)], args := [d1, d2, d3] }
  | _ => none }
def ChachaRowsWrongFalsely : Prop := chachaRowsRow.holds Try.pinned (OpenSpec.ofChange chachaRowsWrong)

/-- 'wringerlaw05.ChachaStream': WHATEVER THE INPUT: true; the input reads as it did. -/
def chachaStreamSpec : ChangeSpec := { name := "chachaStream", fn := fun _ => fun
  | [d] => { results := [.lit (.bool true)], args := [d] }
  | _ => none }
def chachaStreamRow : OpenClaim := { program := "ythogbbigglmapaa", sum := "1ec224065e811dc6eb3ac7dc427c750950581b40d28e42925b7b8932f310f0b6", func := "wringer/wringerlaw05.ChachaStream", spec := "chachaStream", unfollowed := true, recurses := true, apart := false }
def ChachaStreamSaid : Prop := chachaStreamRow.holds Try.pinned (OpenSpec.ofChange chachaStreamSpec)

/-- ITS FALSE NEIGHBOUR: 'it returns false'. Refute it at one input. -/
def chachaStreamWrong : ChangeSpec := { name := "chachaStream", fn := fun _ => fun
  | [d] => { results := [.lit (.bool false)], args := [d] }
  | _ => none }
def ChachaStreamWrongFalsely : Prop := chachaStreamRow.holds Try.pinned (OpenSpec.ofChange chachaStreamWrong)

/- THE SECOND FORM. 'bulk': how many values and letters a reading holds, each counted each time it is reached (what is shared counts as often as it is met; a slice's spare places count too). A statement '..UptoSaid' is the law's where the arguments, and the package variables that the reading takes, are together of bulk at most 1048576: NARROWER than '..Said'. Prove '..Said' where nothing that the law and all that it calls make is longer than what came in: it says more and counts as full. Else prove '..UptoSaid'. A law counts once. -/
mutual
def uptoBulk {H : Type} : DataW H → Nat
  | .lit (.string bytes) => bytes.length + 1
  | .lit _ => 1
  | .nil => 1
  | .ptr d => uptoBulk d + 1
  | .slice elems spare => uptoBulkAll elems + uptoBulkAll spare + 1
  | .agg parts => uptoBulkAll parts + 1
  | .iface _ d => uptoBulk d + 1
  | .map entries => uptoBulkEntries entries + 1
  | .held _ => 1
def uptoBulkAll {H : Type} : List (DataW H) → Nat
  | [] => 0
  | d :: r => uptoBulk d + uptoBulkAll r
def uptoBulkEntries {H : Type} : List (Lit × DataW H) → Nat
  | [] => 0
  | x :: r => uptoBulkEntry x + uptoBulkEntries r
def uptoBulkEntry {H : Type} : Lit × DataW H → Nat
  | (.string bytes, d) => bytes.length + uptoBulk d + 1
  | (_, d) => uptoBulk d + 1
 end
def uptoSmall : (H : Type) → List (DataW H) → Bool := fun _ ds => decide (uptoBulkAll ds ≤ 1048576)
def OpenSpec.upto (s : _root_.Go.ChangeSpec) : _root_.Go.OpenSpec := { _root_.Go.OpenSpec.ofChange s with cond := some uptoSmall }

/-- 'wringerlaw26.SixtyEncodes', WHERE WHAT IT READS IS OF BULK AT MOST 1048576: true; the input reads as it did. -/
def sixtyEncodesUptoRow : OpenClaim := { program := "ythogbbigglmapaa", sum := "1ec224065e811dc6eb3ac7dc427c750950581b40d28e42925b7b8932f310f0b6", func := "wringer/wringerlaw26.SixtyEncodes", spec := "sixtyEncodes", apart := false, narrowed := true }
def SixtyEncodesUptoSaid : Prop := sixtyEncodesUptoRow.holds Try.pinned (OpenSpec.upto sixtyEncodesSpec)

/-- 'wringerlaw26.SixtyDecodes', WHERE WHAT IT READS IS OF BULK AT MOST 1048576: true; the input reads as it did. -/
def sixtyDecodesUptoRow : OpenClaim := { program := "ythogbbigglmapaa", sum := "1ec224065e811dc6eb3ac7dc427c750950581b40d28e42925b7b8932f310f0b6", func := "wringer/wringerlaw26.SixtyDecodes", spec := "sixtyDecodes", apart := false, narrowed := true }
def SixtyDecodesUptoSaid : Prop := sixtyDecodesUptoRow.holds Try.pinned (OpenSpec.upto sixtyDecodesSpec)

/-- 'wringerlaw26.SixtyBack', WHERE WHAT IT READS IS OF BULK AT MOST 1048576: true; the input reads as it did. -/
def sixtyBackUptoRow : OpenClaim := { program := "ythogbbigglmapaa", sum := "1ec224065e811dc6eb3ac7dc427c750950581b40d28e42925b7b8932f310f0b6", func := "wringer/wringerlaw26.SixtyBack", spec := "sixtyBack", apart := false, narrowed := true }
def SixtyBackUptoSaid : Prop := sixtyBackUptoRow.holds Try.pinned (OpenSpec.upto sixtyBackSpec)

/-- 'wringerlaw26.SixtyOnly', WHERE WHAT IT READS IS OF BULK AT MOST 1048576: true; the input reads as it did. -/
def sixtyOnlyUptoRow : OpenClaim := { program := "ythogbbigglmapaa", sum := "1ec224065e811dc6eb3ac7dc427c750950581b40d28e42925b7b8932f310f0b6", func := "wringer/wringerlaw26.SixtyOnly", spec := "sixtyOnly", apart := false, narrowed := true }
def SixtyOnlyUptoSaid : Prop := sixtyOnlyUptoRow.holds Try.pinned (OpenSpec.upto sixtyOnlySpec)

/-- 'wringerlaw26.SixtyJoins', WHERE WHAT IT READS IS OF BULK AT MOST 1048576: true; the input reads as it did. -/
def sixtyJoinsUptoRow : OpenClaim := { program := "ythogbbigglmapaa", sum := "1ec224065e811dc6eb3ac7dc427c750950581b40d28e42925b7b8932f310f0b6", func := "wringer/wringerlaw26.SixtyJoins", spec := "sixtyJoins", apart := false, narrowed := true }
def SixtyJoinsUptoSaid : Prop := sixtyJoinsUptoRow.holds Try.pinned (OpenSpec.upto sixtyJoinsSpec)

/-- 'wringerlaw26.SixtyLengths', WHERE WHAT IT READS IS OF BULK AT MOST 1048576: true; the input reads as it did. -/
def sixtyLengthsUptoRow : OpenClaim := { program := "ythogbbigglmapaa", sum := "1ec224065e811dc6eb3ac7dc427c750950581b40d28e42925b7b8932f310f0b6", func := "wringer/wringerlaw26.SixtyLengths", spec := "sixtyLengths", apart := false, narrowed := true }
def SixtyLengthsUptoSaid : Prop := sixtyLengthsUptoRow.holds Try.pinned (OpenSpec.upto sixtyLengthsSpec)

/-- 'wringerlaw26.SixtyWrong', WHERE WHAT IT READS IS OF BULK AT MOST 1048576: true; the input reads as it did. -/
def sixtyWrongUptoRow : OpenClaim := { program := "ythogbbigglmapaa", sum := "1ec224065e811dc6eb3ac7dc427c750950581b40d28e42925b7b8932f310f0b6", func := "wringer/wringerlaw26.SixtyWrong", spec := "sixtyWrong", apart := false, narrowed := true }
def SixtyWrongUptoSaid : Prop := sixtyWrongUptoRow.holds Try.pinned (OpenSpec.upto sixtyWrongSpec)

/-- 'wringerlaw26.SixtyOrder', WHERE WHAT IT READS IS OF BULK AT MOST 1048576: true; the input reads as it did. -/
def sixtyOrderUptoRow : OpenClaim := { program := "ythogbbigglmapaa", sum := "1ec224065e811dc6eb3ac7dc427c750950581b40d28e42925b7b8932f310f0b6", func := "wringer/wringerlaw26.SixtyOrder", spec := "sixtyOrder", apart := false, narrowed := true }
def SixtyOrderUptoSaid : Prop := sixtyOrderUptoRow.holds Try.pinned (OpenSpec.upto sixtyOrderSpec)

/-- 'wringerlaw05.ChachaLetters', WHERE WHAT IT READS IS OF BULK AT MOST 1048576: true; the input reads as it did. -/
def chachaLettersUptoRow : OpenClaim := { program := "ythogbbigglmapaa", sum := "1ec224065e811dc6eb3ac7dc427c750950581b40d28e42925b7b8932f310f0b6", func := "wringer/wringerlaw05.ChachaLetters", spec := "chachaLetters", unfollowed := true, recurses := true, apart := false, narrowed := true }
def ChachaLettersUptoSaid : Prop := chachaLettersUptoRow.holds Try.pinned (OpenSpec.upto chachaLettersSpec)

/-- 'wringerlaw05.ChachaMixes', WHERE WHAT IT READS IS OF BULK AT MOST 1048576: true; the input reads as it did. -/
def chachaMixesUptoRow : OpenClaim := { program := "ythogbbigglmapaa", sum := "1ec224065e811dc6eb3ac7dc427c750950581b40d28e42925b7b8932f310f0b6", func := "wringer/wringerlaw05.ChachaMixes", spec := "chachaMixes", unfollowed := true, recurses := true, apart := false, narrowed := true }
def ChachaMixesUptoSaid : Prop := chachaMixesUptoRow.holds Try.pinned (OpenSpec.upto chachaMixesSpec)

/-- 'wringerlaw05.ChachaApart', WHERE WHAT IT READS IS OF BULK AT MOST 1048576: true; the input reads as it did. -/
def chachaApartUptoRow : OpenClaim := { program := "ythogbbigglmapaa", sum := "1ec224065e811dc6eb3ac7dc427c750950581b40d28e42925b7b8932f310f0b6", func := "wringer/wringerlaw05.ChachaApart", spec := "chachaApart", unfollowed := true, recurses := true, apart := false, narrowed := true }
def ChachaApartUptoSaid : Prop := chachaApartUptoRow.holds Try.pinned (OpenSpec.upto chachaApartSpec)

/-- 'wringerlaw05.ChachaBlocks', WHERE WHAT IT READS IS OF BULK AT MOST 1048576: true; the input reads as it did. -/
def chachaBlocksUptoRow : OpenClaim := { program := "ythogbbigglmapaa", sum := "1ec224065e811dc6eb3ac7dc427c750950581b40d28e42925b7b8932f310f0b6", func := "wringer/wringerlaw05.ChachaBlocks", spec := "chachaBlocks", unfollowed := true, recurses := true, apart := false, narrowed := true }
def ChachaBlocksUptoSaid : Prop := chachaBlocksUptoRow.holds Try.pinned (OpenSpec.upto chachaBlocksSpec)

/-- 'wringerlaw05.ChachaHalf', WHERE WHAT IT READS IS OF BULK AT MOST 1048576: true; the input reads as it did. -/
def chachaHalfUptoRow : OpenClaim := { program := "ythogbbigglmapaa", sum := "1ec224065e811dc6eb3ac7dc427c750950581b40d28e42925b7b8932f310f0b6", func := "wringer/wringerlaw05.ChachaHalf", spec := "chachaHalf", unfollowed := true, recurses := true, apart := false, narrowed := true }
def ChachaHalfUptoSaid : Prop := chachaHalfUptoRow.holds Try.pinned (OpenSpec.upto chachaHalfSpec)

/-- 'wringerlaw05.ChachaCrypts', WHERE WHAT IT READS IS OF BULK AT MOST 1048576: true; the input reads as it did. -/
def chachaCryptsUptoRow : OpenClaim := { program := "ythogbbigglmapaa", sum := "1ec224065e811dc6eb3ac7dc427c750950581b40d28e42925b7b8932f310f0b6", func := "wringer/wringerlaw05.ChachaCrypts", spec := "chachaCrypts", unfollowed := true, recurses := true, apart := false, narrowed := true }
def ChachaCryptsUptoSaid : Prop := chachaCryptsUptoRow.holds Try.pinned (OpenSpec.upto chachaCryptsSpec)

/-- 'wringerlaw05.ChachaBack', WHERE WHAT IT READS IS OF BULK AT MOST 1048576: true; the input reads as it did. -/
def chachaBackUptoRow : OpenClaim := { program := "ythogbbigglmapaa", sum := "1ec224065e811dc6eb3ac7dc427c750950581b40d28e42925b7b8932f310f0b6", func := "wringer/wringerlaw05.ChachaBack", spec := "chachaBack", unfollowed := true, recurses := true, apart := false, narrowed := true }
def ChachaBackUptoSaid : Prop := chachaBackUptoRow.holds Try.pinned (OpenSpec.upto chachaBackSpec)

/-- 'wringerlaw05.ChachaRows', WHERE WHAT IT READS IS OF BULK AT MOST 1048576: true; the input reads as it did. -/
def chachaRowsUptoRow : OpenClaim := { program := "ythogbbigglmapaa", sum := "1ec224065e811dc6eb3ac7dc427c750950581b40d28e42925b7b8932f310f0b6", func := "wringer/wringerlaw05.ChachaRows", spec := "chachaRows", unfollowed := true, recurses := true, apart := false, narrowed := true }
def ChachaRowsUptoSaid : Prop := chachaRowsUptoRow.holds Try.pinned (OpenSpec.upto chachaRowsSpec)

/-- 'wringerlaw05.ChachaStream', WHERE WHAT IT READS IS OF BULK AT MOST 1048576: true; the input reads as it did. -/
def chachaStreamUptoRow : OpenClaim := { program := "ythogbbigglmapaa", sum := "1ec224065e811dc6eb3ac7dc427c750950581b40d28e42925b7b8932f310f0b6", func := "wringer/wringerlaw05.ChachaStream", spec := "chachaStream", unfollowed := true, recurses := true, apart := false, narrowed := true }
def ChachaStreamUptoSaid : Prop := chachaStreamUptoRow.holds Try.pinned (OpenSpec.upto chachaStreamSpec)

end Rows
end Go.Proofs.Ythogbbigglmapaa
