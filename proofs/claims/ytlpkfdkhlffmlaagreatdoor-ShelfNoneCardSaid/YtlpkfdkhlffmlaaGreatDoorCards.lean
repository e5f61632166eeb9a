/-
  DERIVED. GIVEN WITH THE SEED: THE CARDS: each row of YtlpkfdkhlffmlaaGreatDoorRows.lean that lists a variable, with what it lists TIED to the program's text (the seventh form; the later family's looks); each row that meets fmt, with fmt's text TOLD by the authors' own Lean function (tested against real Go, not proved from fmt's source: count such statements apart). THE CARD IS WHAT COUNTS. Prove the row's statement (the work); the ties are given (YtlpkfdkhlffmlaaGreatDoorTie.lean); close each card by the builder's one call (the guide's Derived/Test/ToyasCard.lean, 'card_holds'). Laid BY PROGRAM, IN A SANDBOX (cutbox-door.mjs). By AI agents, Wed Nov 11 2026. No macro, syntax, notation, axiom, sorry.
-/
import Derived.Test.YtlpkfdkhlffmlaaGreatDoorRows
import GoSem.ClaimSeven
namespace Go.Proofs.YtlpkfdkhlffmlaaGreatDoor
namespace Rows

/-- THE TIED CARD OF 'wringerlaw28.ShelfNone'. -/
def shelfNoneCard : Claim7 := { stood := { row := shelfNoneRow, standIns := [], harness := (true, "09a7d6a3aed90784084d2a4805d1ccf469fc69f514e3e7ed0a7301998fd696f4"), looks := true }, kinds := [], alts := [], laidByText := true, laidKinds := [.data, .data, .data, .data], laidTests := true, laidLooks := .later }
def ShelfNoneCardSaid : Prop := Claim7.holds Tryz.pinned (.plain (OpenSpec.ofChange shelfNoneSpec)) shelfNoneCard

/-- THE SECOND FORM's CARD OF 'wringerlaw28.ShelfNone'. -/
def shelfNoneUptoCard : Claim7 := { stood := { row := shelfNoneUptoRow, standIns := [], harness := (true, "09a7d6a3aed90784084d2a4805d1ccf469fc69f514e3e7ed0a7301998fd696f4"), looks := true }, kinds := [], alts := [], laidByText := true, laidKinds := [.data, .data, .data, .data], laidTests := true, laidLooks := .later }
def ShelfNoneUptoCardSaid : Prop := Claim7.holds Tryz.pinned (.plain (OpenSpec.upto shelfNoneSpec)) shelfNoneUptoCard
end Rows
end Go.Proofs.YtlpkfdkhlffmlaaGreatDoor
