/-
  DERIVED. GIVEN WITH THE SEED: THE CARDS: each row of YtpifdkkhdgbcdaaGreatDoorRows.lean that lists a variable, with what it lists TIED to the program's text (the seventh form; the later family's looks); each row that meets fmt, with fmt's text TOLD by the authors' own Lean function (tested against real Go, not proved from fmt's source: count such statements apart). THE CARD IS WHAT COUNTS. Prove the row's statement (the work); the ties are given (YtpifdkkhdgbcdaaGreatDoorTie.lean); close each card by the builder's one call (the guide's Derived/Test/ToyasCard.lean, 'card_holds'). Laid BY PROGRAM, IN A SANDBOX (cutbox-door.mjs). By AI agents, Wed Nov 11 2026. No macro, syntax, notation, axiom, sorry.
-/
import Derived.Test.YtpifdkkhdgbcdaaGreatDoorRows
import GoSem.ClaimSeven
namespace Go.Proofs.YtpifdkkhdgbcdaaGreatDoor
namespace Rows

/-- THE TIED CARD OF 'wringerlaw27.NamePads'. -/
def namePadsCard : Claim7 := { stood := { row := namePadsRow, standIns := [], harness := (true, "a672e22342c72e882d86ab7ea24ad22afaea89fe11d16ccc4bfd33ee9793a2fe"), looks := false }, kinds := [], alts := [], laidByText := true, laidKinds := [.data, .data, .data, .data], laidTests := true, laidLooks := .later }
def NamePadsCardSaid : Prop := Claim7.holds Tryz.pinned (.plain (OpenSpec.ofChange namePadsSpec)) namePadsCard

/-- THE TIED CARD OF 'wringerlaw27.NamePlain'. -/
def namePlainCard : Claim7 := { stood := { row := namePlainRow, standIns := [], harness := (true, "a672e22342c72e882d86ab7ea24ad22afaea89fe11d16ccc4bfd33ee9793a2fe"), looks := false }, kinds := [], alts := [], laidByText := true, laidKinds := [.data, .data, .data, .data], laidTests := true, laidLooks := .later }
def NamePlainCardSaid : Prop := Claim7.holds Tryz.pinned (.plain (OpenSpec.ofChange namePlainSpec)) namePlainCard

/-- THE SECOND FORM's CARD OF 'wringerlaw27.NamePads'. -/
def namePadsUptoCard : Claim7 := { stood := { row := namePadsUptoRow, standIns := [], harness := (true, "a672e22342c72e882d86ab7ea24ad22afaea89fe11d16ccc4bfd33ee9793a2fe"), looks := false }, kinds := [], alts := [], laidByText := true, laidKinds := [.data, .data, .data, .data], laidTests := true, laidLooks := .later }
def NamePadsUptoCardSaid : Prop := Claim7.holds Tryz.pinned (.plain (OpenSpec.upto namePadsSpec)) namePadsUptoCard

/-- THE SECOND FORM's CARD OF 'wringerlaw27.NamePlain'. -/
def namePlainUptoCard : Claim7 := { stood := { row := namePlainUptoRow, standIns := [], harness := (true, "a672e22342c72e882d86ab7ea24ad22afaea89fe11d16ccc4bfd33ee9793a2fe"), looks := false }, kinds := [], alts := [], laidByText := true, laidKinds := [.data, .data, .data, .data], laidTests := true, laidLooks := .later }
def NamePlainUptoCardSaid : Prop := Claim7.holds Tryz.pinned (.plain (OpenSpec.upto namePlainSpec)) namePlainUptoCard
end Rows
end Go.Proofs.YtpifdkkhdgbcdaaGreatDoor
