/-
  DERIVED. GIVEN WITH THE SEED: THE CARDS: each row of YtfdkmjegcghieaaGreatDoorRows.lean that lists a variable, with what it lists TIED to the program's text (the seventh form; the later family's looks); each row that meets fmt, with fmt's text TOLD by the authors' own Lean function (tested against real Go, not proved from fmt's source: count such statements apart). THE CARD IS WHAT COUNTS. Prove the row's statement (the work); the ties are given (YtfdkmjegcghieaaGreatDoorTie.lean); close each card by the builder's one call (the guide's Derived/Test/ToyasCard.lean, 'card_holds'). Laid BY PROGRAM, IN A SANDBOX (cutbox-door.mjs). By AI agents, Wed Nov 11 2026. No macro, syntax, notation, axiom, sorry.
-/
import Derived.Test.YtfdkmjegcghieaaGreatDoorRows
import GoSem.ClaimSeven
namespace Go.Proofs.YtfdkmjegcghieaaGreatDoor
namespace Rows

/-- THE TIED CARD OF 'wringerlaw18.HctrEnciphers'. -/
def hctrEnciphersCard : Claim7 := { stood := { row := hctrEnciphersRow, standIns := [], harness := (true, "2b8dd93603230460387a38153704344dd5066727b9d76cd6c85fe25e9cd200ac"), looks := false }, kinds := [], alts := [], laidByText := true, laidKinds := [.data, .data], laidTests := true, laidLooks := .later }
def HctrEnciphersCardSaid : Prop := Claim7.holds Tryz.pinned (.plain (OpenSpec.ofChange hctrEnciphersSpec)) hctrEnciphersCard

/-- THE TIED CARD OF 'wringerlaw17.AdiantumEnciphers'. -/
def adiantumEnciphersCard : Claim7 := { stood := { row := adiantumEnciphersRow, standIns := [], harness := (true, "2b8dd93603230460387a38153704344dd5066727b9d76cd6c85fe25e9cd200ac"), looks := false }, kinds := [], alts := [], laidByText := true, laidKinds := [.data, .data], laidTests := true, laidLooks := .later }
def AdiantumEnciphersCardSaid : Prop := Claim7.holds Tryz.pinned (.plain (OpenSpec.ofChange adiantumEnciphersSpec)) adiantumEnciphersCard

/-- THE SECOND FORM's CARD OF 'wringerlaw18.HctrEnciphers'. -/
def hctrEnciphersUptoCard : Claim7 := { stood := { row := hctrEnciphersUptoRow, standIns := [], harness := (true, "2b8dd93603230460387a38153704344dd5066727b9d76cd6c85fe25e9cd200ac"), looks := false }, kinds := [], alts := [], laidByText := true, laidKinds := [.data, .data], laidTests := true, laidLooks := .later }
def HctrEnciphersUptoCardSaid : Prop := Claim7.holds Tryz.pinned (.plain (OpenSpec.upto hctrEnciphersSpec)) hctrEnciphersUptoCard

/-- THE SECOND FORM's CARD OF 'wringerlaw17.AdiantumEnciphers'. -/
def adiantumEnciphersUptoCard : Claim7 := { stood := { row := adiantumEnciphersUptoRow, standIns := [], harness := (true, "2b8dd93603230460387a38153704344dd5066727b9d76cd6c85fe25e9cd200ac"), looks := false }, kinds := [], alts := [], laidByText := true, laidKinds := [.data, .data], laidTests := true, laidLooks := .later }
def AdiantumEnciphersUptoCardSaid : Prop := Claim7.holds Tryz.pinned (.plain (OpenSpec.upto adiantumEnciphersSpec)) adiantumEnciphersUptoCard
end Rows
end Go.Proofs.YtfdkmjegcghieaaGreatDoor
