/-
  DERIVED. GIVEN WITH THE SEED: THE CARDS: each row of YtddkbkbpogcffaaGreatDoorRows.lean that lists a variable, with what it lists TIED to the program's text (the seventh form; the later family's looks); each row that meets fmt, with fmt's text TOLD by the authors' own Lean function (tested against real Go, not proved from fmt's source: count such statements apart). THE CARD IS WHAT COUNTS. Prove the row's statement (the work); the ties are given (YtddkbkbpogcffaaGreatDoorTie.lean); close each card by the builder's one call (the guide's Derived/Test/ToyasCard.lean, 'card_holds'). Laid BY PROGRAM, IN A SANDBOX (cutbox-door.mjs). By AI agents, Wed Nov 11 2026. No macro, syntax, notation, axiom, sorry.
-/
import Derived.Test.YtddkbkbpogcffaaGreatDoorRows
import GoSem.ClaimSeven
namespace Go.Proofs.YtddkbkbpogcffaaGreatDoor
namespace Rows

/-- THE TIED CARD OF 'wringerlaw27.NameEncrypts'. -/
def nameEncryptsCard : Claim7 := { stood := { row := nameEncryptsRow, standIns := [], harness := (true, "3cd8f37b4c65eda0dc3461789d8584269848574cb663eb6e7ee7d38c8c5f376a"), looks := false }, kinds := [], alts := [], laidByText := true, laidKinds := [.data, .data, .data, .data], laidTests := true, laidLooks := .later }
def NameEncryptsCardSaid : Prop := Claim7.holds Tryz.pinned (.plain (OpenSpec.ofChange nameEncryptsSpec)) nameEncryptsCard

/-- THE TIED CARD OF 'wringerlaw27.NameApart'. -/
def nameApartCard : Claim7 := { stood := { row := nameApartRow, standIns := [], harness := (true, "3cd8f37b4c65eda0dc3461789d8584269848574cb663eb6e7ee7d38c8c5f376a"), looks := false }, kinds := [], alts := [], laidByText := true, laidKinds := [.data, .data, .data, .data], laidTests := true, laidLooks := .later }
def NameApartCardSaid : Prop := Claim7.holds Tryz.pinned (.plain (OpenSpec.ofChange nameApartSpec)) nameApartCard

/-- THE TIED CARD OF 'wringerlaw27.NameLengths'. -/
def nameLengthsCard : Claim7 := { stood := { row := nameLengthsRow, standIns := [], harness := (true, "3cd8f37b4c65eda0dc3461789d8584269848574cb663eb6e7ee7d38c8c5f376a"), looks := false }, kinds := [], alts := [], laidByText := true, laidKinds := [.data, .data, .data, .data], laidTests := true, laidLooks := .later }
def NameLengthsCardSaid : Prop := Claim7.holds Tryz.pinned (.plain (OpenSpec.ofChange nameLengthsSpec)) nameLengthsCard

/-- THE TIED CARD OF 'wringerlaw27.NameDecrypts'. -/
def nameDecryptsCard : Claim7 := { stood := { row := nameDecryptsRow, standIns := [], harness := (true, "3cd8f37b4c65eda0dc3461789d8584269848574cb663eb6e7ee7d38c8c5f376a"), looks := false }, kinds := [], alts := [], laidByText := true, laidKinds := [.data, .data, .data, .data], laidTests := true, laidLooks := .later }
def NameDecryptsCardSaid : Prop := Claim7.holds Tryz.pinned (.plain (OpenSpec.ofChange nameDecryptsSpec)) nameDecryptsCard

/-- THE TIED CARD OF 'wringerlaw27.NameBack'. -/
def nameBackCard : Claim7 := { stood := { row := nameBackRow, standIns := [], harness := (true, "3cd8f37b4c65eda0dc3461789d8584269848574cb663eb6e7ee7d38c8c5f376a"), looks := false }, kinds := [], alts := [], laidByText := true, laidKinds := [.data, .data, .data, .data], laidTests := true, laidLooks := .later }
def NameBackCardSaid : Prop := Claim7.holds Tryz.pinned (.plain (OpenSpec.ofChange nameBackSpec)) nameBackCard

/-- THE TIED CARD OF 'wringerlaw27.NameOnly'. -/
def nameOnlyCard : Claim7 := { stood := { row := nameOnlyRow, standIns := [], harness := (true, "3cd8f37b4c65eda0dc3461789d8584269848574cb663eb6e7ee7d38c8c5f376a"), looks := false }, kinds := [], alts := [], laidByText := true, laidKinds := [.data, .data, .data, .data], laidTests := true, laidLooks := .later }
def NameOnlyCardSaid : Prop := Claim7.holds Tryz.pinned (.plain (OpenSpec.ofChange nameOnlySpec)) nameOnlyCard

/-- THE SECOND FORM's CARD OF 'wringerlaw27.NameEncrypts'. -/
def nameEncryptsUptoCard : Claim7 := { stood := { row := nameEncryptsUptoRow, standIns := [], harness := (true, "3cd8f37b4c65eda0dc3461789d8584269848574cb663eb6e7ee7d38c8c5f376a"), looks := false }, kinds := [], alts := [], laidByText := true, laidKinds := [.data, .data, .data, .data], laidTests := true, laidLooks := .later }
def NameEncryptsUptoCardSaid : Prop := Claim7.holds Tryz.pinned (.plain (OpenSpec.upto nameEncryptsSpec)) nameEncryptsUptoCard

/-- THE SECOND FORM's CARD OF 'wringerlaw27.NameApart'. -/
def nameApartUptoCard : Claim7 := { stood := { row := nameApartUptoRow, standIns := [], harness := (true, "3cd8f37b4c65eda0dc3461789d8584269848574cb663eb6e7ee7d38c8c5f376a"), looks := false }, kinds := [], alts := [], laidByText := true, laidKinds := [.data, .data, .data, .data], laidTests := true, laidLooks := .later }
def NameApartUptoCardSaid : Prop := Claim7.holds Tryz.pinned (.plain (OpenSpec.upto nameApartSpec)) nameApartUptoCard

/-- THE SECOND FORM's CARD OF 'wringerlaw27.NameLengths'. -/
def nameLengthsUptoCard : Claim7 := { stood := { row := nameLengthsUptoRow, standIns := [], harness := (true, "3cd8f37b4c65eda0dc3461789d8584269848574cb663eb6e7ee7d38c8c5f376a"), looks := false }, kinds := [], alts := [], laidByText := true, laidKinds := [.data, .data, .data, .data], laidTests := true, laidLooks := .later }
def NameLengthsUptoCardSaid : Prop := Claim7.holds Tryz.pinned (.plain (OpenSpec.upto nameLengthsSpec)) nameLengthsUptoCard

/-- THE SECOND FORM's CARD OF 'wringerlaw27.NameDecrypts'. -/
def nameDecryptsUptoCard : Claim7 := { stood := { row := nameDecryptsUptoRow, standIns := [], harness := (true, "3cd8f37b4c65eda0dc3461789d8584269848574cb663eb6e7ee7d38c8c5f376a"), looks := false }, kinds := [], alts := [], laidByText := true, laidKinds := [.data, .data, .data, .data], laidTests := true, laidLooks := .later }
def NameDecryptsUptoCardSaid : Prop := Claim7.holds Tryz.pinned (.plain (OpenSpec.upto nameDecryptsSpec)) nameDecryptsUptoCard

/-- THE SECOND FORM's CARD OF 'wringerlaw27.NameBack'. -/
def nameBackUptoCard : Claim7 := { stood := { row := nameBackUptoRow, standIns := [], harness := (true, "3cd8f37b4c65eda0dc3461789d8584269848574cb663eb6e7ee7d38c8c5f376a"), looks := false }, kinds := [], alts := [], laidByText := true, laidKinds := [.data, .data, .data, .data], laidTests := true, laidLooks := .later }
def NameBackUptoCardSaid : Prop := Claim7.holds Tryz.pinned (.plain (OpenSpec.upto nameBackSpec)) nameBackUptoCard

/-- THE SECOND FORM's CARD OF 'wringerlaw27.NameOnly'. -/
def nameOnlyUptoCard : Claim7 := { stood := { row := nameOnlyUptoRow, standIns := [], harness := (true, "3cd8f37b4c65eda0dc3461789d8584269848574cb663eb6e7ee7d38c8c5f376a"), looks := false }, kinds := [], alts := [], laidByText := true, laidKinds := [.data, .data, .data, .data], laidTests := true, laidLooks := .later }
def NameOnlyUptoCardSaid : Prop := Claim7.holds Tryz.pinned (.plain (OpenSpec.upto nameOnlySpec)) nameOnlyUptoCard
end Rows
end Go.Proofs.YtddkbkbpogcffaaGreatDoor
