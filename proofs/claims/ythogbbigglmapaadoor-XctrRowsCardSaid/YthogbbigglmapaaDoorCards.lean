/-
  DERIVED. GIVEN WITH THE SEED: THE CARDS: each row of YthogbbigglmapaaDoorRows.lean that lists a variable, with what it lists TIED to the program's text (the seventh form; the later family's looks); each row that meets fmt, with fmt's text TOLD by the authors' own Lean function (tested against real Go, not proved from fmt's source: count such statements apart). THE CARD IS WHAT COUNTS. Prove the row's statement (the work); the ties are given (YthogbbigglmapaaDoorTie.lean); close each card by the builder's one call (the guide's Derived/Test/ToyasCard.lean, 'card_holds'). Laid BY PROGRAM, IN A SANDBOX (cutbox-door.mjs). By AI agents, Wed Nov 11 2026. No macro, syntax, notation, axiom, sorry.
-/
import Derived.Test.YthogbbigglmapaaDoorRows
import GoSem.ClaimSeven
namespace Go.Proofs.YthogbbigglmapaaDoor
namespace Rows

/-- THE TIED CARD OF 'wringerlaw04.AesApart'. -/
def aesApartCard : Claim7 := { stood := { row := aesApartRow, standIns := [], harness := (true, "8feb4873331593840afecdc3ad681110925fea8a6e22377c14c842518e5425d9"), looks := false }, kinds := [], alts := [], laidByText := true, laidKinds := [.data, .data], laidTests := true, laidLooks := .later }
def AesApartCardSaid : Prop := Claim7.holds Tryd.pinned (.plain (OpenSpec.ofChange aesApartSpec)) aesApartCard

/-- THE TIED CARD OF 'wringerlaw04.AesSchedules'. -/
def aesSchedulesCard : Claim7 := { stood := { row := aesSchedulesRow, standIns := [], harness := (true, "8feb4873331593840afecdc3ad681110925fea8a6e22377c14c842518e5425d9"), looks := false }, kinds := [], alts := [], laidByText := true, laidKinds := [.data, .data], laidTests := true, laidLooks := .later }
def AesSchedulesCardSaid : Prop := Claim7.holds Tryd.pinned (.plain (OpenSpec.ofChange aesSchedulesSpec)) aesSchedulesCard

/-- THE TIED CARD OF 'wringerlaw04.AesMade'. -/
def aesMadeCard : Claim7 := { stood := { row := aesMadeRow, standIns := [], harness := (true, "8feb4873331593840afecdc3ad681110925fea8a6e22377c14c842518e5425d9"), looks := false }, kinds := [], alts := [], laidByText := true, laidKinds := [.data, .data], laidTests := true, laidLooks := .later }
def AesMadeCardSaid : Prop := Claim7.holds Tryd.pinned (.plain (OpenSpec.ofChange aesMadeSpec)) aesMadeCard

/-- THE TIED CARD OF 'wringerlaw04.AesFirst'. -/
def aesFirstCard : Claim7 := { stood := { row := aesFirstRow, standIns := [], harness := (true, "8feb4873331593840afecdc3ad681110925fea8a6e22377c14c842518e5425d9"), looks := false }, kinds := [], alts := [], laidByText := true, laidKinds := [.data, .data], laidTests := true, laidLooks := .later }
def AesFirstCardSaid : Prop := Claim7.holds Tryd.pinned (.plain (OpenSpec.ofChange aesFirstSpec)) aesFirstCard

/-- THE TIED CARD OF 'wringerlaw04.AesWords'. -/
def aesWordsCard : Claim7 := { stood := { row := aesWordsRow, standIns := [], harness := (true, "8feb4873331593840afecdc3ad681110925fea8a6e22377c14c842518e5425d9"), looks := false }, kinds := [], alts := [], laidByText := true, laidKinds := [.data, .data], laidTests := true, laidLooks := .later }
def AesWordsCardSaid : Prop := Claim7.holds Tryd.pinned (.plain (OpenSpec.ofChange aesWordsSpec)) aesWordsCard

/-- THE TIED CARD OF 'wringerlaw13.XctrBlocks'. -/
def xctrBlocksCard : Claim7 := { stood := { row := xctrBlocksRow, standIns := [], harness := (true, "8feb4873331593840afecdc3ad681110925fea8a6e22377c14c842518e5425d9"), looks := false }, kinds := [], alts := [], laidByText := true, laidKinds := [.data, .data], laidTests := true, laidLooks := .later }
def XctrBlocksCardSaid : Prop := Claim7.holds Tryd.pinned (.plain (OpenSpec.ofChange xctrBlocksSpec)) xctrBlocksCard

/-- THE TIED CARD OF 'wringerlaw13.XctrApart'. -/
def xctrApartCard : Claim7 := { stood := { row := xctrApartRow, standIns := [], harness := (true, "8feb4873331593840afecdc3ad681110925fea8a6e22377c14c842518e5425d9"), looks := false }, kinds := [], alts := [], laidByText := true, laidKinds := [.data, .data], laidTests := true, laidLooks := .later }
def XctrApartCardSaid : Prop := Claim7.holds Tryd.pinned (.plain (OpenSpec.ofChange xctrApartSpec)) xctrApartCard

/-- THE TIED CARD OF 'wringerlaw13.XctrCrypts'. -/
def xctrCryptsCard : Claim7 := { stood := { row := xctrCryptsRow, standIns := [], harness := (true, "8feb4873331593840afecdc3ad681110925fea8a6e22377c14c842518e5425d9"), looks := false }, kinds := [], alts := [], laidByText := true, laidKinds := [.data, .data], laidTests := true, laidLooks := .later }
def XctrCryptsCardSaid : Prop := Claim7.holds Tryd.pinned (.plain (OpenSpec.ofChange xctrCryptsSpec)) xctrCryptsCard

/-- THE TIED CARD OF 'wringerlaw13.XctrBack'. -/
def xctrBackCard : Claim7 := { stood := { row := xctrBackRow, standIns := [], harness := (true, "8feb4873331593840afecdc3ad681110925fea8a6e22377c14c842518e5425d9"), looks := false }, kinds := [], alts := [], laidByText := true, laidKinds := [.data, .data], laidTests := true, laidLooks := .later }
def XctrBackCardSaid : Prop := Claim7.holds Tryd.pinned (.plain (OpenSpec.ofChange xctrBackSpec)) xctrBackCard

/-- THE TIED CARD OF 'wringerlaw13.XctrRows'. -/
def xctrRowsCard : Claim7 := { stood := { row := xctrRowsRow, standIns := [], harness := (true, "8feb4873331593840afecdc3ad681110925fea8a6e22377c14c842518e5425d9"), looks := false }, kinds := [], alts := [], laidByText := true, laidKinds := [.data, .data], laidTests := true, laidLooks := .later }
def XctrRowsCardSaid : Prop := Claim7.holds Tryd.pinned (.plain (OpenSpec.ofChange xctrRowsSpec)) xctrRowsCard

/-- THE TIED CARD OF 'wringerlaw13.XctrMade'. -/
def xctrMadeCard : Claim7 := { stood := { row := xctrMadeRow, standIns := [], harness := (true, "8feb4873331593840afecdc3ad681110925fea8a6e22377c14c842518e5425d9"), looks := false }, kinds := [], alts := [], laidByText := true, laidKinds := [.data, .data], laidTests := true, laidLooks := .later }
def XctrMadeCardSaid : Prop := Claim7.holds Tryd.pinned (.plain (OpenSpec.ofChange xctrMadeSpec)) xctrMadeCard

/-- THE TIED CARD OF 'wringerlaw04.AesBlocks'. -/
def aesBlocksCard : Claim7 := { stood := { row := aesBlocksRow, standIns := [], harness := (true, "8feb4873331593840afecdc3ad681110925fea8a6e22377c14c842518e5425d9"), looks := false }, kinds := [], alts := [], laidByText := true, laidKinds := [.data, .data], laidTests := true, laidLooks := .later }
def AesBlocksCardSaid : Prop := Claim7.holds Tryd.pinned (.plain (OpenSpec.ofChange aesBlocksSpec)) aesBlocksCard

/-- THE TIED CARD OF 'wringerlaw04.AesBack'. -/
def aesBackCard : Claim7 := { stood := { row := aesBackRow, standIns := [], harness := (true, "8feb4873331593840afecdc3ad681110925fea8a6e22377c14c842518e5425d9"), looks := false }, kinds := [], alts := [], laidByText := true, laidKinds := [.data, .data], laidTests := true, laidLooks := .later }
def AesBackCardSaid : Prop := Claim7.holds Tryd.pinned (.plain (OpenSpec.ofChange aesBackSpec)) aesBackCard

/-- THE SECOND FORM's CARD OF 'wringerlaw04.AesApart'. -/
def aesApartUptoCard : Claim7 := { stood := { row := aesApartUptoRow, standIns := [], harness := (true, "8feb4873331593840afecdc3ad681110925fea8a6e22377c14c842518e5425d9"), looks := false }, kinds := [], alts := [], laidByText := true, laidKinds := [.data, .data], laidTests := true, laidLooks := .later }
def AesApartUptoCardSaid : Prop := Claim7.holds Tryd.pinned (.plain (OpenSpec.upto aesApartSpec)) aesApartUptoCard

/-- THE SECOND FORM's CARD OF 'wringerlaw04.AesSchedules'. -/
def aesSchedulesUptoCard : Claim7 := { stood := { row := aesSchedulesUptoRow, standIns := [], harness := (true, "8feb4873331593840afecdc3ad681110925fea8a6e22377c14c842518e5425d9"), looks := false }, kinds := [], alts := [], laidByText := true, laidKinds := [.data, .data], laidTests := true, laidLooks := .later }
def AesSchedulesUptoCardSaid : Prop := Claim7.holds Tryd.pinned (.plain (OpenSpec.upto aesSchedulesSpec)) aesSchedulesUptoCard

/-- THE SECOND FORM's CARD OF 'wringerlaw04.AesMade'. -/
def aesMadeUptoCard : Claim7 := { stood := { row := aesMadeUptoRow, standIns := [], harness := (true, "8feb4873331593840afecdc3ad681110925fea8a6e22377c14c842518e5425d9"), looks := false }, kinds := [], alts := [], laidByText := true, laidKinds := [.data, .data], laidTests := true, laidLooks := .later }
def AesMadeUptoCardSaid : Prop := Claim7.holds Tryd.pinned (.plain (OpenSpec.upto aesMadeSpec)) aesMadeUptoCard

/-- THE SECOND FORM's CARD OF 'wringerlaw04.AesFirst'. -/
def aesFirstUptoCard : Claim7 := { stood := { row := aesFirstUptoRow, standIns := [], harness := (true, "8feb4873331593840afecdc3ad681110925fea8a6e22377c14c842518e5425d9"), looks := false }, kinds := [], alts := [], laidByText := true, laidKinds := [.data, .data], laidTests := true, laidLooks := .later }
def AesFirstUptoCardSaid : Prop := Claim7.holds Tryd.pinned (.plain (OpenSpec.upto aesFirstSpec)) aesFirstUptoCard

/-- THE SECOND FORM's CARD OF 'wringerlaw04.AesWords'. -/
def aesWordsUptoCard : Claim7 := { stood := { row := aesWordsUptoRow, standIns := [], harness := (true, "8feb4873331593840afecdc3ad681110925fea8a6e22377c14c842518e5425d9"), looks := false }, kinds := [], alts := [], laidByText := true, laidKinds := [.data, .data], laidTests := true, laidLooks := .later }
def AesWordsUptoCardSaid : Prop := Claim7.holds Tryd.pinned (.plain (OpenSpec.upto aesWordsSpec)) aesWordsUptoCard

/-- THE SECOND FORM's CARD OF 'wringerlaw13.XctrBlocks'. -/
def xctrBlocksUptoCard : Claim7 := { stood := { row := xctrBlocksUptoRow, standIns := [], harness := (true, "8feb4873331593840afecdc3ad681110925fea8a6e22377c14c842518e5425d9"), looks := false }, kinds := [], alts := [], laidByText := true, laidKinds := [.data, .data], laidTests := true, laidLooks := .later }
def XctrBlocksUptoCardSaid : Prop := Claim7.holds Tryd.pinned (.plain (OpenSpec.upto xctrBlocksSpec)) xctrBlocksUptoCard

/-- THE SECOND FORM's CARD OF 'wringerlaw13.XctrApart'. -/
def xctrApartUptoCard : Claim7 := { stood := { row := xctrApartUptoRow, standIns := [], harness := (true, "8feb4873331593840afecdc3ad681110925fea8a6e22377c14c842518e5425d9"), looks := false }, kinds := [], alts := [], laidByText := true, laidKinds := [.data, .data], laidTests := true, laidLooks := .later }
def XctrApartUptoCardSaid : Prop := Claim7.holds Tryd.pinned (.plain (OpenSpec.upto xctrApartSpec)) xctrApartUptoCard

/-- THE SECOND FORM's CARD OF 'wringerlaw13.XctrCrypts'. -/
def xctrCryptsUptoCard : Claim7 := { stood := { row := xctrCryptsUptoRow, standIns := [], harness := (true, "8feb4873331593840afecdc3ad681110925fea8a6e22377c14c842518e5425d9"), looks := false }, kinds := [], alts := [], laidByText := true, laidKinds := [.data, .data], laidTests := true, laidLooks := .later }
def XctrCryptsUptoCardSaid : Prop := Claim7.holds Tryd.pinned (.plain (OpenSpec.upto xctrCryptsSpec)) xctrCryptsUptoCard

/-- THE SECOND FORM's CARD OF 'wringerlaw13.XctrBack'. -/
def xctrBackUptoCard : Claim7 := { stood := { row := xctrBackUptoRow, standIns := [], harness := (true, "8feb4873331593840afecdc3ad681110925fea8a6e22377c14c842518e5425d9"), looks := false }, kinds := [], alts := [], laidByText := true, laidKinds := [.data, .data], laidTests := true, laidLooks := .later }
def XctrBackUptoCardSaid : Prop := Claim7.holds Tryd.pinned (.plain (OpenSpec.upto xctrBackSpec)) xctrBackUptoCard

/-- THE SECOND FORM's CARD OF 'wringerlaw13.XctrRows'. -/
def xctrRowsUptoCard : Claim7 := { stood := { row := xctrRowsUptoRow, standIns := [], harness := (true, "8feb4873331593840afecdc3ad681110925fea8a6e22377c14c842518e5425d9"), looks := false }, kinds := [], alts := [], laidByText := true, laidKinds := [.data, .data], laidTests := true, laidLooks := .later }
def XctrRowsUptoCardSaid : Prop := Claim7.holds Tryd.pinned (.plain (OpenSpec.upto xctrRowsSpec)) xctrRowsUptoCard

/-- THE SECOND FORM's CARD OF 'wringerlaw13.XctrMade'. -/
def xctrMadeUptoCard : Claim7 := { stood := { row := xctrMadeUptoRow, standIns := [], harness := (true, "8feb4873331593840afecdc3ad681110925fea8a6e22377c14c842518e5425d9"), looks := false }, kinds := [], alts := [], laidByText := true, laidKinds := [.data, .data], laidTests := true, laidLooks := .later }
def XctrMadeUptoCardSaid : Prop := Claim7.holds Tryd.pinned (.plain (OpenSpec.upto xctrMadeSpec)) xctrMadeUptoCard

/-- THE SECOND FORM's CARD OF 'wringerlaw04.AesBlocks'. -/
def aesBlocksUptoCard : Claim7 := { stood := { row := aesBlocksUptoRow, standIns := [], harness := (true, "8feb4873331593840afecdc3ad681110925fea8a6e22377c14c842518e5425d9"), looks := false }, kinds := [], alts := [], laidByText := true, laidKinds := [.data, .data], laidTests := true, laidLooks := .later }
def AesBlocksUptoCardSaid : Prop := Claim7.holds Tryd.pinned (.plain (OpenSpec.upto aesBlocksSpec)) aesBlocksUptoCard

/-- THE SECOND FORM's CARD OF 'wringerlaw04.AesBack'. -/
def aesBackUptoCard : Claim7 := { stood := { row := aesBackUptoRow, standIns := [], harness := (true, "8feb4873331593840afecdc3ad681110925fea8a6e22377c14c842518e5425d9"), looks := false }, kinds := [], alts := [], laidByText := true, laidKinds := [.data, .data], laidTests := true, laidLooks := .later }
def AesBackUptoCardSaid : Prop := Claim7.holds Tryd.pinned (.plain (OpenSpec.upto aesBackSpec)) aesBackUptoCard
end Rows
end Go.Proofs.YthogbbigglmapaaDoor
