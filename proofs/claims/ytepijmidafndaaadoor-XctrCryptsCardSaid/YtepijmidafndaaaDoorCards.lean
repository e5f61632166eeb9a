/-
  DERIVED. GIVEN WITH THE SEED: THE CARDS: each row of YtepijmidafndaaaDoorRows.lean that lists a variable, with what it lists TIED to the program's text (the seventh form; the later family's looks); each row that meets fmt, with fmt's text TOLD by the authors' own Lean function (tested against real Go, not proved from fmt's source: count such statements apart). THE CARD IS WHAT COUNTS. Prove the row's statement (the work); the ties are given (YtepijmidafndaaaDoorTie.lean); close each card by the builder's one call (the guide's Derived/Test/ToyasCard.lean, 'card_holds'). Laid BY PROGRAM, IN A SANDBOX (cutbox-door.mjs). By AI agents, Wed Nov 11 2026. No macro, syntax, notation, axiom, sorry.
-/
import Derived.Test.YtepijmidafndaaaDoorRows
import GoSem.ClaimSeven
namespace Go.Proofs.YtepijmidafndaaaDoor
namespace Rows

/-- THE TIED CARD OF 'wringerlaw04.AesSchedules'. -/
def aesSchedulesCard : Claim7 := { stood := { row := aesSchedulesRow, standIns := [], harness := (true, "1981ea11e89213835f33ec7a99c36b96b28e3cf75f1fa28df7355fabe81d9c38"), looks := false }, kinds := [], alts := [], laidByText := true, laidKinds := [.data, .data], laidTests := true, laidLooks := .later }
def AesSchedulesCardSaid : Prop := Claim7.holds Tryd.pinned (.plain (OpenSpec.ofChange aesSchedulesSpec)) aesSchedulesCard

/-- THE TIED CARD OF 'wringerlaw13.XctrBlocks'. -/
def xctrBlocksCard : Claim7 := { stood := { row := xctrBlocksRow, standIns := [], harness := (true, "1981ea11e89213835f33ec7a99c36b96b28e3cf75f1fa28df7355fabe81d9c38"), looks := false }, kinds := [], alts := [], laidByText := true, laidKinds := [.data, .data], laidTests := true, laidLooks := .later }
def XctrBlocksCardSaid : Prop := Claim7.holds Tryd.pinned (.plain (OpenSpec.ofChange xctrBlocksSpec)) xctrBlocksCard

/-- THE TIED CARD OF 'wringerlaw13.XctrApart'. -/
def xctrApartCard : Claim7 := { stood := { row := xctrApartRow, standIns := [], harness := (true, "1981ea11e89213835f33ec7a99c36b96b28e3cf75f1fa28df7355fabe81d9c38"), looks := false }, kinds := [], alts := [], laidByText := true, laidKinds := [.data, .data], laidTests := true, laidLooks := .later }
def XctrApartCardSaid : Prop := Claim7.holds Tryd.pinned (.plain (OpenSpec.ofChange xctrApartSpec)) xctrApartCard

/-- THE TIED CARD OF 'wringerlaw13.XctrCrypts'. -/
def xctrCryptsCard : Claim7 := { stood := { row := xctrCryptsRow, standIns := [], harness := (true, "1981ea11e89213835f33ec7a99c36b96b28e3cf75f1fa28df7355fabe81d9c38"), looks := false }, kinds := [], alts := [], laidByText := true, laidKinds := [.data, .data], laidTests := true, laidLooks := .later }
def XctrCryptsCardSaid : Prop := Claim7.holds Tryd.pinned (.plain (OpenSpec.ofChange xctrCryptsSpec)) xctrCryptsCard

/-- THE TIED CARD OF 'wringerlaw13.XctrMade'. -/
def xctrMadeCard : Claim7 := { stood := { row := xctrMadeRow, standIns := [], harness := (true, "1981ea11e89213835f33ec7a99c36b96b28e3cf75f1fa28df7355fabe81d9c38"), looks := false }, kinds := [], alts := [], laidByText := true, laidKinds := [.data, .data], laidTests := true, laidLooks := .later }
def XctrMadeCardSaid : Prop := Claim7.holds Tryd.pinned (.plain (OpenSpec.ofChange xctrMadeSpec)) xctrMadeCard

/-- THE TIED CARD OF 'wringerlaw04.AesBlocks'. -/
def aesBlocksCard : Claim7 := { stood := { row := aesBlocksRow, standIns := [], harness := (true, "1981ea11e89213835f33ec7a99c36b96b28e3cf75f1fa28df7355fabe81d9c38"), looks := false }, kinds := [], alts := [], laidByText := true, laidKinds := [.data, .data], laidTests := true, laidLooks := .later }
def AesBlocksCardSaid : Prop := Claim7.holds Tryd.pinned (.plain (OpenSpec.ofChange aesBlocksSpec)) aesBlocksCard

/-- THE TIED CARD OF 'wringerlaw18.HctrApart'. -/
def hctrApartCard : Claim7 := { stood := { row := hctrApartRow, standIns := [], harness := (true, "1981ea11e89213835f33ec7a99c36b96b28e3cf75f1fa28df7355fabe81d9c38"), looks := false }, kinds := [], alts := [], laidByText := true, laidKinds := [.data, .data], laidTests := true, laidLooks := .later }
def HctrApartCardSaid : Prop := Claim7.holds Tryd.pinned (.plain (OpenSpec.ofChange hctrApartSpec)) hctrApartCard

/-- THE TIED CARD OF 'wringerlaw18.HctrSteps'. -/
def hctrStepsCard : Claim7 := { stood := { row := hctrStepsRow, standIns := [], harness := (true, "1981ea11e89213835f33ec7a99c36b96b28e3cf75f1fa28df7355fabe81d9c38"), looks := false }, kinds := [], alts := [], laidByText := true, laidKinds := [.data, .data], laidTests := true, laidLooks := .later }
def HctrStepsCardSaid : Prop := Claim7.holds Tryd.pinned (.plain (OpenSpec.ofChange hctrStepsSpec)) hctrStepsCard

/-- THE TIED CARD OF 'wringerlaw18.HctrLeft'. -/
def hctrLeftCard : Claim7 := { stood := { row := hctrLeftRow, standIns := [], harness := (true, "1981ea11e89213835f33ec7a99c36b96b28e3cf75f1fa28df7355fabe81d9c38"), looks := false }, kinds := [], alts := [], laidByText := true, laidKinds := [.data, .data], laidTests := true, laidLooks := .later }
def HctrLeftCardSaid : Prop := Claim7.holds Tryd.pinned (.plain (OpenSpec.ofChange hctrLeftSpec)) hctrLeftCard

/-- THE TIED CARD OF 'wringerlaw18.HctrKeys'. -/
def hctrKeysCard : Claim7 := { stood := { row := hctrKeysRow, standIns := [], harness := (true, "1981ea11e89213835f33ec7a99c36b96b28e3cf75f1fa28df7355fabe81d9c38"), looks := false }, kinds := [], alts := [], laidByText := true, laidKinds := [.data, .data], laidTests := true, laidLooks := .later }
def HctrKeysCardSaid : Prop := Claim7.holds Tryd.pinned (.plain (OpenSpec.ofChange hctrKeysSpec)) hctrKeysCard

/-- THE TIED CARD OF 'wringerlaw18.HctrBack'. -/
def hctrBackCard : Claim7 := { stood := { row := hctrBackRow, standIns := [], harness := (true, "1981ea11e89213835f33ec7a99c36b96b28e3cf75f1fa28df7355fabe81d9c38"), looks := false }, kinds := [], alts := [], laidByText := true, laidKinds := [.data, .data], laidTests := true, laidLooks := .later }
def HctrBackCardSaid : Prop := Claim7.holds Tryd.pinned (.plain (OpenSpec.ofChange hctrBackSpec)) hctrBackCard

/-- THE TIED CARD OF 'wringerlaw17.AdiantumApart'. -/
def adiantumApartCard : Claim7 := { stood := { row := adiantumApartRow, standIns := [], harness := (true, "1981ea11e89213835f33ec7a99c36b96b28e3cf75f1fa28df7355fabe81d9c38"), looks := false }, kinds := [], alts := [], laidByText := true, laidKinds := [.data, .data], laidTests := true, laidLooks := .later }
def AdiantumApartCardSaid : Prop := Claim7.holds Tryd.pinned (.plain (OpenSpec.ofChange adiantumApartSpec)) adiantumApartCard

/-- THE TIED CARD OF 'wringerlaw17.AdiantumSteps'. -/
def adiantumStepsCard : Claim7 := { stood := { row := adiantumStepsRow, standIns := [], harness := (true, "1981ea11e89213835f33ec7a99c36b96b28e3cf75f1fa28df7355fabe81d9c38"), looks := false }, kinds := [], alts := [], laidByText := true, laidKinds := [.data, .data], laidTests := true, laidLooks := .later }
def AdiantumStepsCardSaid : Prop := Claim7.holds Tryd.pinned (.plain (OpenSpec.ofChange adiantumStepsSpec)) adiantumStepsCard

/-- THE TIED CARD OF 'wringerlaw17.AdiantumRight'. -/
def adiantumRightCard : Claim7 := { stood := { row := adiantumRightRow, standIns := [], harness := (true, "1981ea11e89213835f33ec7a99c36b96b28e3cf75f1fa28df7355fabe81d9c38"), looks := false }, kinds := [], alts := [], laidByText := true, laidKinds := [.data, .data], laidTests := true, laidLooks := .later }
def AdiantumRightCardSaid : Prop := Claim7.holds Tryd.pinned (.plain (OpenSpec.ofChange adiantumRightSpec)) adiantumRightCard

/-- THE TIED CARD OF 'wringerlaw17.AdiantumKeys'. -/
def adiantumKeysCard : Claim7 := { stood := { row := adiantumKeysRow, standIns := [], harness := (true, "1981ea11e89213835f33ec7a99c36b96b28e3cf75f1fa28df7355fabe81d9c38"), looks := false }, kinds := [], alts := [], laidByText := true, laidKinds := [.data, .data], laidTests := true, laidLooks := .later }
def AdiantumKeysCardSaid : Prop := Claim7.holds Tryd.pinned (.plain (OpenSpec.ofChange adiantumKeysSpec)) adiantumKeysCard

/-- THE TIED CARD OF 'wringerlaw17.AdiantumBack'. -/
def adiantumBackCard : Claim7 := { stood := { row := adiantumBackRow, standIns := [], harness := (true, "1981ea11e89213835f33ec7a99c36b96b28e3cf75f1fa28df7355fabe81d9c38"), looks := false }, kinds := [], alts := [], laidByText := true, laidKinds := [.data, .data], laidTests := true, laidLooks := .later }
def AdiantumBackCardSaid : Prop := Claim7.holds Tryd.pinned (.plain (OpenSpec.ofChange adiantumBackSpec)) adiantumBackCard

/-- THE SECOND FORM's CARD OF 'wringerlaw04.AesSchedules'. -/
def aesSchedulesUptoCard : Claim7 := { stood := { row := aesSchedulesUptoRow, standIns := [], harness := (true, "1981ea11e89213835f33ec7a99c36b96b28e3cf75f1fa28df7355fabe81d9c38"), looks := false }, kinds := [], alts := [], laidByText := true, laidKinds := [.data, .data], laidTests := true, laidLooks := .later }
def AesSchedulesUptoCardSaid : Prop := Claim7.holds Tryd.pinned (.plain (OpenSpec.upto aesSchedulesSpec)) aesSchedulesUptoCard

/-- THE SECOND FORM's CARD OF 'wringerlaw13.XctrBlocks'. -/
def xctrBlocksUptoCard : Claim7 := { stood := { row := xctrBlocksUptoRow, standIns := [], harness := (true, "1981ea11e89213835f33ec7a99c36b96b28e3cf75f1fa28df7355fabe81d9c38"), looks := false }, kinds := [], alts := [], laidByText := true, laidKinds := [.data, .data], laidTests := true, laidLooks := .later }
def XctrBlocksUptoCardSaid : Prop := Claim7.holds Tryd.pinned (.plain (OpenSpec.upto xctrBlocksSpec)) xctrBlocksUptoCard

/-- THE SECOND FORM's CARD OF 'wringerlaw13.XctrApart'. -/
def xctrApartUptoCard : Claim7 := { stood := { row := xctrApartUptoRow, standIns := [], harness := (true, "1981ea11e89213835f33ec7a99c36b96b28e3cf75f1fa28df7355fabe81d9c38"), looks := false }, kinds := [], alts := [], laidByText := true, laidKinds := [.data, .data], laidTests := true, laidLooks := .later }
def XctrApartUptoCardSaid : Prop := Claim7.holds Tryd.pinned (.plain (OpenSpec.upto xctrApartSpec)) xctrApartUptoCard

/-- THE SECOND FORM's CARD OF 'wringerlaw13.XctrCrypts'. -/
def xctrCryptsUptoCard : Claim7 := { stood := { row := xctrCryptsUptoRow, standIns := [], harness := (true, "1981ea11e89213835f33ec7a99c36b96b28e3cf75f1fa28df7355fabe81d9c38"), looks := false }, kinds := [], alts := [], laidByText := true, laidKinds := [.data, .data], laidTests := true, laidLooks := .later }
def XctrCryptsUptoCardSaid : Prop := Claim7.holds Tryd.pinned (.plain (OpenSpec.upto xctrCryptsSpec)) xctrCryptsUptoCard

/-- THE SECOND FORM's CARD OF 'wringerlaw13.XctrMade'. -/
def xctrMadeUptoCard : Claim7 := { stood := { row := xctrMadeUptoRow, standIns := [], harness := (true, "1981ea11e89213835f33ec7a99c36b96b28e3cf75f1fa28df7355fabe81d9c38"), looks := false }, kinds := [], alts := [], laidByText := true, laidKinds := [.data, .data], laidTests := true, laidLooks := .later }
def XctrMadeUptoCardSaid : Prop := Claim7.holds Tryd.pinned (.plain (OpenSpec.upto xctrMadeSpec)) xctrMadeUptoCard

/-- THE SECOND FORM's CARD OF 'wringerlaw04.AesBlocks'. -/
def aesBlocksUptoCard : Claim7 := { stood := { row := aesBlocksUptoRow, standIns := [], harness := (true, "1981ea11e89213835f33ec7a99c36b96b28e3cf75f1fa28df7355fabe81d9c38"), looks := false }, kinds := [], alts := [], laidByText := true, laidKinds := [.data, .data], laidTests := true, laidLooks := .later }
def AesBlocksUptoCardSaid : Prop := Claim7.holds Tryd.pinned (.plain (OpenSpec.upto aesBlocksSpec)) aesBlocksUptoCard

/-- THE SECOND FORM's CARD OF 'wringerlaw18.HctrApart'. -/
def hctrApartUptoCard : Claim7 := { stood := { row := hctrApartUptoRow, standIns := [], harness := (true, "1981ea11e89213835f33ec7a99c36b96b28e3cf75f1fa28df7355fabe81d9c38"), looks := false }, kinds := [], alts := [], laidByText := true, laidKinds := [.data, .data], laidTests := true, laidLooks := .later }
def HctrApartUptoCardSaid : Prop := Claim7.holds Tryd.pinned (.plain (OpenSpec.upto hctrApartSpec)) hctrApartUptoCard

/-- THE SECOND FORM's CARD OF 'wringerlaw18.HctrSteps'. -/
def hctrStepsUptoCard : Claim7 := { stood := { row := hctrStepsUptoRow, standIns := [], harness := (true, "1981ea11e89213835f33ec7a99c36b96b28e3cf75f1fa28df7355fabe81d9c38"), looks := false }, kinds := [], alts := [], laidByText := true, laidKinds := [.data, .data], laidTests := true, laidLooks := .later }
def HctrStepsUptoCardSaid : Prop := Claim7.holds Tryd.pinned (.plain (OpenSpec.upto hctrStepsSpec)) hctrStepsUptoCard

/-- THE SECOND FORM's CARD OF 'wringerlaw18.HctrLeft'. -/
def hctrLeftUptoCard : Claim7 := { stood := { row := hctrLeftUptoRow, standIns := [], harness := (true, "1981ea11e89213835f33ec7a99c36b96b28e3cf75f1fa28df7355fabe81d9c38"), looks := false }, kinds := [], alts := [], laidByText := true, laidKinds := [.data, .data], laidTests := true, laidLooks := .later }
def HctrLeftUptoCardSaid : Prop := Claim7.holds Tryd.pinned (.plain (OpenSpec.upto hctrLeftSpec)) hctrLeftUptoCard

/-- THE SECOND FORM's CARD OF 'wringerlaw18.HctrKeys'. -/
def hctrKeysUptoCard : Claim7 := { stood := { row := hctrKeysUptoRow, standIns := [], harness := (true, "1981ea11e89213835f33ec7a99c36b96b28e3cf75f1fa28df7355fabe81d9c38"), looks := false }, kinds := [], alts := [], laidByText := true, laidKinds := [.data, .data], laidTests := true, laidLooks := .later }
def HctrKeysUptoCardSaid : Prop := Claim7.holds Tryd.pinned (.plain (OpenSpec.upto hctrKeysSpec)) hctrKeysUptoCard

/-- THE SECOND FORM's CARD OF 'wringerlaw18.HctrBack'. -/
def hctrBackUptoCard : Claim7 := { stood := { row := hctrBackUptoRow, standIns := [], harness := (true, "1981ea11e89213835f33ec7a99c36b96b28e3cf75f1fa28df7355fabe81d9c38"), looks := false }, kinds := [], alts := [], laidByText := true, laidKinds := [.data, .data], laidTests := true, laidLooks := .later }
def HctrBackUptoCardSaid : Prop := Claim7.holds Tryd.pinned (.plain (OpenSpec.upto hctrBackSpec)) hctrBackUptoCard

/-- THE SECOND FORM's CARD OF 'wringerlaw17.AdiantumApart'. -/
def adiantumApartUptoCard : Claim7 := { stood := { row := adiantumApartUptoRow, standIns := [], harness := (true, "1981ea11e89213835f33ec7a99c36b96b28e3cf75f1fa28df7355fabe81d9c38"), looks := false }, kinds := [], alts := [], laidByText := true, laidKinds := [.data, .data], laidTests := true, laidLooks := .later }
def AdiantumApartUptoCardSaid : Prop := Claim7.holds Tryd.pinned (.plain (OpenSpec.upto adiantumApartSpec)) adiantumApartUptoCard

/-- THE SECOND FORM's CARD OF 'wringerlaw17.AdiantumSteps'. -/
def adiantumStepsUptoCard : Claim7 := { stood := { row := adiantumStepsUptoRow, standIns := [], harness := (true, "1981ea11e89213835f33ec7a99c36b96b28e3cf75f1fa28df7355fabe81d9c38"), looks := false }, kinds := [], alts := [], laidByText := true, laidKinds := [.data, .data], laidTests := true, laidLooks := .later }
def AdiantumStepsUptoCardSaid : Prop := Claim7.holds Tryd.pinned (.plain (OpenSpec.upto adiantumStepsSpec)) adiantumStepsUptoCard

/-- THE SECOND FORM's CARD OF 'wringerlaw17.AdiantumRight'. -/
def adiantumRightUptoCard : Claim7 := { stood := { row := adiantumRightUptoRow, standIns := [], harness := (true, "1981ea11e89213835f33ec7a99c36b96b28e3cf75f1fa28df7355fabe81d9c38"), looks := false }, kinds := [], alts := [], laidByText := true, laidKinds := [.data, .data], laidTests := true, laidLooks := .later }
def AdiantumRightUptoCardSaid : Prop := Claim7.holds Tryd.pinned (.plain (OpenSpec.upto adiantumRightSpec)) adiantumRightUptoCard

/-- THE SECOND FORM's CARD OF 'wringerlaw17.AdiantumKeys'. -/
def adiantumKeysUptoCard : Claim7 := { stood := { row := adiantumKeysUptoRow, standIns := [], harness := (true, "1981ea11e89213835f33ec7a99c36b96b28e3cf75f1fa28df7355fabe81d9c38"), looks := false }, kinds := [], alts := [], laidByText := true, laidKinds := [.data, .data], laidTests := true, laidLooks := .later }
def AdiantumKeysUptoCardSaid : Prop := Claim7.holds Tryd.pinned (.plain (OpenSpec.upto adiantumKeysSpec)) adiantumKeysUptoCard

/-- THE SECOND FORM's CARD OF 'wringerlaw17.AdiantumBack'. -/
def adiantumBackUptoCard : Claim7 := { stood := { row := adiantumBackUptoRow, standIns := [], harness := (true, "1981ea11e89213835f33ec7a99c36b96b28e3cf75f1fa28df7355fabe81d9c38"), looks := false }, kinds := [], alts := [], laidByText := true, laidKinds := [.data, .data], laidTests := true, laidLooks := .later }
def AdiantumBackUptoCardSaid : Prop := Claim7.holds Tryd.pinned (.plain (OpenSpec.upto adiantumBackSpec)) adiantumBackUptoCard
end Rows
end Go.Proofs.YtepijmidafndaaaDoor
