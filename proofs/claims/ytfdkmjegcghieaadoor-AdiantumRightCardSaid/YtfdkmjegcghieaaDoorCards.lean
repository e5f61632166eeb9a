/-
  DERIVED. GIVEN WITH THE SEED: THE CARDS: each row of YtfdkmjegcghieaaDoorRows.lean that lists a variable, with what it lists TIED to the program's text (the seventh form; the later family's looks); each row that meets fmt, with fmt's text TOLD by the authors' own Lean function (tested against real Go, not proved from fmt's source: count such statements apart). THE CARD IS WHAT COUNTS. Prove the row's statement (the work); the ties are given (YtfdkmjegcghieaaDoorTie.lean); close each card by the builder's one call (the guide's Derived/Test/ToyasCard.lean, 'card_holds'). Laid BY PROGRAM, IN A SANDBOX (cutbox-door.mjs). By AI agents, Wed Nov 11 2026. No macro, syntax, notation, axiom, sorry.
-/
import Derived.Test.YtfdkmjegcghieaaDoorRows
import GoSem.ClaimSeven
namespace Go.Proofs.YtfdkmjegcghieaaDoor
namespace Rows

/-- THE TIED CARD OF 'wringerlaw18.HctrApart'. -/
def hctrApartCard : Claim7 := { stood := { row := hctrApartRow, standIns := [], harness := (true, "2df326af288955cd6494f800314fa4b464e4901458f19f3d887e5e7fa9aa94d1"), looks := false }, kinds := [], alts := [], laidByText := true, laidKinds := [.data, .data], laidTests := true, laidLooks := .later }
def HctrApartCardSaid : Prop := Claim7.holds Tryd.pinned (.plain (OpenSpec.ofChange hctrApartSpec)) hctrApartCard

/-- THE TIED CARD OF 'wringerlaw18.HctrSteps'. -/
def hctrStepsCard : Claim7 := { stood := { row := hctrStepsRow, standIns := [], harness := (true, "2df326af288955cd6494f800314fa4b464e4901458f19f3d887e5e7fa9aa94d1"), looks := false }, kinds := [], alts := [], laidByText := true, laidKinds := [.data, .data], laidTests := true, laidLooks := .later }
def HctrStepsCardSaid : Prop := Claim7.holds Tryd.pinned (.plain (OpenSpec.ofChange hctrStepsSpec)) hctrStepsCard

/-- THE TIED CARD OF 'wringerlaw18.HctrLeft'. -/
def hctrLeftCard : Claim7 := { stood := { row := hctrLeftRow, standIns := [], harness := (true, "2df326af288955cd6494f800314fa4b464e4901458f19f3d887e5e7fa9aa94d1"), looks := false }, kinds := [], alts := [], laidByText := true, laidKinds := [.data, .data], laidTests := true, laidLooks := .later }
def HctrLeftCardSaid : Prop := Claim7.holds Tryd.pinned (.plain (OpenSpec.ofChange hctrLeftSpec)) hctrLeftCard

/-- THE TIED CARD OF 'wringerlaw18.HctrKeys'. -/
def hctrKeysCard : Claim7 := { stood := { row := hctrKeysRow, standIns := [], harness := (true, "2df326af288955cd6494f800314fa4b464e4901458f19f3d887e5e7fa9aa94d1"), looks := false }, kinds := [], alts := [], laidByText := true, laidKinds := [.data, .data], laidTests := true, laidLooks := .later }
def HctrKeysCardSaid : Prop := Claim7.holds Tryd.pinned (.plain (OpenSpec.ofChange hctrKeysSpec)) hctrKeysCard

/-- THE TIED CARD OF 'wringerlaw18.HctrBack'. -/
def hctrBackCard : Claim7 := { stood := { row := hctrBackRow, standIns := [], harness := (true, "2df326af288955cd6494f800314fa4b464e4901458f19f3d887e5e7fa9aa94d1"), looks := false }, kinds := [], alts := [], laidByText := true, laidKinds := [.data, .data], laidTests := true, laidLooks := .later }
def HctrBackCardSaid : Prop := Claim7.holds Tryd.pinned (.plain (OpenSpec.ofChange hctrBackSpec)) hctrBackCard

/-- THE TIED CARD OF 'wringerlaw17.AdiantumApart'. -/
def adiantumApartCard : Claim7 := { stood := { row := adiantumApartRow, standIns := [], harness := (true, "2df326af288955cd6494f800314fa4b464e4901458f19f3d887e5e7fa9aa94d1"), looks := false }, kinds := [], alts := [], laidByText := true, laidKinds := [.data, .data], laidTests := true, laidLooks := .later }
def AdiantumApartCardSaid : Prop := Claim7.holds Tryd.pinned (.plain (OpenSpec.ofChange adiantumApartSpec)) adiantumApartCard

/-- THE TIED CARD OF 'wringerlaw17.AdiantumSteps'. -/
def adiantumStepsCard : Claim7 := { stood := { row := adiantumStepsRow, standIns := [], harness := (true, "2df326af288955cd6494f800314fa4b464e4901458f19f3d887e5e7fa9aa94d1"), looks := false }, kinds := [], alts := [], laidByText := true, laidKinds := [.data, .data], laidTests := true, laidLooks := .later }
def AdiantumStepsCardSaid : Prop := Claim7.holds Tryd.pinned (.plain (OpenSpec.ofChange adiantumStepsSpec)) adiantumStepsCard

/-- THE TIED CARD OF 'wringerlaw17.AdiantumRight'. -/
def adiantumRightCard : Claim7 := { stood := { row := adiantumRightRow, standIns := [], harness := (true, "2df326af288955cd6494f800314fa4b464e4901458f19f3d887e5e7fa9aa94d1"), looks := false }, kinds := [], alts := [], laidByText := true, laidKinds := [.data, .data], laidTests := true, laidLooks := .later }
def AdiantumRightCardSaid : Prop := Claim7.holds Tryd.pinned (.plain (OpenSpec.ofChange adiantumRightSpec)) adiantumRightCard

/-- THE TIED CARD OF 'wringerlaw17.AdiantumKeys'. -/
def adiantumKeysCard : Claim7 := { stood := { row := adiantumKeysRow, standIns := [], harness := (true, "2df326af288955cd6494f800314fa4b464e4901458f19f3d887e5e7fa9aa94d1"), looks := false }, kinds := [], alts := [], laidByText := true, laidKinds := [.data, .data], laidTests := true, laidLooks := .later }
def AdiantumKeysCardSaid : Prop := Claim7.holds Tryd.pinned (.plain (OpenSpec.ofChange adiantumKeysSpec)) adiantumKeysCard

/-- THE TIED CARD OF 'wringerlaw17.AdiantumBack'. -/
def adiantumBackCard : Claim7 := { stood := { row := adiantumBackRow, standIns := [], harness := (true, "2df326af288955cd6494f800314fa4b464e4901458f19f3d887e5e7fa9aa94d1"), looks := false }, kinds := [], alts := [], laidByText := true, laidKinds := [.data, .data], laidTests := true, laidLooks := .later }
def AdiantumBackCardSaid : Prop := Claim7.holds Tryd.pinned (.plain (OpenSpec.ofChange adiantumBackSpec)) adiantumBackCard

/-- THE SECOND FORM's CARD OF 'wringerlaw18.HctrApart'. -/
def hctrApartUptoCard : Claim7 := { stood := { row := hctrApartUptoRow, standIns := [], harness := (true, "2df326af288955cd6494f800314fa4b464e4901458f19f3d887e5e7fa9aa94d1"), looks := false }, kinds := [], alts := [], laidByText := true, laidKinds := [.data, .data], laidTests := true, laidLooks := .later }
def HctrApartUptoCardSaid : Prop := Claim7.holds Tryd.pinned (.plain (OpenSpec.upto hctrApartSpec)) hctrApartUptoCard

/-- THE SECOND FORM's CARD OF 'wringerlaw18.HctrSteps'. -/
def hctrStepsUptoCard : Claim7 := { stood := { row := hctrStepsUptoRow, standIns := [], harness := (true, "2df326af288955cd6494f800314fa4b464e4901458f19f3d887e5e7fa9aa94d1"), looks := false }, kinds := [], alts := [], laidByText := true, laidKinds := [.data, .data], laidTests := true, laidLooks := .later }
def HctrStepsUptoCardSaid : Prop := Claim7.holds Tryd.pinned (.plain (OpenSpec.upto hctrStepsSpec)) hctrStepsUptoCard

/-- THE SECOND FORM's CARD OF 'wringerlaw18.HctrLeft'. -/
def hctrLeftUptoCard : Claim7 := { stood := { row := hctrLeftUptoRow, standIns := [], harness := (true, "2df326af288955cd6494f800314fa4b464e4901458f19f3d887e5e7fa9aa94d1"), looks := false }, kinds := [], alts := [], laidByText := true, laidKinds := [.data, .data], laidTests := true, laidLooks := .later }
def HctrLeftUptoCardSaid : Prop := Claim7.holds Tryd.pinned (.plain (OpenSpec.upto hctrLeftSpec)) hctrLeftUptoCard

/-- THE SECOND FORM's CARD OF 'wringerlaw18.HctrKeys'. -/
def hctrKeysUptoCard : Claim7 := { stood := { row := hctrKeysUptoRow, standIns := [], harness := (true, "2df326af288955cd6494f800314fa4b464e4901458f19f3d887e5e7fa9aa94d1"), looks := false }, kinds := [], alts := [], laidByText := true, laidKinds := [.data, .data], laidTests := true, laidLooks := .later }
def HctrKeysUptoCardSaid : Prop := Claim7.holds Tryd.pinned (.plain (OpenSpec.upto hctrKeysSpec)) hctrKeysUptoCard

/-- THE SECOND FORM's CARD OF 'wringerlaw18.HctrBack'. -/
def hctrBackUptoCard : Claim7 := { stood := { row := hctrBackUptoRow, standIns := [], harness := (true, "2df326af288955cd6494f800314fa4b464e4901458f19f3d887e5e7fa9aa94d1"), looks := false }, kinds := [], alts := [], laidByText := true, laidKinds := [.data, .data], laidTests := true, laidLooks := .later }
def HctrBackUptoCardSaid : Prop := Claim7.holds Tryd.pinned (.plain (OpenSpec.upto hctrBackSpec)) hctrBackUptoCard

/-- THE SECOND FORM's CARD OF 'wringerlaw17.AdiantumApart'. -/
def adiantumApartUptoCard : Claim7 := { stood := { row := adiantumApartUptoRow, standIns := [], harness := (true, "2df326af288955cd6494f800314fa4b464e4901458f19f3d887e5e7fa9aa94d1"), looks := false }, kinds := [], alts := [], laidByText := true, laidKinds := [.data, .data], laidTests := true, laidLooks := .later }
def AdiantumApartUptoCardSaid : Prop := Claim7.holds Tryd.pinned (.plain (OpenSpec.upto adiantumApartSpec)) adiantumApartUptoCard

/-- THE SECOND FORM's CARD OF 'wringerlaw17.AdiantumSteps'. -/
def adiantumStepsUptoCard : Claim7 := { stood := { row := adiantumStepsUptoRow, standIns := [], harness := (true, "2df326af288955cd6494f800314fa4b464e4901458f19f3d887e5e7fa9aa94d1"), looks := false }, kinds := [], alts := [], laidByText := true, laidKinds := [.data, .data], laidTests := true, laidLooks := .later }
def AdiantumStepsUptoCardSaid : Prop := Claim7.holds Tryd.pinned (.plain (OpenSpec.upto adiantumStepsSpec)) adiantumStepsUptoCard

/-- THE SECOND FORM's CARD OF 'wringerlaw17.AdiantumRight'. -/
def adiantumRightUptoCard : Claim7 := { stood := { row := adiantumRightUptoRow, standIns := [], harness := (true, "2df326af288955cd6494f800314fa4b464e4901458f19f3d887e5e7fa9aa94d1"), looks := false }, kinds := [], alts := [], laidByText := true, laidKinds := [.data, .data], laidTests := true, laidLooks := .later }
def AdiantumRightUptoCardSaid : Prop := Claim7.holds Tryd.pinned (.plain (OpenSpec.upto adiantumRightSpec)) adiantumRightUptoCard

/-- THE SECOND FORM's CARD OF 'wringerlaw17.AdiantumKeys'. -/
def adiantumKeysUptoCard : Claim7 := { stood := { row := adiantumKeysUptoRow, standIns := [], harness := (true, "2df326af288955cd6494f800314fa4b464e4901458f19f3d887e5e7fa9aa94d1"), looks := false }, kinds := [], alts := [], laidByText := true, laidKinds := [.data, .data], laidTests := true, laidLooks := .later }
def AdiantumKeysUptoCardSaid : Prop := Claim7.holds Tryd.pinned (.plain (OpenSpec.upto adiantumKeysSpec)) adiantumKeysUptoCard

/-- THE SECOND FORM's CARD OF 'wringerlaw17.AdiantumBack'. -/
def adiantumBackUptoCard : Claim7 := { stood := { row := adiantumBackUptoRow, standIns := [], harness := (true, "2df326af288955cd6494f800314fa4b464e4901458f19f3d887e5e7fa9aa94d1"), looks := false }, kinds := [], alts := [], laidByText := true, laidKinds := [.data, .data], laidTests := true, laidLooks := .later }
def AdiantumBackUptoCardSaid : Prop := Claim7.holds Tryd.pinned (.plain (OpenSpec.upto adiantumBackSpec)) adiantumBackUptoCard
end Rows
end Go.Proofs.YtfdkmjegcghieaaDoor
