/-
  DERIVED. GIVEN WITH THE SEED: THE CARDS: each row of YtkjlihfalfbmjaaGreatDoorRows.lean that lists a variable, with what it lists TIED to the program's text (the seventh form; the later family's looks); each row that meets fmt, with fmt's text TOLD by the authors' own Lean function (tested against real Go, not proved from fmt's source: count such statements apart). THE CARD IS WHAT COUNTS. Prove the row's statement (the work); the ties are given (YtkjlihfalfbmjaaGreatDoorTie.lean); close each card by the builder's one call (the guide's Derived/Test/ToyasCard.lean, 'card_holds'). Laid BY PROGRAM, IN A SANDBOX (cutbox-door.mjs). By AI agents, Wed Nov 11 2026. No macro, syntax, notation, axiom, sorry.
-/
import Derived.Test.YtkjlihfalfbmjaaGreatDoorRows
import GoSem.ClaimSeven
namespace Go.Proofs.YtkjlihfalfbmjaaGreatDoor
namespace Rows

/-- THE TIED CARD OF 'arboretumlaw12.PrepAgain'. -/
def prepAgainCard : Claim7 := { stood := { row := prepAgainRow, standIns := [], harness := (true, "191857e0a538f13b0d14e0f530e9615e7545c3852a0bb7314171cccb4cd5b0c1"), looks := true }, kinds := [], alts := [], laidByText := true, laidKinds := [.data, .data, .data, .data, .pinned], laidTests := true, laidLooks := .later }
def PrepAgainCardSaid : Prop := Claim7.holds Tryz.pinned (.plain (OpenSpec.ofChange prepAgainSpec)) prepAgainCard

/-- THE TIED CARD OF 'arboretumlaw12.PrepTxns'. -/
def prepTxnsCard : Claim7 := { stood := { row := prepTxnsRow, standIns := [], harness := (true, "191857e0a538f13b0d14e0f530e9615e7545c3852a0bb7314171cccb4cd5b0c1"), looks := true }, kinds := [], alts := [], laidByText := true, laidKinds := [.data, .data, .data, .data, .pinned], laidTests := true, laidLooks := .later }
def PrepTxnsCardSaid : Prop := Claim7.holds Tryz.pinned (.plain (OpenSpec.ofChange prepTxnsSpec)) prepTxnsCard

/-- THE TIED CARD OF 'arboretumlaw12.PrepReplies'. -/
def prepRepliesCard : Claim7 := { stood := { row := prepRepliesRow, standIns := [], harness := (true, "191857e0a538f13b0d14e0f530e9615e7545c3852a0bb7314171cccb4cd5b0c1"), looks := true }, kinds := [], alts := [], laidByText := true, laidKinds := [.data, .data, .data, .data, .pinned], laidTests := true, laidLooks := .later }
def PrepRepliesCardSaid : Prop := Claim7.holds Tryz.pinned (.plain (OpenSpec.ofChange prepRepliesSpec)) prepRepliesCard

/-- THE TIED CARD OF 'arboretumlaw12.PrepSound'. -/
def prepSoundCard : Claim7 := { stood := { row := prepSoundRow, standIns := [], harness := (true, "191857e0a538f13b0d14e0f530e9615e7545c3852a0bb7314171cccb4cd5b0c1"), looks := true }, kinds := [], alts := [], laidByText := true, laidKinds := [.data, .data, .data, .data, .pinned], laidTests := true, laidLooks := .later }
def PrepSoundCardSaid : Prop := Claim7.holds Tryz.pinned (.plain (OpenSpec.ofChange prepSoundSpec)) prepSoundCard

/-- THE TIED CARD OF 'arboretumlaw12.PrepMultis'. -/
def prepMultisCard : Claim7 := { stood := { row := prepMultisRow, standIns := [], harness := (true, "191857e0a538f13b0d14e0f530e9615e7545c3852a0bb7314171cccb4cd5b0c1"), looks := true }, kinds := [], alts := [], laidByText := true, laidKinds := [.data, .data, .data, .data, .pinned], laidTests := true, laidLooks := .later }
def PrepMultisCardSaid : Prop := Claim7.holds Tryz.pinned (.plain (OpenSpec.ofChange prepMultisSpec)) prepMultisCard

/-- THE TIED CARD OF 'arboretumlaw12.PrepPeople'. -/
def prepPeopleCard : Claim7 := { stood := { row := prepPeopleRow, standIns := [], harness := (true, "191857e0a538f13b0d14e0f530e9615e7545c3852a0bb7314171cccb4cd5b0c1"), looks := true }, kinds := [], alts := [], laidByText := true, laidKinds := [.data, .data, .data, .data, .pinned], laidTests := true, laidLooks := .later }
def PrepPeopleCardSaid : Prop := Claim7.holds Tryz.pinned (.plain (OpenSpec.ofChange prepPeopleSpec)) prepPeopleCard

/-- THE TIED CARD OF 'arboretumlaw12.PrepReads'. -/
def prepReadsCard : Claim7 := { stood := { row := prepReadsRow, standIns := [], harness := (true, "191857e0a538f13b0d14e0f530e9615e7545c3852a0bb7314171cccb4cd5b0c1"), looks := true }, kinds := [], alts := [], laidByText := true, laidKinds := [.data, .data, .data, .data, .pinned], laidTests := true, laidLooks := .later }
def PrepReadsCardSaid : Prop := Claim7.holds Tryz.pinned (.plain (OpenSpec.ofChange prepReadsSpec)) prepReadsCard

/-- THE SECOND FORM's CARD OF 'arboretumlaw12.PrepAgain'. -/
def prepAgainUptoCard : Claim7 := { stood := { row := prepAgainUptoRow, standIns := [], harness := (true, "191857e0a538f13b0d14e0f530e9615e7545c3852a0bb7314171cccb4cd5b0c1"), looks := true }, kinds := [], alts := [], laidByText := true, laidKinds := [.data, .data, .data, .data, .pinned], laidTests := true, laidLooks := .later }
def PrepAgainUptoCardSaid : Prop := Claim7.holds Tryz.pinned (.plain (OpenSpec.upto prepAgainSpec)) prepAgainUptoCard

/-- THE SECOND FORM's CARD OF 'arboretumlaw12.PrepTxns'. -/
def prepTxnsUptoCard : Claim7 := { stood := { row := prepTxnsUptoRow, standIns := [], harness := (true, "191857e0a538f13b0d14e0f530e9615e7545c3852a0bb7314171cccb4cd5b0c1"), looks := true }, kinds := [], alts := [], laidByText := true, laidKinds := [.data, .data, .data, .data, .pinned], laidTests := true, laidLooks := .later }
def PrepTxnsUptoCardSaid : Prop := Claim7.holds Tryz.pinned (.plain (OpenSpec.upto prepTxnsSpec)) prepTxnsUptoCard

/-- THE SECOND FORM's CARD OF 'arboretumlaw12.PrepReplies'. -/
def prepRepliesUptoCard : Claim7 := { stood := { row := prepRepliesUptoRow, standIns := [], harness := (true, "191857e0a538f13b0d14e0f530e9615e7545c3852a0bb7314171cccb4cd5b0c1"), looks := true }, kinds := [], alts := [], laidByText := true, laidKinds := [.data, .data, .data, .data, .pinned], laidTests := true, laidLooks := .later }
def PrepRepliesUptoCardSaid : Prop := Claim7.holds Tryz.pinned (.plain (OpenSpec.upto prepRepliesSpec)) prepRepliesUptoCard

/-- THE SECOND FORM's CARD OF 'arboretumlaw12.PrepSound'. -/
def prepSoundUptoCard : Claim7 := { stood := { row := prepSoundUptoRow, standIns := [], harness := (true, "191857e0a538f13b0d14e0f530e9615e7545c3852a0bb7314171cccb4cd5b0c1"), looks := true }, kinds := [], alts := [], laidByText := true, laidKinds := [.data, .data, .data, .data, .pinned], laidTests := true, laidLooks := .later }
def PrepSoundUptoCardSaid : Prop := Claim7.holds Tryz.pinned (.plain (OpenSpec.upto prepSoundSpec)) prepSoundUptoCard

/-- THE SECOND FORM's CARD OF 'arboretumlaw12.PrepMultis'. -/
def prepMultisUptoCard : Claim7 := { stood := { row := prepMultisUptoRow, standIns := [], harness := (true, "191857e0a538f13b0d14e0f530e9615e7545c3852a0bb7314171cccb4cd5b0c1"), looks := true }, kinds := [], alts := [], laidByText := true, laidKinds := [.data, .data, .data, .data, .pinned], laidTests := true, laidLooks := .later }
def PrepMultisUptoCardSaid : Prop := Claim7.holds Tryz.pinned (.plain (OpenSpec.upto prepMultisSpec)) prepMultisUptoCard

/-- THE SECOND FORM's CARD OF 'arboretumlaw12.PrepPeople'. -/
def prepPeopleUptoCard : Claim7 := { stood := { row := prepPeopleUptoRow, standIns := [], harness := (true, "191857e0a538f13b0d14e0f530e9615e7545c3852a0bb7314171cccb4cd5b0c1"), looks := true }, kinds := [], alts := [], laidByText := true, laidKinds := [.data, .data, .data, .data, .pinned], laidTests := true, laidLooks := .later }
def PrepPeopleUptoCardSaid : Prop := Claim7.holds Tryz.pinned (.plain (OpenSpec.upto prepPeopleSpec)) prepPeopleUptoCard

/-- THE SECOND FORM's CARD OF 'arboretumlaw12.PrepReads'. -/
def prepReadsUptoCard : Claim7 := { stood := { row := prepReadsUptoRow, standIns := [], harness := (true, "191857e0a538f13b0d14e0f530e9615e7545c3852a0bb7314171cccb4cd5b0c1"), looks := true }, kinds := [], alts := [], laidByText := true, laidKinds := [.data, .data, .data, .data, .pinned], laidTests := true, laidLooks := .later }
def PrepReadsUptoCardSaid : Prop := Claim7.holds Tryz.pinned (.plain (OpenSpec.upto prepReadsSpec)) prepReadsUptoCard
end Rows
end Go.Proofs.YtkjlihfalfbmjaaGreatDoor
