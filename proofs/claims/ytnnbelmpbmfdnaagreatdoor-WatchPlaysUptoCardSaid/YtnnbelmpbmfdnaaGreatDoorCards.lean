/-
  DERIVED. GIVEN WITH THE SEED: THE CARDS: each row of YtnnbelmpbmfdnaaGreatDoorRows.lean that lists a variable, with what it lists TIED to the program's text (the seventh form; the later family's looks); each row that meets fmt, with fmt's text TOLD by the authors' own Lean function (tested against real Go, not proved from fmt's source: count such statements apart). THE CARD IS WHAT COUNTS. Prove the row's statement (the work); the ties are given (YtnnbelmpbmfdnaaGreatDoorTie.lean); close each card by the builder's one call (the guide's Derived/Test/ToyasCard.lean, 'card_holds'). Laid BY PROGRAM, IN A SANDBOX (cutbox-door.mjs). By AI agents, Wed Nov 11 2026. No macro, syntax, notation, axiom, sorry.
-/
import Derived.Test.YtnnbelmpbmfdnaaGreatDoorRows
import GoSem.ClaimSeven
namespace Go.Proofs.YtnnbelmpbmfdnaaGreatDoor
namespace Rows

/-- THE TIED CARD OF 'arboretumlaw07.TreeOwners'. -/
def treeOwnersCard : Claim7 := { stood := { row := treeOwnersRow, standIns := [], harness := (true, "a66242cae6a8fc3f7db4a791924af0af3ff297cfca08b5f9d171b426efcd65ac"), looks := true }, kinds := [], alts := [], laidByText := true, laidKinds := [.data, .pinned], laidTests := true, laidLooks := .later }
def TreeOwnersCardSaid : Prop := Claim7.holds Tryz.pinned (.plain (OpenSpec.ofChange treeOwnersSpec)) treeOwnersCard

/-- THE TIED CARD OF 'arboretumlaw07.TreeKeeps'. -/
def treeKeepsCard : Claim7 := { stood := { row := treeKeepsRow, standIns := [], harness := (true, "a66242cae6a8fc3f7db4a791924af0af3ff297cfca08b5f9d171b426efcd65ac"), looks := true }, kinds := [], alts := [], laidByText := true, laidKinds := [.data, .pinned], laidTests := true, laidLooks := .later }
def TreeKeepsCardSaid : Prop := Claim7.holds Tryz.pinned (.plain (OpenSpec.ofChange treeKeepsSpec)) treeKeepsCard

/-- THE TIED CARD OF 'arboretumlaw07.TreeSessions'. -/
def treeSessionsCard : Claim7 := { stood := { row := treeSessionsRow, standIns := [], harness := (true, "a66242cae6a8fc3f7db4a791924af0af3ff297cfca08b5f9d171b426efcd65ac"), looks := true }, kinds := [], alts := [], laidByText := true, laidKinds := [.data, .pinned], laidTests := true, laidLooks := .later }
def TreeSessionsCardSaid : Prop := Claim7.holds Tryz.pinned (.plain (OpenSpec.ofChange treeSessionsSpec)) treeSessionsCard

/-- THE TIED CARD OF 'arboretumlaw07.TreeAgain'. -/
def treeAgainCard : Claim7 := { stood := { row := treeAgainRow, standIns := [], harness := (true, "a66242cae6a8fc3f7db4a791924af0af3ff297cfca08b5f9d171b426efcd65ac"), looks := true }, kinds := [], alts := [], laidByText := true, laidKinds := [.data, .pinned], laidTests := true, laidLooks := .later }
def TreeAgainCardSaid : Prop := Claim7.holds Tryz.pinned (.plain (OpenSpec.ofChange treeAgainSpec)) treeAgainCard

/-- THE TIED CARD OF 'arboretumlaw07.TreeApart'. -/
def treeApartCard : Claim7 := { stood := { row := treeApartRow, standIns := [], harness := (true, "a66242cae6a8fc3f7db4a791924af0af3ff297cfca08b5f9d171b426efcd65ac"), looks := true }, kinds := [], alts := [], laidByText := true, laidKinds := [.data, .pinned], laidTests := true, laidLooks := .later }
def TreeApartCardSaid : Prop := Claim7.holds Tryz.pinned (.plain (OpenSpec.ofChange treeApartSpec)) treeApartCard

/-- THE TIED CARD OF 'arboretumlaw07.TreePlays'. -/
def treePlaysCard : Claim7 := { stood := { row := treePlaysRow, standIns := [], harness := (true, "a66242cae6a8fc3f7db4a791924af0af3ff297cfca08b5f9d171b426efcd65ac"), looks := true }, kinds := [], alts := [], laidByText := true, laidKinds := [.data, .pinned], laidTests := true, laidLooks := .later }
def TreePlaysCardSaid : Prop := Claim7.holds Tryz.pinned (.plain (OpenSpec.ofChange treePlaysSpec)) treePlaysCard

/-- THE TIED CARD OF 'arboretumlaw11.WatchMoves'. -/
def watchMovesCard : Claim7 := { stood := { row := watchMovesRow, standIns := [], harness := (true, "a66242cae6a8fc3f7db4a791924af0af3ff297cfca08b5f9d171b426efcd65ac"), looks := true }, kinds := [], alts := [], laidByText := true, laidKinds := [.data, .pinned], laidTests := true, laidLooks := .later }
def WatchMovesCardSaid : Prop := Claim7.holds Tryz.pinned (.plain (OpenSpec.ofChange watchMovesSpec)) watchMovesCard

/-- THE TIED CARD OF 'arboretumlaw11.WatchPlays'. -/
def watchPlaysCard : Claim7 := { stood := { row := watchPlaysRow, standIns := [], harness := (true, "a66242cae6a8fc3f7db4a791924af0af3ff297cfca08b5f9d171b426efcd65ac"), looks := true }, kinds := [], alts := [], laidByText := true, laidKinds := [.data, .pinned], laidTests := true, laidLooks := .later }
def WatchPlaysCardSaid : Prop := Claim7.holds Tryz.pinned (.plain (OpenSpec.ofChange watchPlaysSpec)) watchPlaysCard

/-- THE SECOND FORM's CARD OF 'arboretumlaw07.TreeOwners'. -/
def treeOwnersUptoCard : Claim7 := { stood := { row := treeOwnersUptoRow, standIns := [], harness := (true, "a66242cae6a8fc3f7db4a791924af0af3ff297cfca08b5f9d171b426efcd65ac"), looks := true }, kinds := [], alts := [], laidByText := true, laidKinds := [.data, .pinned], laidTests := true, laidLooks := .later }
def TreeOwnersUptoCardSaid : Prop := Claim7.holds Tryz.pinned (.plain (OpenSpec.upto treeOwnersSpec)) treeOwnersUptoCard

/-- THE SECOND FORM's CARD OF 'arboretumlaw07.TreeKeeps'. -/
def treeKeepsUptoCard : Claim7 := { stood := { row := treeKeepsUptoRow, standIns := [], harness := (true, "a66242cae6a8fc3f7db4a791924af0af3ff297cfca08b5f9d171b426efcd65ac"), looks := true }, kinds := [], alts := [], laidByText := true, laidKinds := [.data, .pinned], laidTests := true, laidLooks := .later }
def TreeKeepsUptoCardSaid : Prop := Claim7.holds Tryz.pinned (.plain (OpenSpec.upto treeKeepsSpec)) treeKeepsUptoCard

/-- THE SECOND FORM's CARD OF 'arboretumlaw07.TreeSessions'. -/
def treeSessionsUptoCard : Claim7 := { stood := { row := treeSessionsUptoRow, standIns := [], harness := (true, "a66242cae6a8fc3f7db4a791924af0af3ff297cfca08b5f9d171b426efcd65ac"), looks := true }, kinds := [], alts := [], laidByText := true, laidKinds := [.data, .pinned], laidTests := true, laidLooks := .later }
def TreeSessionsUptoCardSaid : Prop := Claim7.holds Tryz.pinned (.plain (OpenSpec.upto treeSessionsSpec)) treeSessionsUptoCard

/-- THE SECOND FORM's CARD OF 'arboretumlaw07.TreeAgain'. -/
def treeAgainUptoCard : Claim7 := { stood := { row := treeAgainUptoRow, standIns := [], harness := (true, "a66242cae6a8fc3f7db4a791924af0af3ff297cfca08b5f9d171b426efcd65ac"), looks := true }, kinds := [], alts := [], laidByText := true, laidKinds := [.data, .pinned], laidTests := true, laidLooks := .later }
def TreeAgainUptoCardSaid : Prop := Claim7.holds Tryz.pinned (.plain (OpenSpec.upto treeAgainSpec)) treeAgainUptoCard

/-- THE SECOND FORM's CARD OF 'arboretumlaw07.TreeApart'. -/
def treeApartUptoCard : Claim7 := { stood := { row := treeApartUptoRow, standIns := [], harness := (true, "a66242cae6a8fc3f7db4a791924af0af3ff297cfca08b5f9d171b426efcd65ac"), looks := true }, kinds := [], alts := [], laidByText := true, laidKinds := [.data, .pinned], laidTests := true, laidLooks := .later }
def TreeApartUptoCardSaid : Prop := Claim7.holds Tryz.pinned (.plain (OpenSpec.upto treeApartSpec)) treeApartUptoCard

/-- THE SECOND FORM's CARD OF 'arboretumlaw07.TreePlays'. -/
def treePlaysUptoCard : Claim7 := { stood := { row := treePlaysUptoRow, standIns := [], harness := (true, "a66242cae6a8fc3f7db4a791924af0af3ff297cfca08b5f9d171b426efcd65ac"), looks := true }, kinds := [], alts := [], laidByText := true, laidKinds := [.data, .pinned], laidTests := true, laidLooks := .later }
def TreePlaysUptoCardSaid : Prop := Claim7.holds Tryz.pinned (.plain (OpenSpec.upto treePlaysSpec)) treePlaysUptoCard

/-- THE SECOND FORM's CARD OF 'arboretumlaw11.WatchMoves'. -/
def watchMovesUptoCard : Claim7 := { stood := { row := watchMovesUptoRow, standIns := [], harness := (true, "a66242cae6a8fc3f7db4a791924af0af3ff297cfca08b5f9d171b426efcd65ac"), looks := true }, kinds := [], alts := [], laidByText := true, laidKinds := [.data, .pinned], laidTests := true, laidLooks := .later }
def WatchMovesUptoCardSaid : Prop := Claim7.holds Tryz.pinned (.plain (OpenSpec.upto watchMovesSpec)) watchMovesUptoCard

/-- THE SECOND FORM's CARD OF 'arboretumlaw11.WatchPlays'. -/
def watchPlaysUptoCard : Claim7 := { stood := { row := watchPlaysUptoRow, standIns := [], harness := (true, "a66242cae6a8fc3f7db4a791924af0af3ff297cfca08b5f9d171b426efcd65ac"), looks := true }, kinds := [], alts := [], laidByText := true, laidKinds := [.data, .pinned], laidTests := true, laidLooks := .later }
def WatchPlaysUptoCardSaid : Prop := Claim7.holds Tryz.pinned (.plain (OpenSpec.upto watchPlaysSpec)) watchPlaysUptoCard
end Rows
end Go.Proofs.YtnnbelmpbmfdnaaGreatDoor
