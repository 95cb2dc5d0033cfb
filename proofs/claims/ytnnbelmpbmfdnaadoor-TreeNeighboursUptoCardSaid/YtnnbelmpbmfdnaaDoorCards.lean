/-
  DERIVED. GIVEN WITH THE SEED: THE CARDS: each row of YtnnbelmpbmfdnaaDoorRows.lean that lists a variable, with what it lists TIED to the program's text (the seventh form; the later family's looks); each row that meets fmt, with fmt's text TOLD by the authors' own Lean function (tested against real Go, not proved from fmt's source: count such statements apart). THE CARD IS WHAT COUNTS. Prove the row's statement (the work); the ties are given (YtnnbelmpbmfdnaaDoorTie.lean); close each card by the builder's one call (the guide's Derived/Test/ToyasCard.lean, 'card_holds'). Laid BY PROGRAM, IN A SANDBOX (cutbox-door.mjs). By AI agents, Wed Nov 11 2026. No macro, syntax, notation, axiom, sorry.
-/
import Derived.Test.YtnnbelmpbmfdnaaDoorRows
import GoSem.ClaimSeven
namespace Go.Proofs.YtnnbelmpbmfdnaaDoor
namespace Rows

/-- THE TIED CARD OF 'arboretumlaw11.WatchOnce'. -/
def watchOnceCard : Claim7 := { stood := { row := watchOnceRow, standIns := [], harness := (true, "d7bcb3c9eaee5d86d99eb299844747f28cfba2a9ddc4036ccfe1f4e1aa8eaeb4"), looks := false }, kinds := [], alts := [], laidByText := true, laidKinds := [.data, .pinned], laidTests := true, laidLooks := .later }
def WatchOnceCardSaid : Prop := Claim7.holds Tryd.pinned (.plain (OpenSpec.ofChange watchOnceSpec)) watchOnceCard

/-- THE TIED CARD OF 'arboretumlaw11.WatchApart'. -/
def watchApartCard : Claim7 := { stood := { row := watchApartRow, standIns := [], harness := (true, "d7bcb3c9eaee5d86d99eb299844747f28cfba2a9ddc4036ccfe1f4e1aa8eaeb4"), looks := false }, kinds := [], alts := [], laidByText := true, laidKinds := [.data, .pinned], laidTests := true, laidLooks := .later }
def WatchApartCardSaid : Prop := Claim7.holds Tryd.pinned (.plain (OpenSpec.ofChange watchApartSpec)) watchApartCard

/-- THE TIED CARD OF 'arboretumlaw11.WatchGone'. -/
def watchGoneCard : Claim7 := { stood := { row := watchGoneRow, standIns := [], harness := (true, "d7bcb3c9eaee5d86d99eb299844747f28cfba2a9ddc4036ccfe1f4e1aa8eaeb4"), looks := false }, kinds := [], alts := [], laidByText := true, laidKinds := [.data, .pinned], laidTests := true, laidLooks := .later }
def WatchGoneCardSaid : Prop := Claim7.holds Tryd.pinned (.plain (OpenSpec.ofChange watchGoneSpec)) watchGoneCard

/-- THE TIED CARD OF 'arboretumlaw07.TreeNeighbours'. -/
def treeNeighboursCard : Claim7 := { stood := { row := treeNeighboursRow, standIns := [], harness := (true, "d7bcb3c9eaee5d86d99eb299844747f28cfba2a9ddc4036ccfe1f4e1aa8eaeb4"), looks := false }, kinds := [], alts := [], laidByText := true, laidKinds := [.data, .pinned], laidTests := true, laidLooks := .later }
def TreeNeighboursCardSaid : Prop := Claim7.holds Tryd.pinned (.plain (OpenSpec.ofChange treeNeighboursSpec)) treeNeighboursCard

/-- THE SECOND FORM's CARD OF 'arboretumlaw11.WatchOnce'. -/
def watchOnceUptoCard : Claim7 := { stood := { row := watchOnceUptoRow, standIns := [], harness := (true, "d7bcb3c9eaee5d86d99eb299844747f28cfba2a9ddc4036ccfe1f4e1aa8eaeb4"), looks := false }, kinds := [], alts := [], laidByText := true, laidKinds := [.data, .pinned], laidTests := true, laidLooks := .later }
def WatchOnceUptoCardSaid : Prop := Claim7.holds Tryd.pinned (.plain (OpenSpec.upto watchOnceSpec)) watchOnceUptoCard

/-- THE SECOND FORM's CARD OF 'arboretumlaw11.WatchApart'. -/
def watchApartUptoCard : Claim7 := { stood := { row := watchApartUptoRow, standIns := [], harness := (true, "d7bcb3c9eaee5d86d99eb299844747f28cfba2a9ddc4036ccfe1f4e1aa8eaeb4"), looks := false }, kinds := [], alts := [], laidByText := true, laidKinds := [.data, .pinned], laidTests := true, laidLooks := .later }
def WatchApartUptoCardSaid : Prop := Claim7.holds Tryd.pinned (.plain (OpenSpec.upto watchApartSpec)) watchApartUptoCard

/-- THE SECOND FORM's CARD OF 'arboretumlaw11.WatchGone'. -/
def watchGoneUptoCard : Claim7 := { stood := { row := watchGoneUptoRow, standIns := [], harness := (true, "d7bcb3c9eaee5d86d99eb299844747f28cfba2a9ddc4036ccfe1f4e1aa8eaeb4"), looks := false }, kinds := [], alts := [], laidByText := true, laidKinds := [.data, .pinned], laidTests := true, laidLooks := .later }
def WatchGoneUptoCardSaid : Prop := Claim7.holds Tryd.pinned (.plain (OpenSpec.upto watchGoneSpec)) watchGoneUptoCard

/-- THE SECOND FORM's CARD OF 'arboretumlaw07.TreeNeighbours'. -/
def treeNeighboursUptoCard : Claim7 := { stood := { row := treeNeighboursUptoRow, standIns := [], harness := (true, "d7bcb3c9eaee5d86d99eb299844747f28cfba2a9ddc4036ccfe1f4e1aa8eaeb4"), looks := false }, kinds := [], alts := [], laidByText := true, laidKinds := [.data, .pinned], laidTests := true, laidLooks := .later }
def TreeNeighboursUptoCardSaid : Prop := Claim7.holds Tryd.pinned (.plain (OpenSpec.upto treeNeighboursSpec)) treeNeighboursUptoCard
end Rows
end Go.Proofs.YtnnbelmpbmfdnaaDoor
