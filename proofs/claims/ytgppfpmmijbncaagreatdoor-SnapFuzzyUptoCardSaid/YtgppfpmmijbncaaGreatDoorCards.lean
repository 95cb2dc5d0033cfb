/-
  DERIVED. GIVEN WITH THE SEED: THE CARDS: each row of YtgppfpmmijbncaaGreatDoorRows.lean that lists a variable, with what it lists TIED to the program's text (the seventh form; the later family's looks); each row that meets fmt, with fmt's text TOLD by the authors' own Lean function (tested against real Go, not proved from fmt's source: count such statements apart). THE CARD IS WHAT COUNTS. Prove the row's statement (the work); the ties are given (YtgppfpmmijbncaaGreatDoorTie.lean); close each card by the builder's one call (the guide's Derived/Test/ToyasCard.lean, 'card_holds'). Laid BY PROGRAM, IN A SANDBOX (cutbox-door.mjs). By AI agents, Wed Nov 11 2026. No macro, syntax, notation, axiom, sorry.
-/
import Derived.Test.YtgppfpmmijbncaaGreatDoorRows
import GoSem.ClaimSeven
namespace Go.Proofs.YtgppfpmmijbncaaGreatDoor
namespace Rows

/-- THE TIED CARD OF 'arboretumlaw08.SnapBack'. -/
def snapBackCard : Claim7 := { stood := { row := snapBackRow, standIns := [], harness := (true, "20715f5e82a4eb1d18d3a805e0373b3dfca355673ea4907a71bbde2d35d9a8f6"), looks := false }, kinds := [], alts := [], laidByText := true, laidKinds := [.data, .pinned], laidTests := true, laidLooks := .later }
def SnapBackCardSaid : Prop := Claim7.holds Tryz.pinned (.plain (OpenSpec.ofChange snapBackSpec)) snapBackCard

/-- THE TIED CARD OF 'arboretumlaw08.SnapRestores'. -/
def snapRestoresCard : Claim7 := { stood := { row := snapRestoresRow, standIns := [], harness := (true, "20715f5e82a4eb1d18d3a805e0373b3dfca355673ea4907a71bbde2d35d9a8f6"), looks := false }, kinds := [], alts := [], laidByText := true, laidKinds := [.data, .pinned], laidTests := true, laidLooks := .later }
def SnapRestoresCardSaid : Prop := Claim7.holds Tryz.pinned (.plain (OpenSpec.ofChange snapRestoresSpec)) snapRestoresCard

/-- THE TIED CARD OF 'arboretumlaw08.SnapStill'. -/
def snapStillCard : Claim7 := { stood := { row := snapStillRow, standIns := [], harness := (true, "20715f5e82a4eb1d18d3a805e0373b3dfca355673ea4907a71bbde2d35d9a8f6"), looks := false }, kinds := [], alts := [], laidByText := true, laidKinds := [.data, .pinned], laidTests := true, laidLooks := .later }
def SnapStillCardSaid : Prop := Claim7.holds Tryz.pinned (.plain (OpenSpec.ofChange snapStillSpec)) snapStillCard

/-- THE TIED CARD OF 'arboretumlaw08.SnapTrees'. -/
def snapTreesCard : Claim7 := { stood := { row := snapTreesRow, standIns := [], harness := (true, "20715f5e82a4eb1d18d3a805e0373b3dfca355673ea4907a71bbde2d35d9a8f6"), looks := false }, kinds := [], alts := [], laidByText := true, laidKinds := [.data, .pinned], laidTests := true, laidLooks := .later }
def SnapTreesCardSaid : Prop := Claim7.holds Tryz.pinned (.plain (OpenSpec.ofChange snapTreesSpec)) snapTreesCard

/-- THE TIED CARD OF 'arboretumlaw08.SnapFuzzy'. -/
def snapFuzzyCard : Claim7 := { stood := { row := snapFuzzyRow, standIns := [], harness := (true, "20715f5e82a4eb1d18d3a805e0373b3dfca355673ea4907a71bbde2d35d9a8f6"), looks := false }, kinds := [], alts := [], laidByText := true, laidKinds := [.data, .pinned], laidTests := true, laidLooks := .later }
def SnapFuzzyCardSaid : Prop := Claim7.holds Tryz.pinned (.plain (OpenSpec.ofChange snapFuzzySpec)) snapFuzzyCard

/-- THE TIED CARD OF 'arboretumlaw08.SnapReads'. -/
def snapReadsCard : Claim7 := { stood := { row := snapReadsRow, standIns := [], harness := (true, "20715f5e82a4eb1d18d3a805e0373b3dfca355673ea4907a71bbde2d35d9a8f6"), looks := false }, kinds := [], alts := [], laidByText := true, laidKinds := [.data, .pinned], laidTests := true, laidLooks := .later }
def SnapReadsCardSaid : Prop := Claim7.holds Tryz.pinned (.plain (OpenSpec.ofChange snapReadsSpec)) snapReadsCard

/-- THE SECOND FORM's CARD OF 'arboretumlaw08.SnapBack'. -/
def snapBackUptoCard : Claim7 := { stood := { row := snapBackUptoRow, standIns := [], harness := (true, "20715f5e82a4eb1d18d3a805e0373b3dfca355673ea4907a71bbde2d35d9a8f6"), looks := false }, kinds := [], alts := [], laidByText := true, laidKinds := [.data, .pinned], laidTests := true, laidLooks := .later }
def SnapBackUptoCardSaid : Prop := Claim7.holds Tryz.pinned (.plain (OpenSpec.upto snapBackSpec)) snapBackUptoCard

/-- THE SECOND FORM's CARD OF 'arboretumlaw08.SnapRestores'. -/
def snapRestoresUptoCard : Claim7 := { stood := { row := snapRestoresUptoRow, standIns := [], harness := (true, "20715f5e82a4eb1d18d3a805e0373b3dfca355673ea4907a71bbde2d35d9a8f6"), looks := false }, kinds := [], alts := [], laidByText := true, laidKinds := [.data, .pinned], laidTests := true, laidLooks := .later }
def SnapRestoresUptoCardSaid : Prop := Claim7.holds Tryz.pinned (.plain (OpenSpec.upto snapRestoresSpec)) snapRestoresUptoCard

/-- THE SECOND FORM's CARD OF 'arboretumlaw08.SnapStill'. -/
def snapStillUptoCard : Claim7 := { stood := { row := snapStillUptoRow, standIns := [], harness := (true, "20715f5e82a4eb1d18d3a805e0373b3dfca355673ea4907a71bbde2d35d9a8f6"), looks := false }, kinds := [], alts := [], laidByText := true, laidKinds := [.data, .pinned], laidTests := true, laidLooks := .later }
def SnapStillUptoCardSaid : Prop := Claim7.holds Tryz.pinned (.plain (OpenSpec.upto snapStillSpec)) snapStillUptoCard

/-- THE SECOND FORM's CARD OF 'arboretumlaw08.SnapTrees'. -/
def snapTreesUptoCard : Claim7 := { stood := { row := snapTreesUptoRow, standIns := [], harness := (true, "20715f5e82a4eb1d18d3a805e0373b3dfca355673ea4907a71bbde2d35d9a8f6"), looks := false }, kinds := [], alts := [], laidByText := true, laidKinds := [.data, .pinned], laidTests := true, laidLooks := .later }
def SnapTreesUptoCardSaid : Prop := Claim7.holds Tryz.pinned (.plain (OpenSpec.upto snapTreesSpec)) snapTreesUptoCard

/-- THE SECOND FORM's CARD OF 'arboretumlaw08.SnapFuzzy'. -/
def snapFuzzyUptoCard : Claim7 := { stood := { row := snapFuzzyUptoRow, standIns := [], harness := (true, "20715f5e82a4eb1d18d3a805e0373b3dfca355673ea4907a71bbde2d35d9a8f6"), looks := false }, kinds := [], alts := [], laidByText := true, laidKinds := [.data, .pinned], laidTests := true, laidLooks := .later }
def SnapFuzzyUptoCardSaid : Prop := Claim7.holds Tryz.pinned (.plain (OpenSpec.upto snapFuzzySpec)) snapFuzzyUptoCard

/-- THE SECOND FORM's CARD OF 'arboretumlaw08.SnapReads'. -/
def snapReadsUptoCard : Claim7 := { stood := { row := snapReadsUptoRow, standIns := [], harness := (true, "20715f5e82a4eb1d18d3a805e0373b3dfca355673ea4907a71bbde2d35d9a8f6"), looks := false }, kinds := [], alts := [], laidByText := true, laidKinds := [.data, .pinned], laidTests := true, laidLooks := .later }
def SnapReadsUptoCardSaid : Prop := Claim7.holds Tryz.pinned (.plain (OpenSpec.upto snapReadsSpec)) snapReadsUptoCard
end Rows
end Go.Proofs.YtgppfpmmijbncaaGreatDoor
