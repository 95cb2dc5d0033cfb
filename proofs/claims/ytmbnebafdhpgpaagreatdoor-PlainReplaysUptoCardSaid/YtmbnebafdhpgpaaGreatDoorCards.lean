/-
  DERIVED. GIVEN WITH THE SEED: THE CARDS: each row of YtmbnebafdhpgpaaGreatDoorRows.lean that lists a variable, with what it lists TIED to the program's text (the seventh form; the later family's looks); each row that meets fmt, with fmt's text TOLD by the authors' own Lean function (tested against real Go, not proved from fmt's source: count such statements apart). THE CARD IS WHAT COUNTS. Prove the row's statement (the work); the ties are given (YtmbnebafdhpgpaaGreatDoorTie.lean); close each card by the builder's one call (the guide's Derived/Test/ToyasCard.lean, 'card_holds'). Laid BY PROGRAM, IN A SANDBOX (cutbox-door.mjs). By AI agents, Wed Nov 11 2026. No macro, syntax, notation, axiom, sorry.
-/
import Derived.Test.YtmbnebafdhpgpaaGreatDoorRows
import GoSem.ClaimSeven
namespace Go.Proofs.YtmbnebafdhpgpaaGreatDoor
namespace Rows

/-- THE TIED CARD OF 'arboretumlaw13.PlainMultis'. -/
def plainMultisCard : Claim7 := { stood := { row := plainMultisRow, standIns := [], harness := (true, "2d756ca4ca65f8400f55f78f84dd009570e788ae6970907821078dd711497eff"), looks := true }, kinds := [], alts := [], laidByText := true, laidKinds := [.data, .data, .data, .data, .pinned], laidTests := true, laidLooks := .later }
def PlainMultisCardSaid : Prop := Claim7.holds Tryz.pinned (.plain (OpenSpec.ofChange plainMultisSpec)) plainMultisCard

/-- THE TIED CARD OF 'arboretumlaw13.PlainOnce'. -/
def plainOnceCard : Claim7 := { stood := { row := plainOnceRow, standIns := [], harness := (true, "2d756ca4ca65f8400f55f78f84dd009570e788ae6970907821078dd711497eff"), looks := true }, kinds := [], alts := [], laidByText := true, laidKinds := [.data, .data, .data, .data, .pinned], laidTests := true, laidLooks := .later }
def PlainOnceCardSaid : Prop := Claim7.holds Tryz.pinned (.plain (OpenSpec.ofChange plainOnceSpec)) plainOnceCard

/-- THE TIED CARD OF 'arboretumlaw13.PlainRefused'. -/
def plainRefusedCard : Claim7 := { stood := { row := plainRefusedRow, standIns := [], harness := (true, "2d756ca4ca65f8400f55f78f84dd009570e788ae6970907821078dd711497eff"), looks := true }, kinds := [], alts := [], laidByText := true, laidKinds := [.data, .data, .data, .data, .pinned], laidTests := true, laidLooks := .later }
def PlainRefusedCardSaid : Prop := Claim7.holds Tryz.pinned (.plain (OpenSpec.ofChange plainRefusedSpec)) plainRefusedCard

/-- THE TIED CARD OF 'arboretumlaw13.PlainReplays'. -/
def plainReplaysCard : Claim7 := { stood := { row := plainReplaysRow, standIns := [], harness := (true, "2d756ca4ca65f8400f55f78f84dd009570e788ae6970907821078dd711497eff"), looks := true }, kinds := [], alts := [], laidByText := true, laidKinds := [.data, .data, .data, .data, .pinned], laidTests := true, laidLooks := .later }
def PlainReplaysCardSaid : Prop := Claim7.holds Tryz.pinned (.plain (OpenSpec.ofChange plainReplaysSpec)) plainReplaysCard

/-- THE SECOND FORM's CARD OF 'arboretumlaw13.PlainMultis'. -/
def plainMultisUptoCard : Claim7 := { stood := { row := plainMultisUptoRow, standIns := [], harness := (true, "2d756ca4ca65f8400f55f78f84dd009570e788ae6970907821078dd711497eff"), looks := true }, kinds := [], alts := [], laidByText := true, laidKinds := [.data, .data, .data, .data, .pinned], laidTests := true, laidLooks := .later }
def PlainMultisUptoCardSaid : Prop := Claim7.holds Tryz.pinned (.plain (OpenSpec.upto plainMultisSpec)) plainMultisUptoCard

/-- THE SECOND FORM's CARD OF 'arboretumlaw13.PlainOnce'. -/
def plainOnceUptoCard : Claim7 := { stood := { row := plainOnceUptoRow, standIns := [], harness := (true, "2d756ca4ca65f8400f55f78f84dd009570e788ae6970907821078dd711497eff"), looks := true }, kinds := [], alts := [], laidByText := true, laidKinds := [.data, .data, .data, .data, .pinned], laidTests := true, laidLooks := .later }
def PlainOnceUptoCardSaid : Prop := Claim7.holds Tryz.pinned (.plain (OpenSpec.upto plainOnceSpec)) plainOnceUptoCard

/-- THE SECOND FORM's CARD OF 'arboretumlaw13.PlainRefused'. -/
def plainRefusedUptoCard : Claim7 := { stood := { row := plainRefusedUptoRow, standIns := [], harness := (true, "2d756ca4ca65f8400f55f78f84dd009570e788ae6970907821078dd711497eff"), looks := true }, kinds := [], alts := [], laidByText := true, laidKinds := [.data, .data, .data, .data, .pinned], laidTests := true, laidLooks := .later }
def PlainRefusedUptoCardSaid : Prop := Claim7.holds Tryz.pinned (.plain (OpenSpec.upto plainRefusedSpec)) plainRefusedUptoCard

/-- THE SECOND FORM's CARD OF 'arboretumlaw13.PlainReplays'. -/
def plainReplaysUptoCard : Claim7 := { stood := { row := plainReplaysUptoRow, standIns := [], harness := (true, "2d756ca4ca65f8400f55f78f84dd009570e788ae6970907821078dd711497eff"), looks := true }, kinds := [], alts := [], laidByText := true, laidKinds := [.data, .data, .data, .data, .pinned], laidTests := true, laidLooks := .later }
def PlainReplaysUptoCardSaid : Prop := Claim7.holds Tryz.pinned (.plain (OpenSpec.upto plainReplaysSpec)) plainReplaysUptoCard
end Rows
end Go.Proofs.YtmbnebafdhpgpaaGreatDoor
