/-
  DERIVED. GIVEN WITH THE SEED: THE CARDS: each row of YtbhkloaagkkioaaGreatDoorRows.lean that lists a variable, with what it lists TIED to the program's text (the seventh form; the later family's looks); each row that meets fmt, with fmt's text TOLD by the authors' own Lean function (tested against real Go, not proved from fmt's source: count such statements apart). THE CARD IS WHAT COUNTS. Prove the row's statement (the work); the ties are given (YtbhkloaagkkioaaGreatDoorTie.lean); close each card by the builder's one call (the guide's Derived/Test/ToyasCard.lean, 'card_holds'). Laid BY PROGRAM, IN A SANDBOX (cutbox-door.mjs). By AI agents, Wed Nov 11 2026. No macro, syntax, notation, axiom, sorry.
-/
import Derived.Test.YtbhkloaagkkioaaGreatDoorRows
import GoSem.ClaimSeven
namespace Go.Proofs.YtbhkloaagkkioaaGreatDoor
namespace Rows

/-- THE TIED CARD OF 'arboretumtop.TopShipped'. -/
def topShippedCard : Claim7 := { stood := { row := topShippedRow, standIns := [], harness := (true, "676b04ed14b54331d1a622b4c31e7b4139a4d3087ec4880672e6491a695fa27a"), looks := true }, kinds := [], alts := [], laidByText := true, laidKinds := [.data, .data, .data, .data, .pinned], laidTests := true, laidLooks := .later }
def TopShippedCardSaid : Prop := Claim7.holds Tryz.pinned (.plain (OpenSpec.ofChange topShippedSpec)) topShippedCard

/-- THE SECOND FORM's CARD OF 'arboretumtop.TopShipped'. -/
def topShippedUptoCard : Claim7 := { stood := { row := topShippedUptoRow, standIns := [], harness := (true, "676b04ed14b54331d1a622b4c31e7b4139a4d3087ec4880672e6491a695fa27a"), looks := true }, kinds := [], alts := [], laidByText := true, laidKinds := [.data, .data, .data, .data, .pinned], laidTests := true, laidLooks := .later }
def TopShippedUptoCardSaid : Prop := Claim7.holds Tryz.pinned (.plain (OpenSpec.upto topShippedSpec)) topShippedUptoCard
end Rows
end Go.Proofs.YtbhkloaagkkioaaGreatDoor
