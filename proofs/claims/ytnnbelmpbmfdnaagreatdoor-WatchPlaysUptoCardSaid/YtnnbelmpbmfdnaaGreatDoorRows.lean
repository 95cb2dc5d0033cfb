/-
  NARROWER THAN 'FOR EVERY INPUT', by the rows' own cells (each row's printed sentence says how): TreeOwners: loops, laid · TreeKeeps: loops, laid · TreeSessions: loops, laid · TreeAgain: loops, laid · TreeApart: loops, laid · TreePlays: loops, laid · WatchMoves: loops, laid · WatchPlays: loops, laid.
  DERIVED. THE GIVEN ROWS OF THIS SEAT. 8 by the template 'for every input the law returns true; each argument reads behind the call as it read before'; 0 by the template 'total and deterministic' (their statements: YtnnbelmpbmfdnaaGreatDoorTotals.lean).
  GIVEN WITH THE SEED: the statements are not yours to turn. If you find one false, say at which input.
  Laid BY PROGRAM, IN A SANDBOX (cutbox-rows.mjs): the forced cells as the released guide's own fill.sh prints them over the translation 945114bf64c3660e… (all of the seat's roots in one cut). By AI agents, Wed Nov 11 2026. No macro, syntax, notation, axiom, sorry.
-/
import Derived.Test.YtnnbelmpbmfdnaaGreatDoorChecked
import GoSem.PinnedTables
import GoSem.Claim
import GoSem.ClaimJoined
import GoSem.ClaimMapViews
import Derived.JoinedTies
import Derived.KernelRfl
namespace Go.Proofs.YtnnbelmpbmfdnaaGreatDoor
/- THE CELL 'sum', in the pinned program and in every row, IS THE sha256 OF THE DUMP (.gsa) THAT YtnnbelmpbmfdnaaGreatDoorProg.lean LOADS. Nothing in Lean hashes anything: it is a label: what it is worth is what the hold of that sum in a sandbox is worth. -/
noncomputable def Tryz.pinned : Pinned := { name := "ytnnbelmpbmfdnaagreatdoor", sum := "945114bf64c3660e1916f5606ae53ebe3dee16ea41d0bd47d520988a613f701e", checked := Tryz.checked }
namespace Rows
def none {H : Type} : Left H := { results := [], args := [] }

/- WHAT THE LISTED PACKAGE-LEVEL VARIABLES READ AS WHEN THE CALL BEGINS. Each datum BY PROGRAM (the guide's laid-datum.mjs) off the statement by which the dump's own 'gosem.cut.vars' lays the variable. In a bare row this is a premise. The card (YtnnbelmpbmfdnaaGreatDoorCards.lean) ties it to the program's text. -/
def laid_unicode_utf8_acceptRanges {H : Type} : DataW H := .agg [.agg [.lit (.int .u8 128), .lit (.int .u8 191)], .agg [.lit (.int .u8 160), .lit (.int .u8 191)], .agg [.lit (.int .u8 128), .lit (.int .u8 159)], .agg [.lit (.int .u8 144), .lit (.int .u8 191)], .agg [.lit (.int .u8 128), .lit (.int .u8 143)], .agg [.lit (.int .u8 0), .lit (.int .u8 0)], .agg [.lit (.int .u8 0), .lit (.int .u8 0)], .agg [.lit (.int .u8 0), .lit (.int .u8 0)], .agg [.lit (.int .u8 0), .lit (.int .u8 0)], .agg [.lit (.int .u8 0), .lit (.int .u8 0)], .agg [.lit (.int .u8 0), .lit (.int .u8 0)], .agg [.lit (.int .u8 0), .lit (.int .u8 0)], .agg [.lit (.int .u8 0), .lit (.int .u8 0)], .agg [.lit (.int .u8 0), .lit (.int .u8 0)], .agg [.lit (.int .u8 0), .lit (.int .u8 0)], .agg [.lit (.int .u8 0), .lit (.int .u8 0)]]
/-- One of Go's own tables, pinned by name: the form's constant. -/
def laid_unicode_utf8_first : DataW Unit := Go.Pinned.utf8First

/-- 'arboretumlaw07.TreeOwners': WHATEVER THE INPUT: true; the input reads as it did. -/
def treeOwnersSpec : ChangeSpec := { name := "treeOwners", fn := fun _ => fun
  | [d] => { results := [.lit (.bool true)], args := [d] }
  | _ => none }
def treeOwnersRow : OpenClaim := { program := "ytnnbelmpbmfdnaagreatdoor", sum := "945114bf64c3660e1916f5606ae53ebe3dee16ea41d0bd47d520988a613f701e", func := "arboretum/arboretumlaw07.TreeOwners", spec := "treeOwners", inPlace := ["internal/bytealg.CountString", "internal/bytealg.IndexByteString", "internal/bytealg.IndexString"], unfollowed := true, recurses := true, named := ["unicode/utf8.first", "unicode/utf8.acceptRanges", "internal/bytealg.MaxLen"], loops := true, plainKeys := false, apart := false, laid := [("unicode/utf8.acceptRanges", laid_unicode_utf8_acceptRanges), ("unicode/utf8.first", laid_unicode_utf8_first)] }
def TreeOwnersSaid : Prop := treeOwnersRow.holds Tryz.pinned (OpenSpec.ofChange treeOwnersSpec)

/-- ITS FALSE NEIGHBOUR: 'it returns false'. Refute it at one input. -/
def treeOwnersWrong : ChangeSpec := { name := "treeOwners", fn := fun _ => fun
  | [d] => { results := [.lit (.bool false)], args := [d] }
  | _ => none }
def TreeOwnersWrongFalsely : Prop := treeOwnersRow.holds Tryz.pinned (OpenSpec.ofChange treeOwnersWrong)

/-- 'arboretumlaw07.TreeKeeps': WHATEVER THE INPUT: true; the input reads as it did. -/
def treeKeepsSpec : ChangeSpec := { name := "treeKeeps", fn := fun _ => fun
  | [d] => { results := [.lit (.bool true)], args := [d] }
  | _ => none }
def treeKeepsRow : OpenClaim := { program := "ytnnbelmpbmfdnaagreatdoor", sum := "945114bf64c3660e1916f5606ae53ebe3dee16ea41d0bd47d520988a613f701e", func := "arboretum/arboretumlaw07.TreeKeeps", spec := "treeKeeps", inPlace := ["internal/bytealg.CountString", "internal/bytealg.IndexByteString", "internal/bytealg.IndexString"], unfollowed := true, recurses := true, named := ["unicode/utf8.first", "unicode/utf8.acceptRanges", "internal/bytealg.MaxLen"], loops := true, plainKeys := false, apart := false, laid := [("unicode/utf8.acceptRanges", laid_unicode_utf8_acceptRanges), ("unicode/utf8.first", laid_unicode_utf8_first)] }
def TreeKeepsSaid : Prop := treeKeepsRow.holds Tryz.pinned (OpenSpec.ofChange treeKeepsSpec)

/-- ITS FALSE NEIGHBOUR: 'it returns false'. Refute it at one input. -/
def treeKeepsWrong : ChangeSpec := { name := "treeKeeps", fn := fun _ => fun
  | [d] => { results := [.lit (.bool false)], args := [d] }
  | _ => none }
def TreeKeepsWrongFalsely : Prop := treeKeepsRow.holds Tryz.pinned (OpenSpec.ofChange treeKeepsWrong)

/-- 'arboretumlaw07.TreeSessions': WHATEVER THE INPUT: true; the input reads as it did. -/
def treeSessionsSpec : ChangeSpec := { name := "treeSessions", fn := fun _ => fun
  | [d1, d2] => { results := [.lit (.bool true)], args := [d1, d2] }
  | _ => none }
def treeSessionsRow : OpenClaim := { program := "ytnnbelmpbmfdnaagreatdoor", sum := "945114bf64c3660e1916f5606ae53ebe3dee16ea41d0bd47d520988a613f701e", func := "arboretum/arboretumlaw07.TreeSessions", spec := "treeSessions", inPlace := ["internal/bytealg.CountString", "internal/bytealg.IndexByteString", "internal/bytealg.IndexString"], unfollowed := true, recurses := true, named := ["unicode/utf8.first", "unicode/utf8.acceptRanges", "internal/bytealg.MaxLen"], loops := true, plainKeys := false, apart := false, laid := [("unicode/utf8.acceptRanges", laid_unicode_utf8_acceptRanges), ("unicode/utf8.first", laid_unicode_utf8_first)] }
def TreeSessionsSaid : Prop := treeSessionsRow.holds Tryz.pinned (OpenSpec.ofChange treeSessionsSpec)

/-- ITS FALSE NEIGHBOUR: 'it returns false'. Refute it at one input. -/
def treeSessionsWrong : ChangeSpec := { name := "treeSessions", fn := fun _ => fun
  | [d1, d2] => { results := [.lit (.bool false)], args := [d1, d2] }
  | _ => none }
def TreeSessionsWrongFalsely : Prop := treeSessionsRow.holds Tryz.pinned (OpenSpec.ofChange treeSessionsWrong)

/-- 'arboretumlaw07.TreeAgain': WHATEVER THE INPUT: true; the input reads as it did. -/
def treeAgainSpec : ChangeSpec := { name := "treeAgain", fn := fun _ => fun
  | [d1, d2, d3] => { results := [.lit (.bool true)], args := [d1, d2, d3] }
  | _ => none }
def treeAgainRow : OpenClaim := { program := "ytnnbelmpbmfdnaagreatdoor", sum := "945114bf64c3660e1916f5606ae53ebe3dee16ea41d0bd47d520988a613f701e", func := "arboretum/arboretumlaw07.TreeAgain", spec := "treeAgain", inPlace := ["internal/bytealg.CountString", "internal/bytealg.IndexByteString", "internal/bytealg.IndexString", "maps.clone"], unfollowed := true, recurses := true, named := ["unicode/utf8.first", "unicode/utf8.acceptRanges", "internal/bytealg.MaxLen"], loops := true, plainKeys := false, apart := false, laid := [("unicode/utf8.acceptRanges", laid_unicode_utf8_acceptRanges), ("unicode/utf8.first", laid_unicode_utf8_first)] }
def TreeAgainSaid : Prop := treeAgainRow.holds Tryz.pinned (OpenSpec.ofChange treeAgainSpec)

/-- ITS FALSE NEIGHBOUR: 'it returns false'. Refute it at one input. -/
def treeAgainWrong : ChangeSpec := { name := "treeAgain", fn := fun _ => fun
  | [d1, d2, d3] => { results := [.lit (.bool false)], args := [d1, d2, d3] }
  | _ => none }
def TreeAgainWrongFalsely : Prop := treeAgainRow.holds Tryz.pinned (OpenSpec.ofChange treeAgainWrong)

/-- 'arboretumlaw07.TreeApart': WHATEVER THE INPUT: true; the input reads as it did. -/
def treeApartSpec : ChangeSpec := { name := "treeApart", fn := fun _ => fun
  | [d1, d2, d3] => { results := [.lit (.bool true)], args := [d1, d2, d3] }
  | _ => none }
def treeApartRow : OpenClaim := { program := "ytnnbelmpbmfdnaagreatdoor", sum := "945114bf64c3660e1916f5606ae53ebe3dee16ea41d0bd47d520988a613f701e", func := "arboretum/arboretumlaw07.TreeApart", spec := "treeApart", inPlace := ["internal/bytealg.CountString", "internal/bytealg.IndexByteString", "internal/bytealg.IndexString", "maps.clone"], unfollowed := true, recurses := true, named := ["unicode/utf8.first", "unicode/utf8.acceptRanges", "internal/bytealg.MaxLen"], loops := true, plainKeys := false, apart := false, laid := [("unicode/utf8.acceptRanges", laid_unicode_utf8_acceptRanges), ("unicode/utf8.first", laid_unicode_utf8_first)] }
def TreeApartSaid : Prop := treeApartRow.holds Tryz.pinned (OpenSpec.ofChange treeApartSpec)

/-- ITS FALSE NEIGHBOUR: 'it returns false'. Refute it at one input. -/
def treeApartWrong : ChangeSpec := { name := "treeApart", fn := fun _ => fun
  | [d1, d2, d3] => { results := [.lit (.bool false)], args := [d1, d2, d3] }
  | _ => none }
def TreeApartWrongFalsely : Prop := treeApartRow.holds Tryz.pinned (OpenSpec.ofChange treeApartWrong)

/-- 'arboretumlaw07.TreePlays': WHATEVER THE INPUT: true; the input reads as it did. -/
def treePlaysSpec : ChangeSpec := { name := "treePlays", fn := fun _ => fun
  | [d] => { results := [.lit (.bool true)], args := [d] }
  | _ => none }
def treePlaysRow : OpenClaim := { program := "ytnnbelmpbmfdnaagreatdoor", sum := "945114bf64c3660e1916f5606ae53ebe3dee16ea41d0bd47d520988a613f701e", func := "arboretum/arboretumlaw07.TreePlays", spec := "treePlays", inPlace := ["internal/bytealg.CountString", "internal/bytealg.IndexByteString", "internal/bytealg.IndexString", "maps.clone"], unfollowed := true, recurses := true, named := ["unicode/utf8.first", "unicode/utf8.acceptRanges", "internal/bytealg.MaxLen"], loops := true, plainKeys := false, apart := false, laid := [("unicode/utf8.acceptRanges", laid_unicode_utf8_acceptRanges), ("unicode/utf8.first", laid_unicode_utf8_first)] }
def TreePlaysSaid : Prop := treePlaysRow.holds Tryz.pinned (OpenSpec.ofChange treePlaysSpec)

/-- ITS FALSE NEIGHBOUR: 'it returns false'. Refute it at one input. -/
def treePlaysWrong : ChangeSpec := { name := "treePlays", fn := fun _ => fun
  | [d] => { results := [.lit (.bool false)], args := [d] }
  | _ => none }
def TreePlaysWrongFalsely : Prop := treePlaysRow.holds Tryz.pinned (OpenSpec.ofChange treePlaysWrong)

/-- 'arboretumlaw11.WatchMoves': WHATEVER THE INPUT: true; the input reads as it did. -/
def watchMovesSpec : ChangeSpec := { name := "watchMoves", fn := fun _ => fun
  | [d1, d2, d3, d4, d5] => { results := [.lit (.bool true)], args := [d1, d2, d3, d4, d5] }
  | _ => none }
def watchMovesRow : OpenClaim := { program := "ytnnbelmpbmfdnaagreatdoor", sum := "945114bf64c3660e1916f5606ae53ebe3dee16ea41d0bd47d520988a613f701e", func := "arboretum/arboretumlaw11.WatchMoves", spec := "watchMoves", inPlace := ["internal/bytealg.CountString", "internal/bytealg.IndexByteString", "internal/bytealg.IndexString"], unfollowed := true, recurses := true, named := ["unicode/utf8.first", "unicode/utf8.acceptRanges", "internal/bytealg.MaxLen"], loops := true, plainKeys := false, apart := false, laid := [("unicode/utf8.acceptRanges", laid_unicode_utf8_acceptRanges), ("unicode/utf8.first", laid_unicode_utf8_first)] }
def WatchMovesSaid : Prop := watchMovesRow.holds Tryz.pinned (OpenSpec.ofChange watchMovesSpec)

/-- ITS FALSE NEIGHBOUR: 'it returns false'. Refute it at one input. -/
def watchMovesWrong : ChangeSpec := { name := "watchMoves", fn := fun _ => fun
  | [d1, d2, d3, d4, d5] => { results := [.lit (.bool false)], args := [d1, d2, d3, d4, d5] }
  | _ => none }
def WatchMovesWrongFalsely : Prop := watchMovesRow.holds Tryz.pinned (OpenSpec.ofChange watchMovesWrong)

/-- 'arboretumlaw11.WatchPlays': WHATEVER THE INPUT: true; the input reads as it did. -/
def watchPlaysSpec : ChangeSpec := { name := "watchPlays", fn := fun _ => fun
  | [d] => { results := [.lit (.bool true)], args := [d] }
  | _ => none }
def watchPlaysRow : OpenClaim := { program := "ytnnbelmpbmfdnaagreatdoor", sum := "945114bf64c3660e1916f5606ae53ebe3dee16ea41d0bd47d520988a613f701e", func := "arboretum/arboretumlaw11.WatchPlays", spec := "watchPlays", inPlace := ["internal/bytealg.CountString", "internal/bytealg.IndexByteString", "internal/bytealg.IndexString"], unfollowed := true, recurses := true, named := ["unicode/utf8.first", "unicode/utf8.acceptRanges", "internal/bytealg.MaxLen"], loops := true, plainKeys := false, apart := false, laid := [("unicode/utf8.acceptRanges", laid_unicode_utf8_acceptRanges), ("unicode/utf8.first", laid_unicode_utf8_first)] }
def WatchPlaysSaid : Prop := watchPlaysRow.holds Tryz.pinned (OpenSpec.ofChange watchPlaysSpec)

/-- ITS FALSE NEIGHBOUR: 'it returns false'. Refute it at one input. -/
def watchPlaysWrong : ChangeSpec := { name := "watchPlays", fn := fun _ => fun
  | [d] => { results := [.lit (.bool false)], args := [d] }
  | _ => none }
def WatchPlaysWrongFalsely : Prop := watchPlaysRow.holds Tryz.pinned (OpenSpec.ofChange watchPlaysWrong)

/- THE SECOND FORM. 'bulk': how many values and letters a reading holds, each counted each time it is reached (what is shared counts as often as it is met; a slice's spare places count too). A statement '..UptoSaid' is the law's where the arguments, and the package variables that the reading takes, are together of bulk at most 1048576: NARROWER than '..Said'. Prove '..Said' where nothing that the law and all that it calls make is longer than what came in: it says more and counts as full. Else prove '..UptoSaid'. A law counts once. -/
mutual
def uptoBulk {H : Type} : DataW H → Nat
  | .lit (.string bytes) => bytes.length + 1
  | .lit _ => 1
  | .nil => 1
  | .ptr d => uptoBulk d + 1
  | .slice elems spare => uptoBulkAll elems + uptoBulkAll spare + 1
  | .agg parts => uptoBulkAll parts + 1
  | .iface _ d => uptoBulk d + 1
  | .map entries => uptoBulkEntries entries + 1
  | .held _ => 1
def uptoBulkAll {H : Type} : List (DataW H) → Nat
  | [] => 0
  | d :: r => uptoBulk d + uptoBulkAll r
def uptoBulkEntries {H : Type} : List (Lit × DataW H) → Nat
  | [] => 0
  | x :: r => uptoBulkEntry x + uptoBulkEntries r
def uptoBulkEntry {H : Type} : Lit × DataW H → Nat
  | (.string bytes, d) => bytes.length + uptoBulk d + 1
  | (_, d) => uptoBulk d + 1
 end
def uptoSmall : (H : Type) → List (DataW H) → Bool := fun _ ds => decide (uptoBulkAll ds ≤ 1048576)
def OpenSpec.upto (s : _root_.Go.ChangeSpec) : _root_.Go.OpenSpec := { _root_.Go.OpenSpec.ofChange s with cond := some uptoSmall }

/-- 'arboretumlaw07.TreeOwners', WHERE WHAT IT READS IS OF BULK AT MOST 1048576: true; the input reads as it did. -/
def treeOwnersUptoRow : OpenClaim := { program := "ytnnbelmpbmfdnaagreatdoor", sum := "945114bf64c3660e1916f5606ae53ebe3dee16ea41d0bd47d520988a613f701e", func := "arboretum/arboretumlaw07.TreeOwners", spec := "treeOwners", inPlace := ["internal/bytealg.CountString", "internal/bytealg.IndexByteString", "internal/bytealg.IndexString"], unfollowed := true, recurses := true, named := ["unicode/utf8.first", "unicode/utf8.acceptRanges", "internal/bytealg.MaxLen"], loops := true, plainKeys := false, apart := false, laid := [("unicode/utf8.acceptRanges", laid_unicode_utf8_acceptRanges), ("unicode/utf8.first", laid_unicode_utf8_first)], narrowed := true }
def TreeOwnersUptoSaid : Prop := treeOwnersUptoRow.holds Tryz.pinned (OpenSpec.upto treeOwnersSpec)

/-- 'arboretumlaw07.TreeKeeps', WHERE WHAT IT READS IS OF BULK AT MOST 1048576: true; the input reads as it did. -/
def treeKeepsUptoRow : OpenClaim := { program := "ytnnbelmpbmfdnaagreatdoor", sum := "945114bf64c3660e1916f5606ae53ebe3dee16ea41d0bd47d520988a613f701e", func := "arboretum/arboretumlaw07.TreeKeeps", spec := "treeKeeps", inPlace := ["internal/bytealg.CountString", "internal/bytealg.IndexByteString", "internal/bytealg.IndexString"], unfollowed := true, recurses := true, named := ["unicode/utf8.first", "unicode/utf8.acceptRanges", "internal/bytealg.MaxLen"], loops := true, plainKeys := false, apart := false, laid := [("unicode/utf8.acceptRanges", laid_unicode_utf8_acceptRanges), ("unicode/utf8.first", laid_unicode_utf8_first)], narrowed := true }
def TreeKeepsUptoSaid : Prop := treeKeepsUptoRow.holds Tryz.pinned (OpenSpec.upto treeKeepsSpec)

/-- 'arboretumlaw07.TreeSessions', WHERE WHAT IT READS IS OF BULK AT MOST 1048576: true; the input reads as it did. -/
def treeSessionsUptoRow : OpenClaim := { program := "ytnnbelmpbmfdnaagreatdoor", sum := "945114bf64c3660e1916f5606ae53ebe3dee16ea41d0bd47d520988a613f701e", func := "arboretum/arboretumlaw07.TreeSessions", spec := "treeSessions", inPlace := ["internal/bytealg.CountString", "internal/bytealg.IndexByteString", "internal/bytealg.IndexString"], unfollowed := true, recurses := true, named := ["unicode/utf8.first", "unicode/utf8.acceptRanges", "internal/bytealg.MaxLen"], loops := true, plainKeys := false, apart := false, laid := [("unicode/utf8.acceptRanges", laid_unicode_utf8_acceptRanges), ("unicode/utf8.first", laid_unicode_utf8_first)], narrowed := true }
def TreeSessionsUptoSaid : Prop := treeSessionsUptoRow.holds Tryz.pinned (OpenSpec.upto treeSessionsSpec)

/-- 'arboretumlaw07.TreeAgain', WHERE WHAT IT READS IS OF BULK AT MOST 1048576: true; the input reads as it did. -/
def treeAgainUptoRow : OpenClaim := { program := "ytnnbelmpbmfdnaagreatdoor", sum := "945114bf64c3660e1916f5606ae53ebe3dee16ea41d0bd47d520988a613f701e", func := "arboretum/arboretumlaw07.TreeAgain", spec := "treeAgain", inPlace := ["internal/bytealg.CountString", "internal/bytealg.IndexByteString", "internal/bytealg.IndexString", "maps.clone"], unfollowed := true, recurses := true, named := ["unicode/utf8.first", "unicode/utf8.acceptRanges", "internal/bytealg.MaxLen"], loops := true, plainKeys := false, apart := false, laid := [("unicode/utf8.acceptRanges", laid_unicode_utf8_acceptRanges), ("unicode/utf8.first", laid_unicode_utf8_first)], narrowed := true }
def TreeAgainUptoSaid : Prop := treeAgainUptoRow.holds Tryz.pinned (OpenSpec.upto treeAgainSpec)

/-- 'arboretumlaw07.TreeApart', WHERE WHAT IT READS IS OF BULK AT MOST 1048576: true; the input reads as it did. -/
def treeApartUptoRow : OpenClaim := { program := "ytnnbelmpbmfdnaagreatdoor", sum := "945114bf64c3660e1916f5606ae53ebe3dee16ea41d0bd47d520988a613f701e", func := "arboretum/arboretumlaw07.TreeApart", spec := "treeApart", inPlace := ["internal/bytealg.CountString", "internal/bytealg.IndexByteString", "internal/bytealg.IndexString", "maps.clone"], unfollowed := true, recurses := true, named := ["unicode/utf8.first", "unicode/utf8.acceptRanges", "internal/bytealg.MaxLen"], loops := true, plainKeys := false, apart := false, laid := [("unicode/utf8.acceptRanges", laid_unicode_utf8_acceptRanges), ("unicode/utf8.first", laid_unicode_utf8_first)], narrowed := true }
def TreeApartUptoSaid : Prop := treeApartUptoRow.holds Tryz.pinned (OpenSpec.upto treeApartSpec)

/-- 'arboretumlaw07.TreePlays', WHERE WHAT IT READS IS OF BULK AT MOST 1048576: true; the input reads as it did. -/
def treePlaysUptoRow : OpenClaim := { program := "ytnnbelmpbmfdnaagreatdoor", sum := "945114bf64c3660e1916f5606ae53ebe3dee16ea41d0bd47d520988a613f701e", func := "arboretum/arboretumlaw07.TreePlays", spec := "treePlays", inPlace := ["internal/bytealg.CountString", "internal/bytealg.IndexByteString", "internal/bytealg.IndexString", "maps.clone"], unfollowed := true, recurses := true, named := ["unicode/utf8.first", "unicode/utf8.acceptRanges", "internal/bytealg.MaxLen"], loops := true, plainKeys := false, apart := false, laid := [("unicode/utf8.acceptRanges", laid_unicode_utf8_acceptRanges), ("unicode/utf8.first", laid_unicode_utf8_first)], narrowed := true }
def TreePlaysUptoSaid : Prop := treePlaysUptoRow.holds Tryz.pinned (OpenSpec.upto treePlaysSpec)

/-- 'arboretumlaw11.WatchMoves', WHERE WHAT IT READS IS OF BULK AT MOST 1048576: true; the input reads as it did. -/
def watchMovesUptoRow : OpenClaim := { program := "ytnnbelmpbmfdnaagreatdoor", sum := "945114bf64c3660e1916f5606ae53ebe3dee16ea41d0bd47d520988a613f701e", func := "arboretum/arboretumlaw11.WatchMoves", spec := "watchMoves", inPlace := ["internal/bytealg.CountString", "internal/bytealg.IndexByteString", "internal/bytealg.IndexString"], unfollowed := true, recurses := true, named := ["unicode/utf8.first", "unicode/utf8.acceptRanges", "internal/bytealg.MaxLen"], loops := true, plainKeys := false, apart := false, laid := [("unicode/utf8.acceptRanges", laid_unicode_utf8_acceptRanges), ("unicode/utf8.first", laid_unicode_utf8_first)], narrowed := true }
def WatchMovesUptoSaid : Prop := watchMovesUptoRow.holds Tryz.pinned (OpenSpec.upto watchMovesSpec)

/-- 'arboretumlaw11.WatchPlays', WHERE WHAT IT READS IS OF BULK AT MOST 1048576: true; the input reads as it did. -/
def watchPlaysUptoRow : OpenClaim := { program := "ytnnbelmpbmfdnaagreatdoor", sum := "945114bf64c3660e1916f5606ae53ebe3dee16ea41d0bd47d520988a613f701e", func := "arboretum/arboretumlaw11.WatchPlays", spec := "watchPlays", inPlace := ["internal/bytealg.CountString", "internal/bytealg.IndexByteString", "internal/bytealg.IndexString"], unfollowed := true, recurses := true, named := ["unicode/utf8.first", "unicode/utf8.acceptRanges", "internal/bytealg.MaxLen"], loops := true, plainKeys := false, apart := false, laid := [("unicode/utf8.acceptRanges", laid_unicode_utf8_acceptRanges), ("unicode/utf8.first", laid_unicode_utf8_first)], narrowed := true }
def WatchPlaysUptoSaid : Prop := watchPlaysUptoRow.holds Tryz.pinned (OpenSpec.upto watchPlaysSpec)

end Rows
end Go.Proofs.YtnnbelmpbmfdnaaGreatDoor
