/-
  NARROWER THAN 'FOR EVERY INPUT', by the rows' own cells (each row's printed sentence says how): SnapBack: loops, laid · SnapRestores: loops, laid · SnapStill: loops, laid · SnapTrees: laid · SnapFuzzy: loops, laid · SnapReads: loops, laid.
  DERIVED. THE GIVEN ROWS OF THIS SEAT. 6 by the template 'for every input the law returns true; each argument reads behind the call as it read before'; 0 by the template 'total and deterministic' (their statements: YtgppfpmmijbncaaGreatDoorTotals.lean).
  GIVEN WITH THE SEED: the statements are not yours to turn. If you find one false, say at which input.
  Laid BY PROGRAM, IN A SANDBOX (cutbox-rows.mjs): the forced cells as the released guide's own fill.sh prints them over the translation 56dd0da36b930d1e… (all of the seat's roots in one cut). By AI agents, Wed Nov 11 2026. No macro, syntax, notation, axiom, sorry.
-/
import Derived.Test.YtgppfpmmijbncaaGreatDoorChecked
import GoSem.PinnedTables
import GoSem.Claim
import GoSem.ClaimJoined
import GoSem.ClaimMapViews
import Derived.JoinedTies
import Derived.KernelRfl
namespace Go.Proofs.YtgppfpmmijbncaaGreatDoor
/- THE CELL 'sum', in the pinned program and in every row, IS THE sha256 OF THE DUMP (.gsa) THAT YtgppfpmmijbncaaGreatDoorProg.lean LOADS. Nothing in Lean hashes anything: it is a label: what it is worth is what the hold of that sum in a sandbox is worth. -/
noncomputable def Tryz.pinned : Pinned := { name := "ytgppfpmmijbncaagreatdoor", sum := "56dd0da36b930d1ef805f6cff56d2d77274eb8e68bec5ffe5a9e5cc2611c8344", checked := Tryz.checked }
namespace Rows
def none {H : Type} : Left H := { results := [], args := [] }

/- WHAT THE LISTED PACKAGE-LEVEL VARIABLES READ AS WHEN THE CALL BEGINS. Each datum BY PROGRAM (the guide's laid-datum.mjs) off the statement by which the dump's own 'gosem.cut.vars' lays the variable. In a bare row this is a premise. The card (YtgppfpmmijbncaaGreatDoorCards.lean) ties it to the program's text. -/
def laid_unicode_utf8_acceptRanges {H : Type} : DataW H := .agg [.agg [.lit (.int .u8 128), .lit (.int .u8 191)], .agg [.lit (.int .u8 160), .lit (.int .u8 191)], .agg [.lit (.int .u8 128), .lit (.int .u8 159)], .agg [.lit (.int .u8 144), .lit (.int .u8 191)], .agg [.lit (.int .u8 128), .lit (.int .u8 143)], .agg [.lit (.int .u8 0), .lit (.int .u8 0)], .agg [.lit (.int .u8 0), .lit (.int .u8 0)], .agg [.lit (.int .u8 0), .lit (.int .u8 0)], .agg [.lit (.int .u8 0), .lit (.int .u8 0)], .agg [.lit (.int .u8 0), .lit (.int .u8 0)], .agg [.lit (.int .u8 0), .lit (.int .u8 0)], .agg [.lit (.int .u8 0), .lit (.int .u8 0)], .agg [.lit (.int .u8 0), .lit (.int .u8 0)], .agg [.lit (.int .u8 0), .lit (.int .u8 0)], .agg [.lit (.int .u8 0), .lit (.int .u8 0)], .agg [.lit (.int .u8 0), .lit (.int .u8 0)]]
/-- One of Go's own tables, pinned by name: the form's constant. -/
def laid_unicode_utf8_first : DataW Unit := Go.Pinned.utf8First

/-- 'arboretumlaw08.SnapBack': WHATEVER THE INPUT: true; the input reads as it did. -/
def snapBackSpec : ChangeSpec := { name := "snapBack", fn := fun _ => fun
  | [d1, d2] => { results := [.lit (.bool true)], args := [d1, d2] }
  | _ => none }
def snapBackRow : OpenClaim := { program := "ytgppfpmmijbncaagreatdoor", sum := "56dd0da36b930d1ef805f6cff56d2d77274eb8e68bec5ffe5a9e5cc2611c8344", func := "arboretum/arboretumlaw08.SnapBack", spec := "snapBack", inPlace := ["internal/bytealg.CountString", "internal/bytealg.IndexByteString", "internal/bytealg.IndexString"], unfollowed := true, recurses := true, named := ["unicode/utf8.first", "unicode/utf8.acceptRanges", "internal/bytealg.MaxLen"], loops := true, apart := false, laid := [("unicode/utf8.acceptRanges", laid_unicode_utf8_acceptRanges), ("unicode/utf8.first", laid_unicode_utf8_first)] }
def SnapBackSaid : Prop := snapBackRow.holds Tryz.pinned (OpenSpec.ofChange snapBackSpec)

/-- ITS FALSE NEIGHBOUR: 'it returns false'. Refute it at one input. -/
def snapBackWrong : ChangeSpec := { name := "snapBack", fn := fun _ => fun
  | [d1, d2] => { results := [.lit (.bool false)], args := [d1, d2] }
  | _ => none }
def SnapBackWrongFalsely : Prop := snapBackRow.holds Tryz.pinned (OpenSpec.ofChange snapBackWrong)

/-- 'arboretumlaw08.SnapRestores': WHATEVER THE INPUT: true; the input reads as it did. -/
def snapRestoresSpec : ChangeSpec := { name := "snapRestores", fn := fun _ => fun
  | [d1, d2, d3, d4] => { results := [.lit (.bool true)], args := [d1, d2, d3, d4] }
  | _ => none }
def snapRestoresRow : OpenClaim := { program := "ytgppfpmmijbncaagreatdoor", sum := "56dd0da36b930d1ef805f6cff56d2d77274eb8e68bec5ffe5a9e5cc2611c8344", func := "arboretum/arboretumlaw08.SnapRestores", spec := "snapRestores", inPlace := ["internal/bytealg.CountString", "internal/bytealg.IndexByteString", "internal/bytealg.IndexString"], unfollowed := true, recurses := true, named := ["unicode/utf8.first", "unicode/utf8.acceptRanges", "internal/bytealg.MaxLen"], loops := true, apart := false, laid := [("unicode/utf8.acceptRanges", laid_unicode_utf8_acceptRanges), ("unicode/utf8.first", laid_unicode_utf8_first)] }
def SnapRestoresSaid : Prop := snapRestoresRow.holds Tryz.pinned (OpenSpec.ofChange snapRestoresSpec)

/-- ITS FALSE NEIGHBOUR: 'it returns false'. Refute it at one input. -/
def snapRestoresWrong : ChangeSpec := { name := "snapRestores", fn := fun _ => fun
  | [d1, d2, d3, d4] => { results := [.lit (.bool false)], args := [d1, d2, d3, d4] }
  | _ => none }
def SnapRestoresWrongFalsely : Prop := snapRestoresRow.holds Tryz.pinned (OpenSpec.ofChange snapRestoresWrong)

/-- 'arboretumlaw08.SnapStill': WHATEVER THE INPUT: true; the input reads as it did. -/
def snapStillSpec : ChangeSpec := { name := "snapStill", fn := fun _ => fun
  | [d1, d2] => { results := [.lit (.bool true)], args := [d1, d2] }
  | _ => none }
def snapStillRow : OpenClaim := { program := "ytgppfpmmijbncaagreatdoor", sum := "56dd0da36b930d1ef805f6cff56d2d77274eb8e68bec5ffe5a9e5cc2611c8344", func := "arboretum/arboretumlaw08.SnapStill", spec := "snapStill", inPlace := ["internal/bytealg.CountString", "internal/bytealg.IndexByteString", "internal/bytealg.IndexString"], unfollowed := true, recurses := true, named := ["unicode/utf8.first", "unicode/utf8.acceptRanges", "internal/bytealg.MaxLen"], loops := true, apart := false, laid := [("unicode/utf8.acceptRanges", laid_unicode_utf8_acceptRanges), ("unicode/utf8.first", laid_unicode_utf8_first)] }
def SnapStillSaid : Prop := snapStillRow.holds Tryz.pinned (OpenSpec.ofChange snapStillSpec)

/-- ITS FALSE NEIGHBOUR: 'it returns false'. Refute it at one input. -/
def snapStillWrong : ChangeSpec := { name := "snapStill", fn := fun _ => fun
  | [d1, d2] => { results := [.lit (.bool false)], args := [d1, d2] }
  | _ => none }
def SnapStillWrongFalsely : Prop := snapStillRow.holds Tryz.pinned (OpenSpec.ofChange snapStillWrong)

/-- 'arboretumlaw08.SnapTrees': WHATEVER THE INPUT: true; the input reads as it did. -/
def snapTreesSpec : ChangeSpec := { name := "snapTrees", fn := fun _ => fun
  | [d] => { results := [.lit (.bool true)], args := [d] }
  | _ => none }
def snapTreesRow : OpenClaim := { program := "ytgppfpmmijbncaagreatdoor", sum := "56dd0da36b930d1ef805f6cff56d2d77274eb8e68bec5ffe5a9e5cc2611c8344", func := "arboretum/arboretumlaw08.SnapTrees", spec := "snapTrees", inPlace := ["internal/bytealg.CountString", "internal/bytealg.IndexByteString", "internal/bytealg.IndexString"], unfollowed := true, recurses := true, named := ["unicode/utf8.first", "unicode/utf8.acceptRanges", "internal/bytealg.MaxLen"], apart := false, laid := [("unicode/utf8.acceptRanges", laid_unicode_utf8_acceptRanges), ("unicode/utf8.first", laid_unicode_utf8_first)] }
def SnapTreesSaid : Prop := snapTreesRow.holds Tryz.pinned (OpenSpec.ofChange snapTreesSpec)

/-- ITS FALSE NEIGHBOUR: 'it returns false'. Refute it at one input. -/
def snapTreesWrong : ChangeSpec := { name := "snapTrees", fn := fun _ => fun
  | [d] => { results := [.lit (.bool false)], args := [d] }
  | _ => none }
def SnapTreesWrongFalsely : Prop := snapTreesRow.holds Tryz.pinned (OpenSpec.ofChange snapTreesWrong)

/-- 'arboretumlaw08.SnapFuzzy': WHATEVER THE INPUT: true; the input reads as it did. -/
def snapFuzzySpec : ChangeSpec := { name := "snapFuzzy", fn := fun _ => fun
  | [d1, d2] => { results := [.lit (.bool true)], args := [d1, d2] }
  | _ => none }
def snapFuzzyRow : OpenClaim := { program := "ytgppfpmmijbncaagreatdoor", sum := "56dd0da36b930d1ef805f6cff56d2d77274eb8e68bec5ffe5a9e5cc2611c8344", func := "arboretum/arboretumlaw08.SnapFuzzy", spec := "snapFuzzy", inPlace := ["internal/bytealg.CountString", "internal/bytealg.IndexByteString", "internal/bytealg.IndexString"], unfollowed := true, recurses := true, named := ["unicode/utf8.first", "unicode/utf8.acceptRanges", "internal/bytealg.MaxLen"], loops := true, apart := false, laid := [("unicode/utf8.acceptRanges", laid_unicode_utf8_acceptRanges), ("unicode/utf8.first", laid_unicode_utf8_first)] }
def SnapFuzzySaid : Prop := snapFuzzyRow.holds Tryz.pinned (OpenSpec.ofChange snapFuzzySpec)

/-- ITS FALSE NEIGHBOUR: 'it returns false'. Refute it at one input. -/
def snapFuzzyWrong : ChangeSpec := { name := "snapFuzzy", fn := fun _ => fun
  | [d1, d2] => { results := [.lit (.bool false)], args := [d1, d2] }
  | _ => none }
def SnapFuzzyWrongFalsely : Prop := snapFuzzyRow.holds Tryz.pinned (OpenSpec.ofChange snapFuzzyWrong)

/-- 'arboretumlaw08.SnapReads': WHATEVER THE INPUT: true; the input reads as it did. -/
def snapReadsSpec : ChangeSpec := { name := "snapReads", fn := fun _ => fun
  | [d1, d2] => { results := [.lit (.bool true)], args := [d1, d2] }
  | _ => none }
def snapReadsRow : OpenClaim := { program := "ytgppfpmmijbncaagreatdoor", sum := "56dd0da36b930d1ef805f6cff56d2d77274eb8e68bec5ffe5a9e5cc2611c8344", func := "arboretum/arboretumlaw08.SnapReads", spec := "snapReads", inPlace := ["internal/bytealg.CountString", "internal/bytealg.IndexByteString", "internal/bytealg.IndexString"], unfollowed := true, recurses := true, named := ["unicode/utf8.first", "unicode/utf8.acceptRanges", "internal/bytealg.MaxLen"], loops := true, apart := false, laid := [("unicode/utf8.acceptRanges", laid_unicode_utf8_acceptRanges), ("unicode/utf8.first", laid_unicode_utf8_first)] }
def SnapReadsSaid : Prop := snapReadsRow.holds Tryz.pinned (OpenSpec.ofChange snapReadsSpec)

/-- ITS FALSE NEIGHBOUR: 'it returns false'. Refute it at one input. -/
def snapReadsWrong : ChangeSpec := { name := "snapReads", fn := fun _ => fun
  | [d1, d2] => { results := [.lit (.bool false)], args := [d1, d2] }
  | _ => none }
def SnapReadsWrongFalsely : Prop := snapReadsRow.holds Tryz.pinned (OpenSpec.ofChange snapReadsWrong)

/- THE SECOND FORM. 'bulk': how many values and letters a reading holds, each counted each time it is reached (what is shared counts as often as it is met; a slice's spare places count too). A statement '..UptoSaid' is the law's where the arguments, and the package variables that the reading takes, are together of bulk at most 1048576: NARROWER than '..Said'. Prove '..Said' where nothing that the law and all that it calls make is longer than what came in: it says more and counts as full. Else prove '..UptoSaid'. A law counts once. -/
mutual
def uptoBulk {H : Type} : DataW H → Nat
  | .lit (.string bytes) => bytes.length + 1
  | .lit _ => 1
  | .nil => 1
  | .ptr d => uptoBulk d + 1
  | .slice elems spare => uptoBulkAll elems + uptoBulkAll spare + 1
  | .agg parts => uptoBulkAll parts + 1
  | .iface _ d => uptoBulk d + 1
  | .map entries => uptoBulkEntries entries + 1
  | .held _ => 1
def uptoBulkAll {H : Type} : List (DataW H) → Nat
  | [] => 0
  | d :: r => uptoBulk d + uptoBulkAll r
def uptoBulkEntries {H : Type} : List (Lit × DataW H) → Nat
  | [] => 0
  | x :: r => uptoBulkEntry x + uptoBulkEntries r
def uptoBulkEntry {H : Type} : Lit × DataW H → Nat
  | (.string bytes, d) => bytes.length + uptoBulk d + 1
  | (_, d) => uptoBulk d + 1
 end
def uptoSmall : (H : Type) → List (DataW H) → Bool := fun _ ds => decide (uptoBulkAll ds ≤ 1048576)
def OpenSpec.upto (s : _root_.Go.ChangeSpec) : _root_.Go.OpenSpec := { _root_.Go.OpenSpec.ofChange s with cond := some uptoSmall }

/-- 'arboretumlaw08.SnapBack', WHERE WHAT IT READS IS OF BULK AT MOST 1048576: true; the input reads as it did. -/
def snapBackUptoRow : OpenClaim := { program := "ytgppfpmmijbncaagreatdoor", sum := "56dd0da36b930d1ef805f6cff56d2d77274eb8e68bec5ffe5a9e5cc2611c8344", func := "arboretum/arboretumlaw08.SnapBack", spec := "snapBack", inPlace := ["internal/bytealg.CountString", "internal/bytealg.IndexByteString", "internal/bytealg.IndexString"], unfollowed := true, recurses := true, named := ["unicode/utf8.first", "unicode/utf8.acceptRanges", "internal/bytealg.MaxLen"], loops := true, apart := false, laid := [("unicode/utf8.acceptRanges", laid_unicode_utf8_acceptRanges), ("unicode/utf8.first", laid_unicode_utf8_first)], narrowed := true }
def SnapBackUptoSaid : Prop := snapBackUptoRow.holds Tryz.pinned (OpenSpec.upto snapBackSpec)

/-- 'arboretumlaw08.SnapRestores', WHERE WHAT IT READS IS OF BULK AT MOST 1048576: true; the input reads as it did. -/
def snapRestoresUptoRow : OpenClaim := { program := "ytgppfpmmijbncaagreatdoor", sum := "56dd0da36b930d1ef805f6cff56d2d77274eb8e68bec5ffe5a9e5cc2611c8344", func := "arboretum/arboretumlaw08.SnapRestores", spec := "snapRestores", inPlace := ["internal/bytealg.CountString", "internal/bytealg.IndexByteString", "internal/bytealg.IndexString"], unfollowed := true, recurses := true, named := ["unicode/utf8.first", "unicode/utf8.acceptRanges", "internal/bytealg.MaxLen"], loops := true, apart := false, laid := [("unicode/utf8.acceptRanges", laid_unicode_utf8_acceptRanges), ("unicode/utf8.first", laid_unicode_utf8_first)], narrowed := true }
def SnapRestoresUptoSaid : Prop := snapRestoresUptoRow.holds Tryz.pinned (OpenSpec.upto snapRestoresSpec)

/-- 'arboretumlaw08.SnapStill', WHERE WHAT IT READS IS OF BULK AT MOST 1048576: true; the input reads as it did. -/
def snapStillUptoRow : OpenClaim := { program := "ytgppfpmmijbncaagreatdoor", sum := "56dd0da36b930d1ef805f6cff56d2d77274eb8e68bec5ffe5a9e5cc2611c8344", func := "arboretum/arboretumlaw08.SnapStill", spec := "snapStill", inPlace := ["internal/bytealg.CountString", "internal/bytealg.IndexByteString", "internal/bytealg.IndexString"], unfollowed := true, recurses := true, named := ["unicode/utf8.first", "unicode/utf8.acceptRanges", "internal/bytealg.MaxLen"], loops := true, apart := false, laid := [("unicode/utf8.acceptRanges", laid_unicode_utf8_acceptRanges), ("unicode/utf8.first", laid_unicode_utf8_first)], narrowed := true }
def SnapStillUptoSaid : Prop := snapStillUptoRow.holds Tryz.pinned (OpenSpec.upto snapStillSpec)

/-- 'arboretumlaw08.SnapTrees', WHERE WHAT IT READS IS OF BULK AT MOST 1048576: true; the input reads as it did. -/
def snapTreesUptoRow : OpenClaim := { program := "ytgppfpmmijbncaagreatdoor", sum := "56dd0da36b930d1ef805f6cff56d2d77274eb8e68bec5ffe5a9e5cc2611c8344", func := "arboretum/arboretumlaw08.SnapTrees", spec := "snapTrees", inPlace := ["internal/bytealg.CountString", "internal/bytealg.IndexByteString", "internal/bytealg.IndexString"], unfollowed := true, recurses := true, named := ["unicode/utf8.first", "unicode/utf8.acceptRanges", "internal/bytealg.MaxLen"], apart := false, laid := [("unicode/utf8.acceptRanges", laid_unicode_utf8_acceptRanges), ("unicode/utf8.first", laid_unicode_utf8_first)], narrowed := true }
def SnapTreesUptoSaid : Prop := snapTreesUptoRow.holds Tryz.pinned (OpenSpec.upto snapTreesSpec)

/-- 'arboretumlaw08.SnapFuzzy', WHERE WHAT IT READS IS OF BULK AT MOST 1048576: true; the input reads as it did. -/
def snapFuzzyUptoRow : OpenClaim := { program := "ytgppfpmmijbncaagreatdoor", sum := "56dd0da36b930d1ef805f6cff56d2d77274eb8e68bec5ffe5a9e5cc2611c8344", func := "arboretum/arboretumlaw08.SnapFuzzy", spec := "snapFuzzy", inPlace := ["internal/bytealg.CountString", "internal/bytealg.IndexByteString", "internal/bytealg.IndexString"], unfollowed := true, recurses := true, named := ["unicode/utf8.first", "unicode/utf8.acceptRanges", "internal/bytealg.MaxLen"], loops := true, apart := false, laid := [("unicode/utf8.acceptRanges", laid_unicode_utf8_acceptRanges), ("unicode/utf8.first", laid_unicode_utf8_first)], narrowed := true }
def SnapFuzzyUptoSaid : Prop := snapFuzzyUptoRow.holds Tryz.pinned (OpenSpec.upto snapFuzzySpec)

/-- 'arboretumlaw08.SnapReads', WHERE WHAT IT READS IS OF BULK AT MOST 1048576: true; the input reads as it did. -/
def snapReadsUptoRow : OpenClaim := { program := "ytgppfpmmijbncaagreatdoor", sum := "56dd0da36b930d1ef805f6cff56d2d77274eb8e68bec5ffe5a9e5cc2611c8344", func := "arboretum/arboretumlaw08.SnapReads", spec := "snapReads", inPlace := ["internal/bytealg.CountString", "internal/bytealg.IndexByteString", "internal/bytealg.IndexString"], unfollowed := true, recurses := true, named := ["unicode/utf8.first", "unicode/utf8.acceptRanges", "internal/bytealg.MaxLen"], loops := true, apart := false, laid := [("unicode/utf8.acceptRanges", laid_unicode_utf8_acceptRanges), ("unicode/utf8.first", laid_unicode_utf8_first)], narrowed := true }
def SnapReadsUptoSaid : Prop := snapReadsUptoRow.holds Tryz.pinned (OpenSpec.upto snapReadsSpec)

end Rows
end Go.Proofs.YtgppfpmmijbncaaGreatDoor
