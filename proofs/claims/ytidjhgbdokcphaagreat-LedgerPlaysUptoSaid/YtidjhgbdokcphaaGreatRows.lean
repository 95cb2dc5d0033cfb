/-
  NARROWER THAN 'FOR EVERY INPUT', by the rows' own cells (each row's printed sentence says how): LedgerMarks: loops · LedgerCuts: loops · LedgerEpochs: loops · LedgerOpened: loops · LedgerLasts: loops · LedgerPlays: loops.
  DERIVED. THE GIVEN ROWS OF THIS SEAT. 7 by the template 'for every input the law returns true; each argument reads behind the call as it read before'; 0 by the template 'total and deterministic' (their statements: YtidjhgbdokcphaaGreatTotals.lean).
  GIVEN WITH THE SEED: the statements are not yours to turn. If you find one false, say at which input.
  Laid BY PROGRAM, IN A SANDBOX (cutbox-rows.mjs): the forced cells as the released guide's own fill.sh prints them over the translation cb3e5faa774f8515… (all of the seat's roots in one cut). By AI agents, Wed Nov 11 2026. No macro, syntax, notation, axiom, sorry.
-/
import Derived.Test.YtidjhgbdokcphaaGreatChecked
import GoSem.Claim
import GoSem.ClaimJoined
import GoSem.ClaimMapViews
import Derived.JoinedTies
import Derived.KernelRfl
namespace Go.Proofs.YtidjhgbdokcphaaGreat
/- THE CELL 'sum', in the pinned program and in every row, IS THE sha256 OF THE DUMP (.gsa) THAT YtidjhgbdokcphaaGreatProg.lean LOADS. Nothing in Lean hashes anything: it is a label: what it is worth is what the hold of that sum in a sandbox is worth. -/
noncomputable def Tryz.pinned : Pinned := { name := "ytidjhgbdokcphaagreat", sum := "cb3e5faa774f85150fdb4a8c4a8f109c75a1f41bde6ce0cdec8ddbb8ee5141a8", checked := Tryz.checked }
namespace Rows
def none {H : Type} : Left H := { results := [], args := [] }

/-- 'arboretumlaw09.LedgerMarks': WHATEVER THE INPUT: true; the input reads as it did. -/
def ledgerMarksSpec : ChangeSpec := { name := "ledgerMarks", fn := fun _ => fun
  | [d1, d2] => { results := [.lit (.bool true)], args := [d1, d2] }
  | _ => none }
def ledgerMarksRow : OpenClaim := { program := "ytidjhgbdokcphaagreat", sum := "cb3e5faa774f85150fdb4a8c4a8f109c75a1f41bde6ce0cdec8ddbb8ee5141a8", func := "arboretum/arboretumlaw09.LedgerMarks", spec := "ledgerMarks", unfollowed := true, recurses := true, loops := true, apart := false }
def LedgerMarksSaid : Prop := ledgerMarksRow.holds Tryz.pinned (OpenSpec.ofChange ledgerMarksSpec)

/-- ITS FALSE NEIGHBOUR: 'it returns false'. Refute it at one input. -/
def ledgerMarksWrong : ChangeSpec := { name := "ledgerMarks", fn := fun _ => fun
  | [d1, d2] => { results := [.lit (.bool false)], args := [d1, d2] }
  | _ => none }
def LedgerMarksWrongFalsely : Prop := ledgerMarksRow.holds Tryz.pinned (OpenSpec.ofChange ledgerMarksWrong)

/-- 'arboretumlaw09.LedgerOpens': WHATEVER THE INPUT: true; the input reads as it did. -/
def ledgerOpensSpec : ChangeSpec := { name := "ledgerOpens", fn := fun _ => fun
  | [d1, d2, d3] => { results := [.lit (.bool true)], args := [d1, d2, d3] }
  | _ => none }
def ledgerOpensRow : OpenClaim := { program := "ytidjhgbdokcphaagreat", sum := "cb3e5faa774f85150fdb4a8c4a8f109c75a1f41bde6ce0cdec8ddbb8ee5141a8", func := "arboretum/arboretumlaw09.LedgerOpens", spec := "ledgerOpens", unfollowed := true, recurses := true, apart := false }
def LedgerOpensSaid : Prop := ledgerOpensRow.holds Tryz.pinned (OpenSpec.ofChange ledgerOpensSpec)

/-- ITS FALSE NEIGHBOUR: 'it returns false'. Refute it at one input. -/
def ledgerOpensWrong : ChangeSpec := { name := "ledgerOpens", fn := fun _ => fun
  | [d1, d2, d3] => { results := [.lit (.bool false)], args := [d1, d2, d3] }
  | _ => none }
def LedgerOpensWrongFalsely : Prop := ledgerOpensRow.holds Tryz.pinned (OpenSpec.ofChange ledgerOpensWrong)

/-- 'arboretumlaw09.LedgerCuts': WHATEVER THE INPUT: true; the input reads as it did. -/
def ledgerCutsSpec : ChangeSpec := { name := "ledgerCuts", fn := fun _ => fun
  | [d1, d2, d3, d4] => { results := [.lit (.bool true)], args := [d1, d2, d3, d4] }
  | _ => none }
def ledgerCutsRow : OpenClaim := { program := "ytidjhgbdokcphaagreat", sum := "cb3e5faa774f85150fdb4a8c4a8f109c75a1f41bde6ce0cdec8ddbb8ee5141a8", func := "arboretum/arboretumlaw09.LedgerCuts", spec := "ledgerCuts", unfollowed := true, recurses := true, loops := true, apart := false }
def LedgerCutsSaid : Prop := ledgerCutsRow.holds Tryz.pinned (OpenSpec.ofChange ledgerCutsSpec)

/-- ITS FALSE NEIGHBOUR: 'it returns false'. Refute it at one input. -/
def ledgerCutsWrong : ChangeSpec := { name := "ledgerCuts", fn := fun _ => fun
  | [d1, d2, d3, d4] => { results := [.lit (.bool false)], args := [d1, d2, d3, d4] }
  | _ => none }
def LedgerCutsWrongFalsely : Prop := ledgerCutsRow.holds Tryz.pinned (OpenSpec.ofChange ledgerCutsWrong)

/-- 'arboretumlaw09.LedgerEpochs': WHATEVER THE INPUT: true; the input reads as it did. -/
def ledgerEpochsSpec : ChangeSpec := { name := "ledgerEpochs", fn := fun _ => fun
  | [d1, d2] => { results := [.lit (.bool true)], args := [d1, d2] }
  | _ => none }
def ledgerEpochsRow : OpenClaim := { program := "ytidjhgbdokcphaagreat", sum := "cb3e5faa774f85150fdb4a8c4a8f109c75a1f41bde6ce0cdec8ddbb8ee5141a8", func := "arboretum/arboretumlaw09.LedgerEpochs", spec := "ledgerEpochs", unfollowed := true, recurses := true, loops := true, apart := false }
def LedgerEpochsSaid : Prop := ledgerEpochsRow.holds Tryz.pinned (OpenSpec.ofChange ledgerEpochsSpec)

/-- ITS FALSE NEIGHBOUR: 'it returns false'. Refute it at one input. -/
def ledgerEpochsWrong : ChangeSpec := { name := "ledgerEpochs", fn := fun _ => fun
  | [d1, d2] => { results := [.lit (.bool false)], args := [d1, d2] }
  | _ => none }
def LedgerEpochsWrongFalsely : Prop := ledgerEpochsRow.holds Tryz.pinned (OpenSpec.ofChange ledgerEpochsWrong)

/-- 'arboretumlaw09.LedgerOpened': WHATEVER THE INPUT: true; the input reads as it did. -/
def ledgerOpenedSpec : ChangeSpec := { name := "ledgerOpened", fn := fun _ => fun
  | [d1, d2, d3] => { results := [.lit (.bool true)], args := [d1, d2, d3] }
  | _ => none }
def ledgerOpenedRow : OpenClaim := { program := "ytidjhgbdokcphaagreat", sum := "cb3e5faa774f85150fdb4a8c4a8f109c75a1f41bde6ce0cdec8ddbb8ee5141a8", func := "arboretum/arboretumlaw09.LedgerOpened", spec := "ledgerOpened", unfollowed := true, recurses := true, loops := true, apart := false }
def LedgerOpenedSaid : Prop := ledgerOpenedRow.holds Tryz.pinned (OpenSpec.ofChange ledgerOpenedSpec)

/-- ITS FALSE NEIGHBOUR: 'it returns false'. Refute it at one input. -/
def ledgerOpenedWrong : ChangeSpec := { name := "ledgerOpened", fn := fun _ => fun
  | [d1, d2, d3] => { results := [.lit (.bool false)], args := [d1, d2, d3] }
  | _ => none }
def LedgerOpenedWrongFalsely : Prop := ledgerOpenedRow.holds Tryz.pinned (OpenSpec.ofChange ledgerOpenedWrong)

/-- 'arboretumlaw09.LedgerLasts': WHATEVER THE INPUT: true; the input reads as it did. -/
def ledgerLastsSpec : ChangeSpec := { name := "ledgerLasts", fn := fun _ => fun
  | [d1, d2, d3, d4] => { results := [.lit (.bool true)], args := [d1, d2, d3, d4] }
  | _ => none }
def ledgerLastsRow : OpenClaim := { program := "ytidjhgbdokcphaagreat", sum := "cb3e5faa774f85150fdb4a8c4a8f109c75a1f41bde6ce0cdec8ddbb8ee5141a8", func := "arboretum/arboretumlaw09.LedgerLasts", spec := "ledgerLasts", unfollowed := true, recurses := true, loops := true, apart := false }
def LedgerLastsSaid : Prop := ledgerLastsRow.holds Tryz.pinned (OpenSpec.ofChange ledgerLastsSpec)

/-- ITS FALSE NEIGHBOUR: 'it returns false'. Refute it at one input. -/
def ledgerLastsWrong : ChangeSpec := { name := "ledgerLasts", fn := fun _ => fun
  | [d1, d2, d3, d4] => { results := [.lit (.bool false)], args := [d1, d2, d3, d4] }
  | _ => none }
def LedgerLastsWrongFalsely : Prop := ledgerLastsRow.holds Tryz.pinned (OpenSpec.ofChange ledgerLastsWrong)

/-- 'arboretumlaw09.LedgerPlays': WHATEVER THE INPUT: true; the input reads as it did. -/
def ledgerPlaysSpec : ChangeSpec := { name := "ledgerPlays", fn := fun _ => fun
  | [d1, d2] => { results := [.lit (.bool true)], args := [d1, d2] }
  | _ => none }
def ledgerPlaysRow : OpenClaim := { program := "ytidjhgbdokcphaagreat", sum := "cb3e5faa774f85150fdb4a8c4a8f109c75a1f41bde6ce0cdec8ddbb8ee5141a8", func := "arboretum/arboretumlaw09.LedgerPlays", spec := "ledgerPlays", unfollowed := true, recurses := true, loops := true, apart := false }
def LedgerPlaysSaid : Prop := ledgerPlaysRow.holds Tryz.pinned (OpenSpec.ofChange ledgerPlaysSpec)

/-- ITS FALSE NEIGHBOUR: 'it returns false'. Refute it at one input. -/
def ledgerPlaysWrong : ChangeSpec := { name := "ledgerPlays", fn := fun _ => fun
  | [d1, d2] => { results := [.lit (.bool false)], args := [d1, d2] }
  | _ => none }
def LedgerPlaysWrongFalsely : Prop := ledgerPlaysRow.holds Tryz.pinned (OpenSpec.ofChange ledgerPlaysWrong)

/- THE SECOND FORM. 'bulk': how many values and letters a reading holds, each counted each time it is reached (what is shared counts as often as it is met; a slice's spare places count too). A statement '..UptoSaid' is the law's where the arguments, and the package variables that the reading takes, are together of bulk at most 1048576: NARROWER than '..Said'. Prove '..Said' where nothing that the law and all that it calls make is longer than what came in: it says more and counts as full. Else prove '..UptoSaid'. A law counts once. -/
mutual
def uptoBulk {H : Type} : DataW H → Nat
  | .lit (.string bytes) => bytes.length + 1
  | .lit _ => 1
  | .nil => 1
  | .ptr d => uptoBulk d + 1
  | .slice elems spare => uptoBulkAll elems + uptoBulkAll spare + 1
  | .agg parts => uptoBulkAll parts + 1
  | .iface _ d => uptoBulk d + 1
  | .map entries => uptoBulkEntries entries + 1
  | .held _ => 1
def uptoBulkAll {H : Type} : List (DataW H) → Nat
  | [] => 0
  | d :: r => uptoBulk d + uptoBulkAll r
def uptoBulkEntries {H : Type} : List (Lit × DataW H) → Nat
  | [] => 0
  | x :: r => uptoBulkEntry x + uptoBulkEntries r
def uptoBulkEntry {H : Type} : Lit × DataW H → Nat
  | (.string bytes, d) => bytes.length + uptoBulk d + 1
  | (_, d) => uptoBulk d + 1
 end
def uptoSmall : (H : Type) → List (DataW H) → Bool := fun _ ds => decide (uptoBulkAll ds ≤ 1048576)
def OpenSpec.upto (s : _root_.Go.ChangeSpec) : _root_.Go.OpenSpec := { _root_.Go.OpenSpec.ofChange s with cond := some uptoSmall }

/-- 'arboretumlaw09.LedgerMarks', WHERE WHAT IT READS IS OF BULK AT MOST 1048576: true; the input reads as it did. -/
def ledgerMarksUptoRow : OpenClaim := { program := "ytidjhgbdokcphaagreat", sum := "cb3e5faa774f85150fdb4a8c4a8f109c75a1f41bde6ce0cdec8ddbb8ee5141a8", func := "arboretum/arboretumlaw09.LedgerMarks", spec := "ledgerMarks", unfollowed := true, recurses := true, loops := true, apart := false, narrowed := true }
def LedgerMarksUptoSaid : Prop := ledgerMarksUptoRow.holds Tryz.pinned (OpenSpec.upto ledgerMarksSpec)

/-- 'arboretumlaw09.LedgerOpens', WHERE WHAT IT READS IS OF BULK AT MOST 1048576: true; the input reads as it did. -/
def ledgerOpensUptoRow : OpenClaim := { program := "ytidjhgbdokcphaagreat", sum := "cb3e5faa774f85150fdb4a8c4a8f109c75a1f41bde6ce0cdec8ddbb8ee5141a8", func := "arboretum/arboretumlaw09.LedgerOpens", spec := "ledgerOpens", unfollowed := true, recurses := true, apart := false, narrowed := true }
def LedgerOpensUptoSaid : Prop := ledgerOpensUptoRow.holds Tryz.pinned (OpenSpec.upto ledgerOpensSpec)

/-- 'arboretumlaw09.LedgerCuts', WHERE WHAT IT READS IS OF BULK AT MOST 1048576: true; the input reads as it did. -/
def ledgerCutsUptoRow : OpenClaim := { program := "ytidjhgbdokcphaagreat", sum := "cb3e5faa774f85150fdb4a8c4a8f109c75a1f41bde6ce0cdec8ddbb8ee5141a8", func := "arboretum/arboretumlaw09.LedgerCuts", spec := "ledgerCuts", unfollowed := true, recurses := true, loops := true, apart := false, narrowed := true }
def LedgerCutsUptoSaid : Prop := ledgerCutsUptoRow.holds Tryz.pinned (OpenSpec.upto ledgerCutsSpec)

/-- 'arboretumlaw09.LedgerEpochs', WHERE WHAT IT READS IS OF BULK AT MOST 1048576: true; the input reads as it did. -/
def ledgerEpochsUptoRow : OpenClaim := { program := "ytidjhgbdokcphaagreat", sum := "cb3e5faa774f85150fdb4a8c4a8f109c75a1f41bde6ce0cdec8ddbb8ee5141a8", func := "arboretum/arboretumlaw09.LedgerEpochs", spec := "ledgerEpochs", unfollowed := true, recurses := true, loops := true, apart := false, narrowed := true }
def LedgerEpochsUptoSaid : Prop := ledgerEpochsUptoRow.holds Tryz.pinned (OpenSpec.upto ledgerEpochsSpec)

/-- 'arboretumlaw09.LedgerOpened', WHERE WHAT IT READS IS OF BULK AT MOST 1048576: true; the input reads as it did. -/
def ledgerOpenedUptoRow : OpenClaim := { program := "ytidjhgbdokcphaagreat", sum := "cb3e5faa774f85150fdb4a8c4a8f109c75a1f41bde6ce0cdec8ddbb8ee5141a8", func := "arboretum/arboretumlaw09.LedgerOpened", spec := "ledgerOpened", unfollowed := true, recurses := true, loops := true, apart := false, narrowed := true }
def LedgerOpenedUptoSaid : Prop := ledgerOpenedUptoRow.holds Tryz.pinned (OpenSpec.upto ledgerOpenedSpec)

/-- 'arboretumlaw09.LedgerLasts', WHERE WHAT IT READS IS OF BULK AT MOST 1048576: true; the input reads as it did. -/
def ledgerLastsUptoRow : OpenClaim := { program := "ytidjhgbdokcphaagreat", sum := "cb3e5faa774f85150fdb4a8c4a8f109c75a1f41bde6ce0cdec8ddbb8ee5141a8", func := "arboretum/arboretumlaw09.LedgerLasts", spec := "ledgerLasts", unfollowed := true, recurses := true, loops := true, apart := false, narrowed := true }
def LedgerLastsUptoSaid : Prop := ledgerLastsUptoRow.holds Tryz.pinned (OpenSpec.upto ledgerLastsSpec)

/-- 'arboretumlaw09.LedgerPlays', WHERE WHAT IT READS IS OF BULK AT MOST 1048576: true; the input reads as it did. -/
def ledgerPlaysUptoRow : OpenClaim := { program := "ytidjhgbdokcphaagreat", sum := "cb3e5faa774f85150fdb4a8c4a8f109c75a1f41bde6ce0cdec8ddbb8ee5141a8", func := "arboretum/arboretumlaw09.LedgerPlays", spec := "ledgerPlays", unfollowed := true, recurses := true, loops := true, apart := false, narrowed := true }
def LedgerPlaysUptoSaid : Prop := ledgerPlaysUptoRow.holds Tryz.pinned (OpenSpec.upto ledgerPlaysSpec)

end Rows
end Go.Proofs.YtidjhgbdokcphaaGreat
