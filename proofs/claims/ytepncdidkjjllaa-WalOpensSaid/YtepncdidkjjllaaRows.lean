/-
  No cell of these rows narrows 'for every input' (looked for: loops, veiled, ifaces, maps, wideKeys, modest, calm, conditions, laid).
  DERIVED. THE GIVEN ROWS OF THIS SEAT. 11 by the template 'for every input the law returns true; each argument reads behind the call as it read before'; 0 by the template 'total and deterministic' (their statements: YtepncdidkjjllaaTotals.lean).
  GIVEN WITH THE SEED: the statements are not yours to turn. If you find one false, say at which input.
  Laid BY PROGRAM, IN A SANDBOX (cutbox-rows.mjs): the forced cells as the released guide's own fill.sh prints them over the translation 505a9e1bf5b71409… (all of the seat's roots in one cut). By AI agents, Wed Nov 11 2026. No macro, syntax, notation, axiom, sorry.
-/
import Derived.Test.YtepncdidkjjllaaChecked
import GoSem.Claim
import GoSem.ClaimJoined
import GoSem.ClaimMapViews
import Derived.JoinedTies
import Derived.KernelRfl
namespace Go.Proofs.Ytepncdidkjjllaa
/- THE CELL 'sum', in the pinned program and in every row, IS THE sha256 OF THE DUMP (.gsa) THAT YtepncdidkjjllaaProg.lean LOADS. Nothing in Lean hashes anything: it is a label: what it is worth is what the hold of that sum in a sandbox is worth. -/
noncomputable def Try.pinned : Pinned := { name := "ytepncdidkjjllaa", sum := "505a9e1bf5b714095a3aadeeeee91250c5c303ae1e4332a7090386c1d93c78e5", checked := Try.checked }
namespace Rows
def none {H : Type} : Left H := { results := [], args := [] }

/-- 'arboretumlaw04.WalOpens': WHATEVER THE INPUT: true; the input reads as it did. -/
def walOpensSpec : ChangeSpec := { name := "walOpens", fn := fun _ => fun
  | [d1, d2] => { results := [.lit (.bool true)], args := [d1, d2] }
  | _ => none }
def walOpensRow : OpenClaim := { program := "ytepncdidkjjllaa", sum := "505a9e1bf5b714095a3aadeeeee91250c5c303ae1e4332a7090386c1d93c78e5", func := "arboretum/arboretumlaw04.WalOpens", spec := "walOpens", unfollowed := true, recurses := true, apart := false }
def WalOpensSaid : Prop := walOpensRow.holds Try.pinned (OpenSpec.ofChange walOpensSpec)

/-- ITS FALSE NEIGHBOUR: 'it returns false'. Refute it at one input. -/
def walOpensWrong : ChangeSpec := { name := "walOpens", fn := fun _ => fun
  | [d1, d2] => { results := [.lit (.bool false)], args := [d1, d2] }
  | _ => none }
def WalOpensWrongFalsely : Prop := walOpensRow.holds Try.pinned (OpenSpec.ofChange walOpensWrong)

/-- 'arboretumlaw04.WalRoom': WHATEVER THE INPUT: true; the input reads as it did. -/
def walRoomSpec : ChangeSpec := { name := "walRoom", fn := fun _ => fun
  | [d1, d2] => { results := [.lit (.bool true)], args := [d1, d2] }
  | _ => none }
def walRoomRow : OpenClaim := { program := "ytepncdidkjjllaa", sum := "505a9e1bf5b714095a3aadeeeee91250c5c303ae1e4332a7090386c1d93c78e5", func := "arboretum/arboretumlaw04.WalRoom", spec := "walRoom", unfollowed := true, recurses := true, apart := false }
def WalRoomSaid : Prop := walRoomRow.holds Try.pinned (OpenSpec.ofChange walRoomSpec)

/-- ITS FALSE NEIGHBOUR: 'it returns false'. Refute it at one input. -/
def walRoomWrong : ChangeSpec := { name := "walRoom", fn := fun _ => fun
  | [d1, d2] => { results := [.lit (.bool false)], args := [d1, d2] }
  | _ => none }
def WalRoomWrongFalsely : Prop := walRoomRow.holds Try.pinned (OpenSpec.ofChange walRoomWrong)

/-- 'arboretumlaw04.WalOpened': WHATEVER THE INPUT: true; the input reads as it did. -/
def walOpenedSpec : ChangeSpec := { name := "walOpened", fn := fun _ => fun
  | [d1, d2, d3] => { results := [.lit (.bool true)], args := [d1, d2, d3] }
  | _ => none }
def walOpenedRow : OpenClaim := { program := "ytepncdidkjjllaa", sum := "505a9e1bf5b714095a3aadeeeee91250c5c303ae1e4332a7090386c1d93c78e5", func := "arboretum/arboretumlaw04.WalOpened", spec := "walOpened", unfollowed := true, recurses := true, apart := false }
def WalOpenedSaid : Prop := walOpenedRow.holds Try.pinned (OpenSpec.ofChange walOpenedSpec)

/-- ITS FALSE NEIGHBOUR: 'it returns false'. Refute it at one input. -/
def walOpenedWrong : ChangeSpec := { name := "walOpened", fn := fun _ => fun
  | [d1, d2, d3] => { results := [.lit (.bool false)], args := [d1, d2, d3] }
  | _ => none }
def WalOpenedWrongFalsely : Prop := walOpenedRow.holds Try.pinned (OpenSpec.ofChange walOpenedWrong)

/-- 'arboretumlaw10.SessionApart': WHATEVER THE INPUT: true; the input reads as it did. -/
def sessionApartSpec : ChangeSpec := { name := "sessionApart", fn := fun _ => fun
  | [d] => { results := [.lit (.bool true)], args := [d] }
  | _ => none }
def sessionApartRow : OpenClaim := { program := "ytepncdidkjjllaa", sum := "505a9e1bf5b714095a3aadeeeee91250c5c303ae1e4332a7090386c1d93c78e5", func := "arboretum/arboretumlaw10.SessionApart", spec := "sessionApart", recurses := true, apart := false }
def SessionApartSaid : Prop := sessionApartRow.holds Try.pinned (OpenSpec.ofChange sessionApartSpec)

/-- ITS FALSE NEIGHBOUR: 'it returns false'. Refute it at one input. -/
def sessionApartWrong : ChangeSpec := { name := "sessionApart", fn := fun _ => fun
  | [d] => { results := [.lit (.bool false)], args := [d] }
  | _ => none }
def SessionApartWrongFalsely : Prop := sessionApartRow.holds Try.pinned (OpenSpec.ofChange sessionApartWrong)

/-- 'arboretumlaw10.SessionPlays': WHATEVER THE INPUT: true; the input reads as it did. -/
def sessionPlaysSpec : ChangeSpec := { name := "sessionPlays", fn := fun _ => fun
  | [d] => { results := [.lit (.bool true)], args := [d] }
  | _ => none }
def sessionPlaysRow : OpenClaim := { program := "ytepncdidkjjllaa", sum := "505a9e1bf5b714095a3aadeeeee91250c5c303ae1e4332a7090386c1d93c78e5", func := "arboretum/arboretumlaw10.SessionPlays", spec := "sessionPlays", unfollowed := true, recurses := true, apart := false }
def SessionPlaysSaid : Prop := sessionPlaysRow.holds Try.pinned (OpenSpec.ofChange sessionPlaysSpec)

/-- ITS FALSE NEIGHBOUR: 'it returns false'. Refute it at one input. -/
def sessionPlaysWrong : ChangeSpec := { name := "sessionPlays", fn := fun _ => fun
  | [d] => { results := [.lit (.bool false)], args := [d] }
  | _ => none }
def SessionPlaysWrongFalsely : Prop := sessionPlaysRow.holds Try.pinned (OpenSpec.ofChange sessionPlaysWrong)

/-- 'arboretumlaw10.SessionWaits': WHATEVER THE INPUT: true; the input reads as it did. -/
def sessionWaitsSpec : ChangeSpec := { name := "sessionWaits", fn := fun _ => fun
  | [d1, d2, d3] => { results := [.lit (.bool true)], args := [d1, d2, d3] }
  | _ => none }
def sessionWaitsRow : OpenClaim := { program := "ytepncdidkjjllaa", sum := "505a9e1bf5b714095a3aadeeeee91250c5c303ae1e4332a7090386c1d93c78e5", func := "arboretum/arboretumlaw10.SessionWaits", spec := "sessionWaits", unfollowed := true, recurses := true, apart := false }
def SessionWaitsSaid : Prop := sessionWaitsRow.holds Try.pinned (OpenSpec.ofChange sessionWaitsSpec)

/-- ITS FALSE NEIGHBOUR: 'it returns false'. Refute it at one input. -/
def sessionWaitsWrong : ChangeSpec := { name := "sessionWaits", fn := fun _ => fun
  | [d1, d2, d3] => { results := [.lit (.bool false)], args := [d1, d2, d3] }
  | _ => none }
def SessionWaitsWrongFalsely : Prop := sessionWaitsRow.holds Try.pinned (OpenSpec.ofChange sessionWaitsWrong)

/-- 'arboretumlaw03.DiskLasts': WHATEVER THE INPUT: true; the input reads as it did. -/
def diskLastsSpec : ChangeSpec := { name := "diskLasts", fn := fun _ => fun
  | [d1, d2, d3, d4] => { results := [.lit (.bool true)], args := [d1, d2, d3, d4] }
  | _ => none }
def diskLastsRow : OpenClaim := { program := "ytepncdidkjjllaa", sum := "505a9e1bf5b714095a3aadeeeee91250c5c303ae1e4332a7090386c1d93c78e5", func := "arboretum/arboretumlaw03.DiskLasts", spec := "diskLasts", unfollowed := true, recurses := true, apart := false }
def DiskLastsSaid : Prop := diskLastsRow.holds Try.pinned (OpenSpec.ofChange diskLastsSpec)

/-- ITS FALSE NEIGHBOUR: 'it returns false'. Refute it at one input. -/
def diskLastsWrong : ChangeSpec := { name := "diskLasts", fn := fun _ => fun
  | [d1, d2, d3, d4] => { results := [.lit (.bool false)], args := [d1, d2, d3, d4] }
  | _ => none }
def DiskLastsWrongFalsely : Prop := diskLastsRow.holds Try.pinned (OpenSpec.ofChange diskLastsWrong)

/-- 'arboretumlaw03.DiskArmed': WHATEVER THE INPUT: true; the input reads as it did. -/
def diskArmedSpec : ChangeSpec := { name := "diskArmed", fn := fun _ => fun
  | [d1, d2] => { results := [.lit (.bool true)], args := [d1, d2] }
  | _ => none }
def diskArmedRow : OpenClaim := { program := "ytepncdidkjjllaa", sum := "505a9e1bf5b714095a3aadeeeee91250c5c303ae1e4332a7090386c1d93c78e5", func := "arboretum/arboretumlaw03.DiskArmed", spec := "diskArmed", unfollowed := true, recurses := true, apart := false }
def DiskArmedSaid : Prop := diskArmedRow.holds Try.pinned (OpenSpec.ofChange diskArmedSpec)

/-- ITS FALSE NEIGHBOUR: 'it returns false'. Refute it at one input. -/
def diskArmedWrong : ChangeSpec := { name := "diskArmed", fn := fun _ => fun
  | [d1, d2] => { results := [.lit (.bool false)], args := [d1, d2] }
  | _ => none }
def DiskArmedWrongFalsely : Prop := diskArmedRow.holds Try.pinned (OpenSpec.ofChange diskArmedWrong)

/-- 'arboretumlaw03.DiskPlays': WHATEVER THE INPUT: true; the input reads as it did. -/
def diskPlaysSpec : ChangeSpec := { name := "diskPlays", fn := fun _ => fun
  | [d1, d2, d3, d4] => { results := [.lit (.bool true)], args := [d1, d2, d3, d4] }
  | _ => none }
def diskPlaysRow : OpenClaim := { program := "ytepncdidkjjllaa", sum := "505a9e1bf5b714095a3aadeeeee91250c5c303ae1e4332a7090386c1d93c78e5", func := "arboretum/arboretumlaw03.DiskPlays", spec := "diskPlays", unfollowed := true, recurses := true, apart := false }
def DiskPlaysSaid : Prop := diskPlaysRow.holds Try.pinned (OpenSpec.ofChange diskPlaysSpec)

/-- ITS FALSE NEIGHBOUR: 'it returns false'. Refute it at one input. -/
def diskPlaysWrong : ChangeSpec := { name := "diskPlays", fn := fun _ => fun
  | [d1, d2, d3, d4] => { results := [.lit (.bool false)], args := [d1, d2, d3, d4] }
  | _ => none }
def DiskPlaysWrongFalsely : Prop := diskPlaysRow.holds Try.pinned (OpenSpec.ofChange diskPlaysWrong)

/-- 'arboretumlaw03.DiskTwice': WHATEVER THE INPUT: true; the input reads as it did. -/
def diskTwiceSpec : ChangeSpec := { name := "diskTwice", fn := fun _ => fun
  | [d1, d2, d3] => { results := [.lit (.bool true)], args := [d1, d2, d3] }
  | _ => none }
def diskTwiceRow : OpenClaim := { program := "ytepncdidkjjllaa", sum := "505a9e1bf5b714095a3aadeeeee91250c5c303ae1e4332a7090386c1d93c78e5", func := "arboretum/arboretumlaw03.DiskTwice", spec := "diskTwice", unfollowed := true, recurses := true, apart := false }
def DiskTwiceSaid : Prop := diskTwiceRow.holds Try.pinned (OpenSpec.ofChange diskTwiceSpec)

/-- ITS FALSE NEIGHBOUR: 'it returns false'. Refute it at one input. -/
def diskTwiceWrong : ChangeSpec := { name := "diskTwice", fn := fun _ => fun
  | [d1, d2, d3] => { results := [.lit (.bool false)], args := [d1, d2, d3] }
  | _ => none }
def DiskTwiceWrongFalsely : Prop := diskTwiceRow.holds Try.pinned (OpenSpec.ofChange diskTwiceWrong)

/-- 'arboretumlaw04.WalLasts': WHATEVER THE INPUT: true; the input reads as it did. -/
def walLastsSpec : ChangeSpec := { name := "walLasts", fn := fun _ => fun
  | [d1, d2] => { results := [.lit (.bool true)], args := [d1, d2] }
  | _ => none }
def walLastsRow : OpenClaim := { program := "ytepncdidkjjllaa", sum := "505a9e1bf5b714095a3aadeeeee91250c5c303ae1e4332a7090386c1d93c78e5", func := "arboretum/arboretumlaw04.WalLasts", spec := "walLasts", unfollowed := true, recurses := true, apart := false }
def WalLastsSaid : Prop := walLastsRow.holds Try.pinned (OpenSpec.ofChange walLastsSpec)

/-- ITS FALSE NEIGHBOUR: 'it returns false'. Refute it at one input. -/
def walLastsWrong : ChangeSpec := { name := "walLasts", fn := fun _ => fun
  | [d1, d2] => { results := [.lit (.bool false)], args := [d1, d2] }
  | _ => none }
def WalLastsWrongFalsely : Prop := walLastsRow.holds Try.pinned (OpenSpec.ofChange walLastsWrong)

/- THE SECOND FORM. 'bulk': how many values and letters a reading holds, each counted each time it is reached (what is shared counts as often as it is met; a slice's spare places count too). A statement '..UptoSaid' is the law's where the arguments, and the package variables that the reading takes, are together of bulk at most 1048576: NARROWER than '..Said'. Prove '..Said' where nothing that the law and all that it calls make is longer than what came in: it says more and counts as full. Else prove '..UptoSaid'. A law counts once. -/
mutual
def uptoBulk {H : Type} : DataW H → Nat
  | .lit (.string bytes) => bytes.length + 1
  | .lit _ => 1
  | .nil => 1
  | .ptr d => uptoBulk d + 1
  | .slice elems spare => uptoBulkAll elems + uptoBulkAll spare + 1
  | .agg parts => uptoBulkAll parts + 1
  | .iface _ d => uptoBulk d + 1
  | .map entries => uptoBulkEntries entries + 1
  | .held _ => 1
def uptoBulkAll {H : Type} : List (DataW H) → Nat
  | [] => 0
  | d :: r => uptoBulk d + uptoBulkAll r
def uptoBulkEntries {H : Type} : List (Lit × DataW H) → Nat
  | [] => 0
  | x :: r => uptoBulkEntry x + uptoBulkEntries r
def uptoBulkEntry {H : Type} : Lit × DataW H → Nat
  | (.string bytes, d) => bytes.length + uptoBulk d + 1
  | (_, d) => uptoBulk d + 1
 end
def uptoSmall : (H : Type) → List (DataW H) → Bool := fun _ ds => decide (uptoBulkAll ds ≤ 1048576)
def OpenSpec.upto (s : _root_.Go.ChangeSpec) : _root_.Go.OpenSpec := { _root_.Go.OpenSpec.ofChange s with cond := some uptoSmall }

/-- 'arboretumlaw04.WalOpens', WHERE WHAT IT READS IS OF BULK AT MOST 1048576: true; the input reads as it did. -/
def walOpensUptoRow : OpenClaim := { program := "ytepncdidkjjllaa", sum := "505a9e1bf5b714095a3aadeeeee91250c5c303ae1e4332a7090386c1d93c78e5", func := "arboretum/arboretumlaw04.WalOpens", spec := "walOpens", unfollowed := true, recurses := true, apart := false, narrowed := true }
def WalOpensUptoSaid : Prop := walOpensUptoRow.holds Try.pinned (OpenSpec.upto walOpensSpec)

/-- 'arboretumlaw04.WalRoom', WHERE WHAT IT READS IS OF BULK AT MOST 1048576: true; the input reads as it did. -/
def walRoomUptoRow : OpenClaim := { program := "ytepncdidkjjllaa", sum := "505a9e1bf5b714095a3aadeeeee91250c5c303ae1e4332a7090386c1d93c78e5", func := "arboretum/arboretumlaw04.WalRoom", spec := "walRoom", unfollowed := true, recurses := true, apart := false, narrowed := true }
def WalRoomUptoSaid : Prop := walRoomUptoRow.holds Try.pinned (OpenSpec.upto walRoomSpec)

/-- 'arboretumlaw04.WalOpened', WHERE WHAT IT READS IS OF BULK AT MOST 1048576: true; the input reads as it did. -/
def walOpenedUptoRow : OpenClaim := { program := "ytepncdidkjjllaa", sum := "505a9e1bf5b714095a3aadeeeee91250c5c303ae1e4332a7090386c1d93c78e5", func := "arboretum/arboretumlaw04.WalOpened", spec := "walOpened", unfollowed := true, recurses := true, apart := false, narrowed := true }
def WalOpenedUptoSaid : Prop := walOpenedUptoRow.holds Try.pinned (OpenSpec.upto walOpenedSpec)

/-- 'arboretumlaw10.SessionApart', WHERE WHAT IT READS IS OF BULK AT MOST 1048576: true; the input reads as it did. -/
def sessionApartUptoRow : OpenClaim := { program := "ytepncdidkjjllaa", sum := "505a9e1bf5b714095a3aadeeeee91250c5c303ae1e4332a7090386c1d93c78e5", func := "arboretum/arboretumlaw10.SessionApart", spec := "sessionApart", recurses := true, apart := false, narrowed := true }
def SessionApartUptoSaid : Prop := sessionApartUptoRow.holds Try.pinned (OpenSpec.upto sessionApartSpec)

/-- 'arboretumlaw10.SessionPlays', WHERE WHAT IT READS IS OF BULK AT MOST 1048576: true; the input reads as it did. -/
def sessionPlaysUptoRow : OpenClaim := { program := "ytepncdidkjjllaa", sum := "505a9e1bf5b714095a3aadeeeee91250c5c303ae1e4332a7090386c1d93c78e5", func := "arboretum/arboretumlaw10.SessionPlays", spec := "sessionPlays", unfollowed := true, recurses := true, apart := false, narrowed := true }
def SessionPlaysUptoSaid : Prop := sessionPlaysUptoRow.holds Try.pinned (OpenSpec.upto sessionPlaysSpec)

/-- 'arboretumlaw10.SessionWaits', WHERE WHAT IT READS IS OF BULK AT MOST 1048576: true; the input reads as it did. -/
def sessionWaitsUptoRow : OpenClaim := { program := "ytepncdidkjjllaa", sum := "505a9e1bf5b714095a3aadeeeee91250c5c303ae1e4332a7090386c1d93c78e5", func := "arboretum/arboretumlaw10.SessionWaits", spec := "sessionWaits", unfollowed := true, recurses := true, apart := false, narrowed := true }
def SessionWaitsUptoSaid : Prop := sessionWaitsUptoRow.holds Try.pinned (OpenSpec.upto sessionWaitsSpec)

/-- 'arboretumlaw03.DiskLasts', WHERE WHAT IT READS IS OF BULK AT MOST 1048576: true; the input reads as it did. -/
def diskLastsUptoRow : OpenClaim := { program := "ytepncdidkjjllaa", sum := "505a9e1bf5b714095a3aadeeeee91250c5c303ae1e4332a7090386c1d93c78e5", func := "arboretum/arboretumlaw03.DiskLasts", spec := "diskLasts", unfollowed := true, recurses := true, apart := false, narrowed := true }
def DiskLastsUptoSaid : Prop := diskLastsUptoRow.holds Try.pinned (OpenSpec.upto diskLastsSpec)

/-- 'arboretumlaw03.DiskArmed', WHERE WHAT IT READS IS OF BULK AT MOST 1048576: true; the input reads as it did. -/
def diskArmedUptoRow : OpenClaim := { program := "ytepncdidkjjllaa", sum := "505a9e1bf5b714095a3aadeeeee91250c5c303ae1e4332a7090386c1d93c78e5", func := "arboretum/arboretumlaw03.DiskArmed", spec := "diskArmed", unfollowed := true, recurses := true, apart := false, narrowed := true }
def DiskArmedUptoSaid : Prop := diskArmedUptoRow.holds Try.pinned (OpenSpec.upto diskArmedSpec)

/-- 'arboretumlaw03.DiskPlays', WHERE WHAT IT READS IS OF BULK AT MOST 1048576: true; the input reads as it did. -/
def diskPlaysUptoRow : OpenClaim := { program := "ytepncdidkjjllaa", sum := "505a9e1bf5b714095a3aadeeeee91250c5c303ae1e4332a7090386c1d93c78e5", func := "arboretum/arboretumlaw03.DiskPlays", spec := "diskPlays", unfollowed := true, recurses := true, apart := false, narrowed := true }
def DiskPlaysUptoSaid : Prop := diskPlaysUptoRow.holds Try.pinned (OpenSpec.upto diskPlaysSpec)

/-- 'arboretumlaw03.DiskTwice', WHERE WHAT IT READS IS OF BULK AT MOST 1048576: true; the input reads as it did. -/
def diskTwiceUptoRow : OpenClaim := { program := "ytepncdidkjjllaa", sum := "505a9e1bf5b714095a3aadeeeee91250c5c303ae1e4332a7090386c1d93c78e5", func := "arboretum/arboretumlaw03.DiskTwice", spec := "diskTwice", unfollowed := true, recurses := true, apart := false, narrowed := true }
def DiskTwiceUptoSaid : Prop := diskTwiceUptoRow.holds Try.pinned (OpenSpec.upto diskTwiceSpec)

/-- 'arboretumlaw04.WalLasts', WHERE WHAT IT READS IS OF BULK AT MOST 1048576: true; the input reads as it did. -/
def walLastsUptoRow : OpenClaim := { program := "ytepncdidkjjllaa", sum := "505a9e1bf5b714095a3aadeeeee91250c5c303ae1e4332a7090386c1d93c78e5", func := "arboretum/arboretumlaw04.WalLasts", spec := "walLasts", unfollowed := true, recurses := true, apart := false, narrowed := true }
def WalLastsUptoSaid : Prop := walLastsUptoRow.holds Try.pinned (OpenSpec.upto walLastsSpec)

end Rows
end Go.Proofs.Ytepncdidkjjllaa
