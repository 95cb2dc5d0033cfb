/-
  NARROWER THAN 'FOR EVERY INPUT', by the rows' own cells (each row's printed sentence says how): FollowKeeps: loops · FollowPlays: loops.
  DERIVED. THE GIVEN ROWS OF THIS SEAT. 3 by the template 'for every input the law returns true; each argument reads behind the call as it read before'; 0 by the template 'total and deterministic' (their statements: YteebpmkkdlabpaaGreatTotals.lean).
  GIVEN WITH THE SEED: the statements are not yours to turn. If you find one false, say at which input.
  Laid BY PROGRAM, IN A SANDBOX (cutbox-rows.mjs): the forced cells as the released guide's own fill.sh prints them over the translation 2772499cbe283a27… (all of the seat's roots in one cut). By AI agents, Wed Nov 11 2026. No macro, syntax, notation, axiom, sorry.
-/
import Derived.Test.YteebpmkkdlabpaaGreatChecked
import GoSem.Claim
import GoSem.ClaimJoined
import GoSem.ClaimMapViews
import Derived.JoinedTies
import Derived.KernelRfl
namespace Go.Proofs.YteebpmkkdlabpaaGreat
/- THE CELL 'sum', in the pinned program and in every row, IS THE sha256 OF THE DUMP (.gsa) THAT YteebpmkkdlabpaaGreatProg.lean LOADS. Nothing in Lean hashes anything: it is a label: what it is worth is what the hold of that sum in a sandbox is worth. -/
noncomputable def Tryz.pinned : Pinned := { name := "yteebpmkkdlabpaagreat", sum := "2772499cbe283a27433f7b58f396c5ba4861b1b71753fe41aca94b949927c508", checked := Tryz.checked }
namespace Rows
def none {H : Type} : Left H := { results := [], args := [] }

/-- 'arboretumlaw18.FollowKeeps': WHATEVER THE INPUT: true; the input reads as it did. -/
def followKeepsSpec : ChangeSpec := { name := "followKeeps", fn := fun _ => fun
  | [d] => { results := [.lit (.bool true)], args := [d] }
  | _ => none }
def followKeepsRow : OpenClaim := { program := "yteebpmkkdlabpaagreat", sum := "2772499cbe283a27433f7b58f396c5ba4861b1b71753fe41aca94b949927c508", func := "arboretum/arboretumlaw18.FollowKeeps", spec := "followKeeps", unfollowed := true, recurses := true, loops := true, apart := false }
def FollowKeepsSaid : Prop := followKeepsRow.holds Tryz.pinned (OpenSpec.ofChange followKeepsSpec)

/-- ITS FALSE NEIGHBOUR: 'it returns false'. Refute it at one input. -/
def followKeepsWrong : ChangeSpec := { name := "followKeeps", fn := fun _ => fun
  | [d] => { results := [.lit (.bool false)], args := [d] }
  | _ => none }
def FollowKeepsWrongFalsely : Prop := followKeepsRow.holds Tryz.pinned (OpenSpec.ofChange followKeepsWrong)

/-- 'arboretumlaw18.FollowPlays': WHATEVER THE INPUT: true; the input reads as it did. -/
def followPlaysSpec : ChangeSpec := { name := "followPlays", fn := fun _ => fun
  | [d1, d2] => { results := [.lit (.bool true)], args := [d1, d2] }
  | _ => none }
def followPlaysRow : OpenClaim := { program := "yteebpmkkdlabpaagreat", sum := "2772499cbe283a27433f7b58f396c5ba4861b1b71753fe41aca94b949927c508", func := "arboretum/arboretumlaw18.FollowPlays", spec := "followPlays", unfollowed := true, recurses := true, loops := true, apart := false }
def FollowPlaysSaid : Prop := followPlaysRow.holds Tryz.pinned (OpenSpec.ofChange followPlaysSpec)

/-- ITS FALSE NEIGHBOUR: 'it returns false'. Refute it at one input. -/
def followPlaysWrong : ChangeSpec := { name := "followPlays", fn := fun _ => fun
  | [d1, d2] => { results := [.lit (.bool false)], args := [d1, d2] }
  | _ => none }
def FollowPlaysWrongFalsely : Prop := followPlaysRow.holds Tryz.pinned (OpenSpec.ofChange followPlaysWrong)

/-- 'arboretumlaw18.LeadFollowed': WHATEVER THE INPUT: true; the input reads as it did. -/
def leadFollowedSpec : ChangeSpec := { name := "leadFollowed", fn := fun _ => fun
  | [d1, d2, d3] => { results := [.lit (.bool true)], args := [d1, d2, d3] }
  | _ => none }
def leadFollowedRow : OpenClaim := { program := "yteebpmkkdlabpaagreat", sum := "2772499cbe283a27433f7b58f396c5ba4861b1b71753fe41aca94b949927c508", func := "arboretum/arboretumlaw18.LeadFollowed", spec := "leadFollowed", unfollowed := true, recurses := true, apart := false }
def LeadFollowedSaid : Prop := leadFollowedRow.holds Tryz.pinned (OpenSpec.ofChange leadFollowedSpec)

/-- ITS FALSE NEIGHBOUR: 'it returns false'. Refute it at one input. -/
def leadFollowedWrong : ChangeSpec := { name := "leadFollowed", fn := fun _ => fun
  | [d1, d2, d3] => { results := [.lit (.bool false)], args := [d1, d2, d3] }
  | _ => none }
def LeadFollowedWrongFalsely : Prop := leadFollowedRow.holds Tryz.pinned (OpenSpec.ofChange leadFollowedWrong)

/- THE SECOND FORM. 'bulk': how many values and letters a reading holds, each counted each time it is reached (what is shared counts as often as it is met; a slice's spare places count too). A statement '..UptoSaid' is the law's where the arguments, and the package variables that the reading takes, are together of bulk at most 1048576: NARROWER than '..Said'. Prove '..Said' where nothing that the law and all that it calls make is longer than what came in: it says more and counts as full. Else prove '..UptoSaid'. A law counts once. -/
mutual
def uptoBulk {H : Type} : DataW H → Nat
  | .lit (.string bytes) => bytes.length + 1
  | .lit _ => 1
  | .nil => 1
  | .ptr d => uptoBulk d + 1
  | .slice elems spare => uptoBulkAll elems + uptoBulkAll spare + 1
  | .agg parts => uptoBulkAll parts + 1
  | .iface _ d => uptoBulk d + 1
  | .map entries => uptoBulkEntries entries + 1
  | .held _ => 1
def uptoBulkAll {H : Type} : List (DataW H) → Nat
  | [] => 0
  | d :: r => uptoBulk d + uptoBulkAll r
def uptoBulkEntries {H : Type} : List (Lit × DataW H) → Nat
  | [] => 0
  | x :: r => uptoBulkEntry x + uptoBulkEntries r
def uptoBulkEntry {H : Type} : Lit × DataW H → Nat
  | (.string bytes, d) => bytes.length + uptoBulk d + 1
  | (_, d) => uptoBulk d + 1
 end
def uptoSmall : (H : Type) → List (DataW H) → Bool := fun _ ds => decide (uptoBulkAll ds ≤ 1048576)
def OpenSpec.upto (s : _root_.Go.ChangeSpec) : _root_.Go.OpenSpec := { _root_.Go.OpenSpec.ofChange s with cond := some uptoSmall }

/-- 'arboretumlaw18.FollowKeeps', WHERE WHAT IT READS IS OF BULK AT MOST 1048576: true; the input reads as it did. -/
def followKeepsUptoRow : OpenClaim := { program := "yteebpmkkdlabpaagreat", sum := "2772499cbe283a27433f7b58f396c5ba4861b1b71753fe41aca94b949927c508", func := "arboretum/arboretumlaw18.FollowKeeps", spec := "followKeeps", unfollowed := true, recurses := true, loops := true, apart := false, narrowed := true }
def FollowKeepsUptoSaid : Prop := followKeepsUptoRow.holds Tryz.pinned (OpenSpec.upto followKeepsSpec)

/-- 'arboretumlaw18.FollowPlays', WHERE WHAT IT READS IS OF BULK AT MOST 1048576: true; the input reads as it did. -/
def followPlaysUptoRow : OpenClaim := { program := "yteebpmkkdlabpaagreat", sum := "2772499cbe283a27433f7b58f396c5ba4861b1b71753fe41aca94b949927c508", func := "arboretum/arboretumlaw18.FollowPlays", spec := "followPlays", unfollowed := true, recurses := true, loops := true, apart := false, narrowed := true }
def FollowPlaysUptoSaid : Prop := followPlaysUptoRow.holds Tryz.pinned (OpenSpec.upto followPlaysSpec)

/-- 'arboretumlaw18.LeadFollowed', WHERE WHAT IT READS IS OF BULK AT MOST 1048576: true; the input reads as it did. -/
def leadFollowedUptoRow : OpenClaim := { program := "yteebpmkkdlabpaagreat", sum := "2772499cbe283a27433f7b58f396c5ba4861b1b71753fe41aca94b949927c508", func := "arboretum/arboretumlaw18.LeadFollowed", spec := "leadFollowed", unfollowed := true, recurses := true, apart := false, narrowed := true }
def LeadFollowedUptoSaid : Prop := leadFollowedUptoRow.holds Tryz.pinned (OpenSpec.upto leadFollowedSpec)

end Rows
end Go.Proofs.YteebpmkkdlabpaaGreat
