/- Own work: topShipped.proved: the given second form, from the walk in the other texts, for arguments of bounded bulk. -/
import Derived.Test.YtbhkloaagkkioaaGreatDoorCTShipP9
import Derived.Test.YtbhkloaagkkioaaGreatDoorCTShipP6
import Derived.Test.YtbhkloaagkkioaaGreatDoorCards
import Derived.Test.YtbhkloaagkkioaaGreatDoorTie
import Derived.WalkKit
import Derived.ProofKit
import Derived.OpenShut
import Derived.Deep.DeepHandedRow
import Derived.Lib.LaidTab
import Derived.Stop.LaidErr
set_option maxRecDepth 100000
namespace Go.Proofs.YtbhkloaagkkioaaGreatDoor.topShipped
open Go List Go.Proofs.Tryz Go.ChangeShapes Go.WideShapes Go.ChangeAt Go.RowKit
theorem plain (f:FuncId) (fn:Func) (hf:Tryz.pinned.checked.prog.funcNamed "arboretum/arboretumtop.TopShipped" =some f) (hfn:Tryz.pinned.checked.prog.funcs[f]?=some fn):
  true=Tryz.pinned.checked.prog.looks []∧∀(j:Nat) t,fn.params[j]?=some t→Tryz.pinned.checked.prog.wantsStandIn t=false:=by
 obtain rfl:f=3:=Option.some.inj ((show prog.funcNamed "arboretum/arboretumtop.TopShipped" =some 3 by kernel_rfl).symm.trans hf)|>.symm
 obtain rfl:fn=f3:=(Option.some.inj (func3.symm.trans hfn)).symm
 refine ⟨by kernel_rfl,fun j t ht=>?_⟩
 have h:(f3.params.toList.all fun t=> !Tryz.pinned.checked.prog.wantsStandIn t)=true:=by kernel_rfl
 have h2:=all_eq_true.1 h t (Array.mem_def.1 (Array.mem_of_getElem? ht))
 simpa using h2
theorem proved:Rows.TopShippedUptoCardSaid:=
 Claim7.holds_tied_plain_at .later [] _ _ _ _ AEa (fun _ h=>by cases h) kQ (fun _ h=>by cases h) topShippedUpto_row_tie rfl ⟨rfl,rfl⟩ kQ rfl plain kQ
end Go.Proofs.YtbhkloaagkkioaaGreatDoor.topShipped
