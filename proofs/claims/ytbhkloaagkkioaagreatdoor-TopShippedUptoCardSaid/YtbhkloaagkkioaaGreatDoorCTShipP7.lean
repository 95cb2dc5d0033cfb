/- Own work, in part by program, for topShipped.proved. -/
import Derived.Test.YtbhkloaagkkioaaGreatDoorCTShipP6
import Derived.Test.YtbhkloaagkkioaaGreatDoorCards
import Derived.Test.YtbhkloaagkkioaaGreatDoorTie
import Derived.WalkKit
import Derived.ProofKit
import Derived.OpenShut
import Derived.Deep.DeepHandedRow
import Derived.Lib.LaidTab
import Derived.Stop.LaidErr
set_option maxRecDepth 100000
namespace Go.Proofs.YtbhkloaagkkioaaGreatDoor.topShipped
open Go List Go.Proofs.Tryz Go.ChangeShapes Go.WideShapes Go.ChangeAt Go.RowKit
theorem own:ownKnob prog.godebug=none:=by kernel_rfl
theorem laid:laidOutB prog=true:=by kernel_rfl
theorem ADm:∀t∈f3.params.toList,prog.readableRec t=true∧t<prog.types.size:=by
 have h:(f3.params.toList.all fun t=>prog.readableRec t&&decide (t<prog.types.size))=true:=by kernel_rfl
 intro t ht
 simpa using all_eq_true.1 h t ht
theorem Yw {W:World} (h:laidMetH prog Rows.topShippedUptoRow.laid W):J9 (TI W):=by
 have h1:laidMet prog Rows.topShippedUptoRow.laid W:=h
 have e:Rows.topShippedUptoRow.laid=[("math/bits.deBruijn32tab",Rows.laid_math_bits_deBruijn32tab),("math/bits.deBruijn64tab",Rows.laid_math_bits_deBruijn64tab),("internal/strconv.uint64pow10",Lib.tabData .u64 Lib.pow10Tab),("unicode/utf8.acceptRanges",Rows.laid_unicode_utf8_acceptRanges),("unicode/utf8.first",Rows.laid_unicode_utf8_first)]:=by kernel_rfl
 rw [e] at h1
 exact AIy (g:=1) (Lib.tabIs_of_head (g:=1) (t:=377) (e:=237) (n:=20) kQ kQ kQ kQ kQ kQ (laidMet.tail (laidMet.tail h1))) kQ
theorem Gt (H:Type) (enc:TypeId×Value→H) (W:World) (base:Nat) (args:Array Value) (ds gs:List (DataW H)) (before:List MemPlace)
  (hval:∀(j:Nat) t v,f3.params[j]?=some t→args[j]?=some v→Value.okWide prog W .any base t v)
  (hW:DataW.Whole enc prog f3.params.toList Rows.topShippedSpec.vars false W args.toList ds gs before) (hk:Rows.uptoSmall H (ds++gs)=true) (hL:laidMetH prog Rows.topShippedUptoRow.laid W):
  Calls prog 3 args W fun e W'=> ∃v,e= .returned v∧Rows.topShippedSpec.post enc prog f3 false true false false W args v W':=by
 have hW':=hW
 obtain ⟨p,q,hA,hV,rfl,hfz,hnd⟩:=hW
 obtain ⟨rfl,-⟩:=trodVars_none hV
 rw [append_nil] at hk
 have hpar:f3.params= #[22,3,23]:=Tryz.params3
 rw [hpar] at hval
 have hA':=hA
 rw [hpar] at hA'
 obtain ⟨v0,vs0,d0,ds0,p0,r0,ha0,rfl,rfl,h0,t0⟩:=trodAll_cons hA'
 obtain ⟨v1,vs1,d1,ds1,p1,r1,ha1,rfl,rfl,h1,t1⟩:=trodAll_cons t0
 obtain ⟨v2,vs2,d2,ds2,p2,r2,ha2,rfl,rfl,h2,t2⟩:=trodAll_cons t1
 obtain ⟨hv,rfl,rfl⟩:=trodAll_nil t2
 obtain rfl:args= #[v0,v1,v2]:=by
  have e:args.toList=[v0,v1,v2]:=by rw [ha0,ha1,ha2,hv]
  cases args;simp_all
 have b0:=Kn hk (d:=d0) (by simp)
 obtain ⟨ad0,nn0,cp0,rfl⟩:=okWide_slice underlying22 (hval 0 _ _ rfl rfl)
 obtain ⟨fu0,g0⟩:=h0
 obtain ⟨v0,xs0,e0,q0⟩:=AE7 g0 b0
 simp [Value.cells] at e0
 subst e0
 have b1:=Kn hk (d:=d1) (by simp)
 obtain ⟨n1,rfl,-,q1⟩:=AFL underlying3 (hval 1 _ _ rfl rfl) h1
 have b2:=Kn hk (d:=d2) (by simp)
 obtain ⟨ad2,nn2,cp2,rfl⟩:=okWide_slice underlying23 (hval 2 _ _ rfl rfl)
 obtain ⟨fu2,g2⟩:=h2
 obtain ⟨v2,xs2,e2,q2⟩:=AAN g2 b2
 simp [Value.cells] at e2
 subst e2
 refine (AAc (NQ _ n1 _ xs0 xs2 (TI W) (Yw hL) q1 (q0.A (Yw hL)) q2.1 q2.2.1)).mono fun e W' ⟨he,hb⟩=>⟨_,he,?_⟩
 exact AG8 hW' rfl (fun gs' h=>by subst h;rfl) rfl underlying4 laid ADm hb
def Ly (l:List Value):Obj→Obj
 | .cells _ t frozen=> .cells l.toArray t frozen
 |o=>o
noncomputable def laidWorld (os:Os):World:=
 let w:=World.holding prog os ⟨#[],#[],[]⟩
 {w with heap:=(((((w.heap.modify 4 (Ly [.int .u8 0, .int .u8 1, .int .u8 28, .int .u8 2, .int .u8 29, .int .u8 14, .int .u8 24, .int .u8 3, .int .u8 30, .int .u8 22, .int .u8 20, .int .u8 15, .int .u8 25, .int .u8 17, .int .u8 4, .int .u8 8, .int .u8 31, .int .u8 27, .int .u8 13, .int .u8 23, .int .u8 21, .int .u8 19, .int .u8 16, .int .u8 7, .int .u8 26, .int .u8 12, .int .u8 18, .int .u8 6, .int .u8 11, .int .u8 5, .int .u8 10, .int .u8 9])).modify 5 (Ly [.int .u8 0, .int .u8 1, .int .u8 56, .int .u8 2, .int .u8 57, .int .u8 49, .int .u8 28, .int .u8 3, .int .u8 61, .int .u8 58, .int .u8 42, .int .u8 50, .int .u8 38, .int .u8 29, .int .u8 17, .int .u8 4, .int .u8 62, .int .u8 47, .int .u8 59, .int .u8 36, .int .u8 45, .int .u8 43, .int .u8 51, .int .u8 22, .int .u8 53, .int .u8 39, .int .u8 33, .int .u8 30, .int .u8 24, .int .u8 18, .int .u8 12, .int .u8 5, .int .u8 63, .int .u8 55, .int .u8 48, .int .u8 27, .int .u8 60, .int .u8 41, .int .u8 37, .int .u8 16, .int .u8 46, .int .u8 35, .int .u8 44, .int .u8 21, .int .u8 52, .int .u8 32, .int .u8 23, .int .u8 11, .int .u8 54, .int .u8 26, .int .u8 40, .int .u8 15, .int .u8 34, .int .u8 20, .int .u8 31, .int .u8 10, .int .u8 25, .int .u8 14, .int .u8 19, .int .u8 9, .int .u8 13, .int .u8 8, .int .u8 7, .int .u8 6])).modify 1 (Ly [.int .u64 1, .int .u64 10, .int .u64 100, .int .u64 1000, .int .u64 10000, .int .u64 100000, .int .u64 1000000, .int .u64 10000000, .int .u64 100000000, .int .u64 1000000000, .int .u64 10000000000, .int .u64 100000000000, .int .u64 1000000000000, .int .u64 10000000000000, .int .u64 100000000000000, .int .u64 1000000000000000, .int .u64 10000000000000000, .int .u64 100000000000000000, .int .u64 1000000000000000000, .int .u64 10000000000000000000])).modify 3 (Ly [.int .u8 128, .int .u8 191, .int .u8 160, .int .u8 191, .int .u8 128, .int .u8 159, .int .u8 144, .int .u8 191, .int .u8 128, .int .u8 143, .int .u8 0, .int .u8 0, .int .u8 0, .int .u8 0, .int .u8 0, .int .u8 0, .int .u8 0, .int .u8 0, .int .u8 0, .int .u8 0, .int .u8 0, .int .u8 0, .int .u8 0, .int .u8 0, .int .u8 0, .int .u8 0, .int .u8 0, .int .u8 0, .int .u8 0, .int .u8 0, .int .u8 0, .int .u8 0])).modify 2 (Ly (Pinned.utf8FirstZ.map fun (n:Nat)=>Value.int .u8 n)))}
theorem ACz (os:Os):laidMet prog Rows.topShippedUptoRow.laid ((laidWorld os).forCall (fun _ _=>0) ⟨#[],#[.slice none 0 0, .int .i64 0, .slice none 0 0],[]⟩).memory:=
 laidMet_of_run' 8 kQ kQ
theorem AJV (os:Os) {H:Type} (enc:TypeId×Value→H):∃places,DataW.whole enc prog ((laidWorld os).forCall (fun _ _=>0) ⟨#[],#[.slice none 0 0, .int .i64 0, .slice none 0 0],[]⟩).memory f3.params.toList Rows.topShippedSpec.vars false (#[.slice none 0 0, .int .i64 0, .slice none 0 0]:Array Value).toList 8=some ([.nil, .lit (.int .i64 0), .nil],[],places):=
 ⟨[],by kernel_rfl⟩
theorem lifted (os:Os) (started:os.Started) (H:Type) (enc:TypeId×Value→H) (F:Stop.Interp):
  ReturnsInHanded {} Tryz.checked os 3 .any ((Rows.OpenSpec.upto Rows.topShippedSpec).preRow enc prog f3 Rows.topShippedUptoRow.domain false Rows.topShippedUptoRow.laid) (((Rows.OpenSpec.upto Rows.topShippedSpec).at F).post enc prog f3 false true false false):=by
 obtain ⟨places,hx⟩:=AJV os enc
 refine returnsInHanded_of_row (C:=Tryz.checked) (s:=Rows.OpenSpec.upto Rows.topShippedSpec) own started kQ func3
  (witness_row_at (enc:=enc) (C:=Tryz.checked) false (laidWorld os) #[.slice none 0 0, .int .i64 0, .slice none 0 0] rfl kQ kQ kQ
   (OpenSpec.preRow_of_cond 8 hx kQ (fun k hk=>by cases hk;kernel_rfl) kQ (ACz os))) ?_
 intro W base args ds gs before hval hW _ hcond _ hL _ _
 exact Gt H enc W base args ds gs before hval hW (hcond _ rfl) hL
end Go.Proofs.YtbhkloaagkkioaaGreatDoor.topShipped
