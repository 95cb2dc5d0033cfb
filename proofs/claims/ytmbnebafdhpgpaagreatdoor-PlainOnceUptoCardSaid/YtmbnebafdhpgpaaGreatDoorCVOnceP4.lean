/- Own work, in part by program, for plainOnce.proved. -/
import Derived.Test.YtmbnebafdhpgpaaGreatDoorCVOnceP2
import Derived.Test.YtmbnebafdhpgpaaGreatDoorCVOnceP3
import Derived.Test.YtmbnebafdhpgpaaGreatDoorCVOnceP0
import Derived.Test.YtmbnebafdhpgpaaGreatDoorRows
import Derived.WalkKit
import Derived.ProofKit
import Derived.OpenShut
import Derived.JoinedCond
import Derived.Carry
import Derived.Deep.Grids
import Derived.Handed
import Derived.Deep.Strs
set_option maxRecDepth 100000
namespace Go.Proofs.YtmbnebafdhpgpaaGreatDoor
open Go
theorem pr1_spec (b : Nat) (c : Prop) [Decidable c] : Fn Tryz.prog 101 #[vptr b] [ptc b [.bool (decide c)] 4] fun v L => v = vint (whenZ (¬ c) 110) ∧ L = [ptc b [.bool (decide c)] 4] := by
 refine Fn.intro Tryz.func101 rfl rfl fun F W => ?_
 refine .sr (.an rfl (.sr (.u (.ld rfl ag_4) (.u (.not rfl) (.cv Tryz.func90 [_, _] (pwhen_spec _ _) ?_)))))
 refine .an rfl (.ret ?_)
 exact .dn rfl rfl ⟨by congr 1; unfold whenZ; first | (simp_all; done) | (simp_all; omega) | (split <;> simp_all; done) | (split <;> simp_all <;> omega), rfl⟩
theorem pr2_spec (t : Nat) (τ : Tr) (ids : List Bs) (iv : Value) (r : Rq) (p : HP) (hA : WiA p ⟨0, ids⟩ iv r) (N : Nat) (ho : τ.Ok N) (hN : N ≤ 1099511627776) (b5 : Nat) : Fn Tryz.prog 102 #[vptr b5] [ptc b5 (rqC r) 33] fun v L => v = vint (checkZ r.path) ∧ L = [ptc b5 (rqC r) 33] := by
 refine Fn.intro Tryz.func102 rfl rfl fun F W => ?_
 have hpl := hA.rq.path
 have hpl2 : r.path.length ≤ 1048576 := by omega
 refine .sr (.an rfl (.sr (.u (.fieldAddr rfl fo_33_2) (.u (.ld rfl ag_9) (.cv Tryz.func87 [_] (check_spec r.path hpl2) ?_)))))
 refine .an rfl (.ret ?_)
 exact .vv
theorem pr3_spec (t : Nat) (τ : Tr) (ids : List Bs) (iv : Value) (r : Rq) (p : HP) (hA : WiA p ⟨0, ids⟩ iv r) (N : Nat) (ho : τ.Ok N) (hN : N ≤ 1099511627776) (b8 b5 : Nat) : Fn Tryz.prog 103 #[vptr b8, vptr b5] [ptc b8 (wiC t (⟨0, ids⟩ : Who) iv r) 134, ptc b5 (rqC r) 33, treeR t τ, p] fun v L => v = vint (whenZ (¬ thereT τ r.path) 60) ∧ L = [ptc b8 (wiC t (⟨0, ids⟩ : Who) iv r) 134, ptc b5 (rqC r) 33, treeR t τ, p] := by
 refine Fn.intro Tryz.func103 rfl rfl fun F W => ?_
 refine .sr (.an rfl (.sr (.q (.la (wiC t (⟨0, ids⟩ : Who) iv r) rfl ag_134) rfl (.u (.fieldAddr rfl fo_33_2) (.u (.ld rfl ag_9) (.cv Tryz.func104 [_, _] (pthere_spec t τ ⟨0, ids⟩ iv r p hA N ho hN r.path) ?_))))))
 refine .u (.not rfl) (.cv Tryz.func90 [_, _] (pwhen_spec _ _) ?_)
 refine .an rfl (.ret ?_)
 exact .dn rfl rfl ⟨by congr 1; unfold whenZ; first | (simp_all; done) | (simp_all; omega) | (split <;> simp_all; done) | (split <;> simp_all <;> omega), rfl⟩
theorem pr4_spec (t : Nat) (τ : Tr) (ids : List Bs) (iv : Value) (r : Rq) (p : HP) (hA : WiA p ⟨0, ids⟩ iv r) (N : Nat) (ho : τ.Ok N) (hN : N ≤ 1099511627776) (b5 b8 : Nat) : Fn Tryz.prog 105 #[vptr b5, vptr b8] [ptc b5 (rqC r) 33, ptc b8 (wiC t (⟨0, ids⟩ : Who) iv r) 134, treeR t τ, p] fun v L => v = vint (whenZ (r.kind ≠ 10 ∧ ¬ mayT τ ids r.path 1) 65) ∧ L = [ptc b5 (rqC r) 33, ptc b8 (wiC t (⟨0, ids⟩ : Who) iv r) 134, treeR t τ, p] := by
 refine Fn.intro Tryz.func105 rfl rfl fun F W => ?_
 refine .sr (.an rfl (.sr (.u (.fieldAddr rfl fo_33_0) (.u (.ld rfl ag_3) (.ui rfl rfl rfl (.m rfl (.ndec (t := 6) rfl (fun h1_6 => ?_) (fun h1_6 => ?_))))))))
 ·refine .kNT (t := 5) rfl h1_6 (.grun (t := 6) rfl rfl rfl (.q (.la (wiC t (⟨0, ids⟩ : Who) iv r) rfl ag_134) rfl (.grun (t := 6) rfl rfl rfl (.u (.fieldAddr rfl fo_33_2) (.grun (t := 6) rfl rfl rfl (.u (.ld rfl ag_9) (.grun (t := 6) rfl rfl rfl (.cv Tryz.func92 [_, _, _] (pmay_spec t τ ⟨0, ids⟩ iv r p hA N ho hN r.path 1) ?_))))))))
  refine .grun (t := 6) rfl rfl rfl (.u (.not rfl) (.u (.pickT rfl rfl) (.cv Tryz.func90 [_, _] (pwhen_spec _ _) ?_)))
  refine .an rfl (.ret ?_)
  exact .dn rfl rfl ⟨by congr 1; unfold whenZ; first | (simp_all; done) | (simp_all; omega) | (split <;> simp_all; done) | (split <;> simp_all <;> omega), rfl⟩
 refine .kNF (t := 5) rfl h1_6 (.gk (.gk (.gk (.gk (.gk (.u (.pickF rfl rfl) (.cv Tryz.func90 [_, _] (pwhen_spec _ _) ?_)))))))
 refine .an rfl (.ret ?_)
 exact .dn rfl rfl ⟨by congr 1; unfold whenZ; first | (simp_all; done) | (simp_all; omega) | (split <;> simp_all; done) | (split <;> simp_all <;> omega), rfl⟩
theorem prfirst (t : Nat) (τ : Tr) (ids : List Bs) (iv : Value) (r : Rq) (p : HP) (hA : WiA p ⟨0, ids⟩ iv r) (N : Nat) (ho : τ.Ok N) (hN : N ≤ 1099511627776) (b5 b8 b9 : Nat) (va : Value) (p0 : HP) (hr : ∀ h : Hp, p0 h → rdS 1 h va 4 [.func (.func 101) #[] #[vptr b9], .func (.func 102) #[] #[vptr b5], .func (.func 103) #[] #[vptr b8, vptr b5], .func (.func 105) #[] #[vptr b5, vptr b8]]) : Fn Tryz.prog 85 #[va] [p0, ptc b9 [.bool (decide (readK r.kind))] 4, ptc b5 (rqC r) 33, ptc b8 (wiC t (⟨0, ids⟩ : Who) iv r) 134, treeR t τ, p] fun v L => v = vint (readX τ ids r) ∧ L = [p0, ptc b9 [.bool (decide (readK r.kind))] 4, ptc b5 (rqC r) 33, ptc b8 (wiC t (⟨0, ids⟩ : Who) iv r) 134, treeR t τ, p] := by
 refine Fn.unpack (pfirst_spec [.func (.func 101) #[] #[vptr b9], .func (.func 102) #[] #[vptr b5], .func (.func 103) #[] #[vptr b8, vptr b5], .func (.func 105) #[] #[vptr b5, vptr b8]] (readE τ ids r) va p0 _ rfl (by show 4 ≤ _; decide) hr ?_)
 intro i hi hz
 have hi2 : i < 4 := hi
 have hc : i = 0 ∨ i = 1 ∨ i = 2 ∨ i = 3 := by omega
 rcases hc with rfl | rfl | rfl | rfl
 ·exact FunV.share (us := []) (vs := []) (ws := [vptr b9]) Tryz.func101 rfl rfl (by repeat' constructor) (pr1_spec b9 _)
 ·exact FunV.share (us := []) (vs := []) (ws := [vptr b5]) Tryz.func102 rfl rfl (by repeat' constructor) (pr2_spec t τ ids iv r p hA N ho hN b5)
 ·exact FunV.share (us := []) (vs := []) (ws := [vptr b8, vptr b5]) Tryz.func103 rfl rfl (by repeat' constructor) (pr3_spec t τ ids iv r p hA N ho hN b8 b5)
 ·exact FunV.share (us := []) (vs := []) (ws := [vptr b5, vptr b8]) Tryz.func105 rfl rfl (by repeat' constructor) (pr4_spec t τ ids iv r p hA N ho hN b5 b8)
theorem pread_spec (t : Nat) (τ : Tr) (ids : List Bs) (iv : Value) (r : Rq) (p : HP) (hA : WiA p ⟨0, ids⟩ iv r) (N : Nat) (ho : τ.Ok N) (hN : N ≤ 1099511627776) : Fn Tryz.prog 55 #[vptr t, iv, .agg (rqC r).toArray] [treeR t τ, p] fun v L =>
    ∃ av kv : Value, v = .agg (rpC (readR τ ids r av kv)).toArray ∧ (∃ a c, av = .slice a (readAl τ ids r).length c) ∧ (∃ a c, kv = .slice a (readKl τ ids r).length c) ∧ L = [treeR t τ, p, slR 75 2 av (readAl τ ids r).length ((readAl τ ids r).flatMap acC), slR 9 1 kv (readKl τ ids r).length (strs (readKl τ ids r))] := by
 refine Fn.intro Tryz.func55 rfl rfl fun F W => ?_
 have hrq := hA.rqcells
 have hcl := hA.cells t
 refine .sr (.oq (.box rfl) ?_)
 rintro v L' ⟨b5, rfl, rfl⟩
 refine .oq (.allocA ze_41) ?_
 rintro v L' ⟨b6, rfl, rfl⟩
 refine .nil (.pc b5 (rqC r) ?_)
 refine .then_n (.seq (.sm rfl (.q (.ptreq rfl rfl Tryz.underlying76) rfl (.nt (.condF rfl (.sk (.seq (.draw [3, 5, 6] [[0, 1, 2, 3, 4, 5], [6]] mixed (by kernel_rfl) (.go [ptc b5 _ _] (by repeat' constructor) (.k rfl (.fieldAddr rfl fo_33_1) (.k rfl (.ld rfl ag_3) (.k rfl (.move rfl) (.h2 (k := 5) rfl rfl (by kernel_rfl) rfl (.c Tryz.func29 [_] (trzxid_spec t τ)) (by repeat' constructor) (.allocA ze_41) (by repeat' constructor) ?_ ?_)))))))))))))
 ·rintro v L' ⟨rfl, rfl⟩
  refine D.k rfl (.to (v' := .agg (rpC ⟨r.xid, τ.zx, 0, [], [], st0, nilV, nilV, nilV⟩).toArray) (.buildN (pl := [(0, 1), (1, 1), (2, 1), (3, 1), (4, 1), (5, 9), (14, 1), (15, 1), (16, 1)]) (us := [(0, vint r.xid), (1, vint τ.zx)]) (cells := rpC ⟨r.xid, τ.zx, 0, [], [], st0, nilV, nilV, nilV⟩) Tryz.underlying41 (by kernel_rfl) ze_41 rfl rfl) rfl) (.hh rfl (.allocA ze_41) ?_)
  rintro v L' ⟨b7, rfl, rfl⟩
  refine D.ph (.g0 (.sa rfl rfl rfl sz_41 (by exact rp_cells rfl rfl rfl) ?_))
  refine D.ph (.fin (.pc b7 (rpC ⟨r.xid, τ.zx, 0, [], [], st0, nilV, nilV, nilV⟩) ?_))
  refine .then_n (.sm rfl (.m rfl (.q (.la (rqC r) rfl ag_33) rfl (.q (.to (v' := .agg (wiC t (⟨0, ids⟩ : Who) iv r).toArray) (.buildN (pl := [(0, 1), (1, 1), (2, 1), (3, 10)]) (us := [(0, vptr t), (1, vint (⟨0, ids⟩ : Who).ses), (2, iv), (3, .agg (rqC r).toArray)]) (cells := wiC t (⟨0, ids⟩ : Who) iv r) Tryz.underlying134 (by kernel_rfl) ze_134 rfl (fill_wish t (⟨0, ids⟩ : Who) iv hA.shape r)) rfl) rfl (.oq (.allocA ze_134) ?_)))))
  rintro v L' ⟨b8, rfl, rfl⟩
  refine .sa rfl rfl sz_134 (by exact fun v hv => List.all_eq_true.1 hcl v hv) ?_
  refine .nil (.pc b8 (wiC t (⟨0, ids⟩ : Who) iv r) ?_)
  refine .then_n (.seq (.joinK (ι := Nat) (fun q E => (9, vptr q) :: E) (fun q => [ptc q [.bool (decide (readK r.kind))] 4]) (fun q => True) (pre := []) (ts := [0, 5, 6, 7, 8]) (.cons rfl (.cons rfl (.cons rfl (.cons rfl (.cons rfl (.nil)))))) (by repeat' constructor) ?_ ?_))
  ·refine .region (.u (.fieldAddr rfl fo_33_0) (.u (.ld rfl ag_3) (.ui rfl rfl rfl (.m rfl (.dec (t := 25) rfl (fun h5_25 => ?_) (fun h5_25 => ?_))))))
   ·refine .kDT (t := 24) rfl h5_25 (.gk (.gk (.gk (.u (.pickT rfl rfl) (.m rfl (.gk (.gk (.gk (.u (.pickT rfl rfl) (.m rfl (.gk (.gk (.gk (.q (.as (v' := .bool (decide (readK r.kind))) (by simp [readK, h5_25]) (.pickT rfl rfl)) rfl (.oq (.alloc ze_4) ?_)))))))))))))))
    rintro v L' ⟨b9, rfl, rfl⟩
    refine .st rfl rfl rfl sz_4 ?_
    refine .nt ?_
    exact .mk (b9) (trivial) ⟨rfl, rfl, rfl, rfl, rfl, rfl, trivial⟩
   refine .kDF (t := 24) rfl h5_25 (.grun (t := 25) rfl rfl rfl (.u (.fieldAddr rfl fo_33_0) (.grun (t := 25) rfl rfl rfl (.u (.ld rfl ag_3) (.grun (t := 25) rfl rfl rfl (.ui rfl rfl rfl (.u (.pickF rfl rfl) (.m rfl (.dec (t := 30) rfl (fun h5_30 => ?_) (fun h5_30 => ?_))))))))))
   ·refine .kDT (t := 28) rfl h5_30 (.kDT (t := 29) rfl h5_30 (.gk (.gk (.gk (.u (.pickT rfl rfl) (.m rfl (.gk (.gk (.gk (.q (.as (v' := .bool (decide (readK r.kind))) (by simp [readK, h5_25, h5_30]) (.pickT rfl rfl)) rfl (.oq (.alloc ze_4) ?_)))))))))))
    rintro v L' ⟨b9, rfl, rfl⟩
    refine .st rfl rfl rfl sz_4 ?_
    refine .nt ?_
    exact .mk (b9) (trivial) ⟨rfl, rfl, rfl, rfl, rfl, rfl, trivial⟩
   refine .kDF (t := 28) rfl h5_30 (.kDF (t := 29) rfl h5_30 (.grun (t := 30) rfl rfl rfl (.u (.fieldAddr rfl fo_33_0) (.grun (t := 30) rfl rfl rfl (.u (.ld rfl ag_3) (.grun (t := 30) rfl rfl rfl (.ui rfl rfl rfl (.u (.pickF rfl rfl) (.m rfl (.dec (t := 35) rfl (fun h5_35 => ?_) (fun h5_35 => ?_)))))))))))
   ·refine .kDT (t := 33) rfl h5_35 (.kDT (t := 34) rfl h5_35 (.gk (.gk (.gk (.q (.as (v' := .bool (decide (readK r.kind))) (by simp [readK, h5_25, h5_30, h5_35]) (.pickT rfl rfl)) rfl (.oq (.alloc ze_4) ?_))))))
    rintro v L' ⟨b9, rfl, rfl⟩
    refine .st rfl rfl rfl sz_4 ?_
    refine .nt ?_
    exact .mk (b9) (trivial) ⟨rfl, rfl, rfl, rfl, rfl, rfl, trivial⟩
   refine .kDF (t := 33) rfl h5_35 (.kDF (t := 34) rfl h5_35 (.grun (t := 35) rfl rfl rfl (.u (.fieldAddr rfl fo_33_0) (.grun (t := 35) rfl rfl rfl (.u (.ld rfl ag_3) (.grun (t := 35) rfl rfl rfl (.ui rfl rfl rfl (.q (.as (v' := .bool (decide (readK r.kind))) (by simp [readK, h5_25, h5_30, h5_35]) (.pickF rfl rfl)) rfl (.oq (.alloc ze_4) ?_)))))))))
   rintro v L' ⟨b9, rfl, rfl⟩
   refine .st rfl rfl rfl sz_4 ?_
   refine .nt ?_
   exact .mk (b9) (trivial) ⟨rfl, rfl, rfl, rfl, rfl, rfl, trivial⟩
  rintro b9 _
  refine .sr (.q (.func (us := []) (vs := [_]) rfl rfl) rfl (.q (.func (us := []) (vs := [_]) rfl rfl) rfl (.q (.func (us := []) (vs := [_, _]) rfl rfl) rfl (.q (.func (us := []) (vs := [_, _]) rfl rfl) rfl (.oq (.buildSlice1 (vs := [_, _, _, _]) el_230 ze_176 rfl rfl rfl rfl rfl (by decide)) ?_)))))
  rintro v L' ⟨bf, rfl, rfl⟩
  refine .slMake (b := bf) (n := 4) (c := 4) (xs := [.func (.func 101) #[] #[vptr b9], .func (.func 102) #[] #[vptr b5], .func (.func 103) #[] #[vptr b8, vptr b5], .func (.func 105) #[] #[vptr b5, vptr b8]]) (by repeat' constructor) (by decide) (by exact Nat.le_refl 4) rfl (.cv Tryz.func85 [_] (prfirst t τ ids iv r p hA N ho hN b5 b8 b9 _ _ (fun _ => slR_rd)) ?_)
  refine .u (.fieldAddr rfl fo_41_2) (.oq (.store rfl rfl rfl sz_27 ?c79 (nfz0 _ _)) ?_)
  case c79 => simp
  rintro v L' rfl
  refine .nil (.pc b7 (rpC ⟨r.xid, τ.zx, readX τ ids r, [], [], st0, nilV, nilV, nilV⟩) ?_)
  refine .then_n (.seq (.sr (.u (.fieldAddr rfl fo_41_2) (.u (.ld rfl ag_27) (.ui rfl rfl rfl (.nt (.condN rfl (fun h49 => ?_) (fun h49 => ?_))))))))
  ·refine .sr (.q (.la (rpC (⟨r.xid, τ.zx, readX τ ids r, [], [], st0, nilV, nilV, nilV⟩ : Rp)) rfl ag_41) rfl (.sa rfl rfl sz_41 (by exact rp_cells rfl rfl rfl) ?_))
   refine .nil ?_
   have hAl : readAl τ ids r = [] := readAl_no (fun g => h49 g.1)
   have hKl : readKl τ ids r = [] := readKl_no (fun g => h49 g.1)
   refine .add (slR_nil 75 2) (.as (q := slR 75 2 nilV (readAl τ ids r).length ((readAl τ ids r).flatMap acC)) (p := slR 75 2 nilV 0 []) (by repeat' constructor) (by rw [hAl]; rfl) (.add (slR_nil 9 1) (.as (q := slR 9 1 nilV (readKl τ ids r).length (strs (readKl τ ids r))) (p := slR 9 1 nilV 0 []) (by repeat' constructor) (by rw [hKl]; rfl) (.ptCast (b := b6) (l' := rpC (readR τ ids r nilV nilV)) (by repeat' constructor) (by rw [readR_bad h49]; rfl) ?_))))
   refine .then_n (.rt ?_)
   exact .d1 rfl (.cellA rfl ag_41 (by repeat' constructor) (by simp) rfl) ⟨nilV, nilV, rfl, ⟨_, _, congrArg (fun l : List Ac => Value.slice _ l.length _) hAl.symm⟩, ⟨_, _, congrArg (fun l : List Bs => Value.slice _ l.length _) hKl.symm⟩, rfl⟩
  have hx : readX τ ids r = 0 := by omega
  obtain ⟨hrk, hth⟩ := read_there hx
  rw [hx]
  refine .sk (.sm rfl (.u (.fieldAddr rfl fo_33_2) (.u (.ld rfl ag_9) (.cv Tryz.func76 [_, _] (trstat_spec t τ r.path N ho hN) ?_))))
  refine .m rfl (.u (.extract rfl rfl) (.u (.extract rfl rfl) (.u (.fieldAddr rfl fo_41_5) (.sa rfl rfl sz_37 (by intro v hv; simp only [stC, List.mem_cons, List.not_mem_nil, or_false] at hv; rcases hv with rfl | rfl | rfl | rfl | rfl | rfl | rfl | rfl | rfl <;> rfl) ?_))))
  refine .nil (.pc b7 (rpC ⟨r.xid, τ.zx, 0, [], [], statD τ r.path, nilV, nilV, nilV⟩) ?_)
  refine .then_n (.seq (.sr (.u (.fieldAddr rfl fo_33_0) (.u (.ld rfl ag_3) (.nt (.block (.sr (.ui rfl rfl rfl (.an rfl (.condD rfl (fun h61 => ?_) (fun h61 => ?_)))))))))))
  ·refine .region (.m rfl (.u (.fieldAddr rfl fo_33_2) (.u (.ld rfl ag_9) (.cv Tryz.func106 [_, _] (trget_spec t τ r.path N ho hN) ?_))))
   refine .m rfl (.u (.extract rfl rfl) (.u (.extract rfl rfl) (.u (.extract rfl rfl) (.u (.fieldAddr rfl fo_41_4) (.oq (.store rfl rfl rfl sz_9 ?c116 (nfz0 _ _)) ?_)))))
   case c116 => simp
   rintro v L' rfl
   refine .nil (.pc b7 (rpC ⟨r.xid, τ.zx, 0, [], dataD τ r.path, statD τ r.path, nilV, nilV, nilV⟩) ?_)
   refine .blk_n (.then_n (.sr (.q (.la (rpC (⟨r.xid, τ.zx, 0, [], dataD τ r.path, statD τ r.path, nilV, nilV, nilV⟩ : Rp)) rfl ag_41) rfl (.sa rfl rfl sz_41 (by exact rp_cells rfl rfl rfl) ?_))))
   refine .nil ?_
   have hAl : readAl τ ids r = [] := readAl_no (fun g => by have := g.2; omega)
   have hKl : readKl τ ids r = [] := readKl_no (fun g => by have := g.2; omega)
   refine .add (slR_nil 75 2) (.as (q := slR 75 2 nilV (readAl τ ids r).length ((readAl τ ids r).flatMap acC)) (p := slR 75 2 nilV 0 []) (by repeat' constructor) (by rw [hAl]; rfl) (.add (slR_nil 9 1) (.as (q := slR 9 1 nilV (readKl τ ids r).length (strs (readKl τ ids r))) (p := slR 9 1 nilV 0 []) (by repeat' constructor) (by rw [hKl]; rfl) (.ptCast (b := b6) (l' := rpC (readR τ ids r nilV nilV)) (by repeat' constructor) (by rw [readR_get hx h61]; rfl) ?_))))
   refine .then_n (.ret ?_)
   exact .d1 rfl (.cellA rfl ag_41 (by repeat' constructor) (by simp) rfl) ⟨nilV, nilV, rfl, ⟨_, _, congrArg (fun l : List Ac => Value.slice _ l.length _) hAl.symm⟩, ⟨_, _, congrArg (fun l : List Bs => Value.slice _ l.length _) hKl.symm⟩, rfl⟩
  refine .sr (.ui rfl rfl rfl (.an rfl (.condD rfl (fun h72 => ?_) (fun h72 => ?_))))
  ·refine .region (.m rfl (.u (.fieldAddr rfl fo_33_2) (.u (.ld rfl ag_9) (.oq (.c Tryz.func107 [_, _] (trkids_spec t τ r.path N ho hN)) ?_))))
   rintro v L' ⟨uk, lk, rfl, -, hlk, ⟨ak, ck, rfl⟩, rfl⟩; rw [if_pos hth] at hlk; subst hlk
   refine .m rfl (.u (.extract rfl rfl) (.u (.extract rfl rfl) (.u (.fieldAddr rfl fo_41_7) (.oq (.store rfl rfl rfl sz_38 ?c134 (nfz0 _ _)) ?_))))
   case c134 => simp
   rintro v L' rfl
   refine .nil (.pc b7 (rpC ⟨r.xid, τ.zx, 0, [], [], statD τ r.path, nilV, (.slice ak (kidsZ τ r.path).length ck), nilV⟩) ?_)
   refine .blk_n (.then_n (.sr (.q (.la (rpC (⟨r.xid, τ.zx, 0, [], [], statD τ r.path, (nilV), (.slice ak (kidsZ τ r.path).length ck), nilV⟩ : Rp)) rfl ag_41) rfl (.sa rfl rfl sz_41 (by exact rp_cells rfl rfl rfl) ?_))))
   refine .nil ?_
   have hAl : readAl τ ids r = [] := readAl_no (fun g => by have := g.2; omega)
   have hKl : readKl τ ids r = kidsZ τ r.path := readKl_yes hx h72
   refine .add (slR_nil 75 2) (.as (q := slR 75 2 nilV (readAl τ ids r).length ((readAl τ ids r).flatMap acC)) (p := slR 75 2 nilV 0 []) (by repeat' constructor) (by rw [hAl]; rfl) (.as (q := slR 9 1 (.slice ak (kidsZ τ r.path).length ck) (readKl τ ids r).length (strs (readKl τ ids r))) (p := slR 9 1 (.slice ak (kidsZ τ r.path).length ck) (kidsZ τ r.path).length (strs (kidsZ τ r.path))) (by repeat' constructor) (by rw [hKl]) (.ptCast (b := b6) (l' := rpC (readR τ ids r nilV (.slice ak (kidsZ τ r.path).length ck))) (by repeat' constructor) (by rw [readR_other hx h61]; rfl) ?_)))
   refine .then_n (.ret ?_)
   exact .d1 rfl (.cellA rfl ag_41 (by repeat' constructor) (by simp) rfl) ⟨nilV, .slice ak (kidsZ τ r.path).length ck, rfl, ⟨_, _, congrArg (fun l : List Ac => Value.slice _ l.length _) hAl.symm⟩, ⟨_, _, congrArg (fun l : List Bs => Value.slice _ l.length _) hKl.symm⟩, rfl⟩
  refine .sr (.ui rfl rfl rfl (.an rfl (.condD rfl (fun h82 => ?_) (fun h82 => ?_))))
  ·refine .region (.m rfl (.u (.fieldAddr rfl fo_33_2) (.u (.ld rfl ag_9) (.oq (.c Tryz.func108 [_, _] (tracl_spec t τ r.path N ho)) ?_))))
   rintro v L' ⟨ua, rfl, ⟨aa, ca, rfl⟩, rfl⟩
   refine .m rfl (.u (.extract rfl rfl) (.u (.extract rfl rfl) (.u (.fieldAddr rfl fo_41_6) (.oq (.store rfl rfl rfl sz_30 ?c152 (nfz0 _ _)) ?_))))
   case c152 => simp
   rintro v L' rfl
   refine .nil (.pc b7 (rpC ⟨r.xid, τ.zx, 0, [], [], statD τ r.path, (.slice aa (aclD τ r.path).length ca), nilV, nilV⟩) ?_)
   refine .blk_n (.then_n (.sr (.q (.la (rpC (⟨r.xid, τ.zx, 0, [], [], statD τ r.path, (.slice aa (aclD τ r.path).length ca), (nilV), nilV⟩ : Rp)) rfl ag_41) rfl (.sa rfl rfl sz_41 (by exact rp_cells rfl rfl rfl) ?_))))
   refine .nil ?_
   have hAl : readAl τ ids r = aclD τ r.path := readAl_yes hx h82
   have hKl : readKl τ ids r = [] := readKl_no (fun g => by have := g.2; omega)
   refine .add (slR_nil 9 1) (.as (q := slR 9 1 nilV (readKl τ ids r).length (strs (readKl τ ids r))) (p := slR 9 1 nilV 0 []) (by repeat' constructor) (by rw [hKl]; rfl) (.as (q := slR 75 2 (.slice aa (aclD τ r.path).length ca) (readAl τ ids r).length ((readAl τ ids r).flatMap acC)) (p := slR 75 2 (.slice aa (aclD τ r.path).length ca) (aclD τ r.path).length ((aclD τ r.path).flatMap acC)) (by repeat' constructor) (by rw [hAl]) (.ptCast (b := b6) (l' := rpC (readR τ ids r (.slice aa (aclD τ r.path).length ca) nilV)) (by repeat' constructor) (by rw [readR_other hx h61]; rfl) ?_)))
   refine .then_n (.ret ?_)
   exact .d1 rfl (.cellA rfl ag_41 (by repeat' constructor) (by simp) rfl) ⟨.slice aa (aclD τ r.path).length ca, nilV, rfl, ⟨_, _, congrArg (fun l : List Ac => Value.slice _ l.length _) hAl.symm⟩, ⟨_, _, congrArg (fun l : List Bs => Value.slice _ l.length _) hKl.symm⟩, rfl⟩
  refine .skip (.blk_n (.then_n (.sr (.q (.la (rpC (⟨r.xid, τ.zx, 0, [], [], statD τ r.path, (nilV), (nilV), nilV⟩ : Rp)) rfl ag_41) rfl (.sa rfl rfl sz_41 (by exact rp_cells rfl rfl rfl) ?_)))))
  refine .nil ?_
  have hAl : readAl τ ids r = [] := readAl_no (fun g => h82 g.2)
  have hKl : readKl τ ids r = [] := readKl_no (fun g => h72 g.2)
  refine .add (slR_nil 75 2) (.as (q := slR 75 2 nilV (readAl τ ids r).length ((readAl τ ids r).flatMap acC)) (p := slR 75 2 nilV 0 []) (by repeat' constructor) (by rw [hAl]; rfl) (.add (slR_nil 9 1) (.as (q := slR 9 1 nilV (readKl τ ids r).length (strs (readKl τ ids r))) (p := slR 9 1 nilV 0 []) (by repeat' constructor) (by rw [hKl]; rfl) (.ptCast (b := b6) (l' := rpC (readR τ ids r nilV nilV)) (by repeat' constructor) (by rw [readR_other hx h61]; rfl) ?_))))
  refine .then_n (.ret ?_)
  exact .d1 rfl (.cellA rfl ag_41 (by repeat' constructor) (by simp) rfl) ⟨nilV, nilV, rfl, ⟨_, _, congrArg (fun l : List Ac => Value.slice _ l.length _) hAl.symm⟩, ⟨_, _, congrArg (fun l : List Bs => Value.slice _ l.length _) hKl.symm⟩, rfl⟩
 rintro v L' ⟨b7, rfl, rfl⟩
 refine D.hh rfl (.c Tryz.func29 [_] (trzxid_spec t τ)) ?_
 rintro v L' ⟨rfl, rfl⟩
 refine D.kv rfl (.to (v' := .agg (rpC ⟨r.xid, τ.zx, 0, [], [], st0, nilV, nilV, nilV⟩).toArray) (.buildN (pl := [(0, 1), (1, 1), (2, 1), (3, 1), (4, 1), (5, 9), (14, 1), (15, 1), (16, 1)]) (us := [(0, vint r.xid), (1, vint τ.zx)]) (cells := rpC ⟨r.xid, τ.zx, 0, [], [], st0, nilV, nilV, nilV⟩) Tryz.underlying41 (by kernel_rfl) ze_41 rfl rfl) rfl) (.ph (.g0 (.sa rfl rfl rfl sz_41 (by exact rp_cells rfl rfl rfl) ?_)))
 refine D.ph (.fin (.pc b7 (rpC ⟨r.xid, τ.zx, 0, [], [], st0, nilV, nilV, nilV⟩) ?_))
 refine .then_n (.sm rfl (.m rfl (.q (.la (rqC r) rfl ag_33) rfl (.q (.to (v' := .agg (wiC t (⟨0, ids⟩ : Who) iv r).toArray) (.buildN (pl := [(0, 1), (1, 1), (2, 1), (3, 10)]) (us := [(0, vptr t), (1, vint (⟨0, ids⟩ : Who).ses), (2, iv), (3, .agg (rqC r).toArray)]) (cells := wiC t (⟨0, ids⟩ : Who) iv r) Tryz.underlying134 (by kernel_rfl) ze_134 rfl (fill_wish t (⟨0, ids⟩ : Who) iv hA.shape r)) rfl) rfl (.oq (.allocA ze_134) ?_)))))
 rintro v L' ⟨b8, rfl, rfl⟩
 refine .sa rfl rfl sz_134 (by exact fun v hv => List.all_eq_true.1 hcl v hv) ?_
 refine .nil (.pc b8 (wiC t (⟨0, ids⟩ : Who) iv r) ?_)
 refine .then_n (.seq (.joinK (ι := Nat) (fun q E => (9, vptr q) :: E) (fun q => [ptc q [.bool (decide (readK r.kind))] 4]) (fun q => True) (pre := []) (ts := [0, 5, 6, 7, 8]) (.cons rfl (.cons rfl (.cons rfl (.cons rfl (.cons rfl (.nil)))))) (by repeat' constructor) ?_ ?_))
 ·refine .region (.u (.fieldAddr rfl fo_33_0) (.u (.ld rfl ag_3) (.ui rfl rfl rfl (.m rfl (.dec (t := 25) rfl (fun h5_25 => ?_) (fun h5_25 => ?_))))))
  ·refine .kDT (t := 24) rfl h5_25 (.gk (.gk (.gk (.u (.pickT rfl rfl) (.m rfl (.gk (.gk (.gk (.u (.pickT rfl rfl) (.m rfl (.gk (.gk (.gk (.q (.as (v' := .bool (decide (readK r.kind))) (by simp [readK, h5_25]) (.pickT rfl rfl)) rfl (.oq (.alloc ze_4) ?_)))))))))))))))
   rintro v L' ⟨b9, rfl, rfl⟩
   refine .st rfl rfl rfl sz_4 ?_
   refine .nt ?_
   exact .mk (b9) (trivial) ⟨rfl, rfl, rfl, rfl, rfl, rfl, trivial⟩
  refine .kDF (t := 24) rfl h5_25 (.grun (t := 25) rfl rfl rfl (.u (.fieldAddr rfl fo_33_0) (.grun (t := 25) rfl rfl rfl (.u (.ld rfl ag_3) (.grun (t := 25) rfl rfl rfl (.ui rfl rfl rfl (.u (.pickF rfl rfl) (.m rfl (.dec (t := 30) rfl (fun h5_30 => ?_) (fun h5_30 => ?_))))))))))
  ·refine .kDT (t := 28) rfl h5_30 (.kDT (t := 29) rfl h5_30 (.gk (.gk (.gk (.u (.pickT rfl rfl) (.m rfl (.gk (.gk (.gk (.q (.as (v' := .bool (decide (readK r.kind))) (by simp [readK, h5_25, h5_30]) (.pickT rfl rfl)) rfl (.oq (.alloc ze_4) ?_)))))))))))
   rintro v L' ⟨b9, rfl, rfl⟩
   refine .st rfl rfl rfl sz_4 ?_
   refine .nt ?_
   exact .mk (b9) (trivial) ⟨rfl, rfl, rfl, rfl, rfl, rfl, trivial⟩
  refine .kDF (t := 28) rfl h5_30 (.kDF (t := 29) rfl h5_30 (.grun (t := 30) rfl rfl rfl (.u (.fieldAddr rfl fo_33_0) (.grun (t := 30) rfl rfl rfl (.u (.ld rfl ag_3) (.grun (t := 30) rfl rfl rfl (.ui rfl rfl rfl (.u (.pickF rfl rfl) (.m rfl (.dec (t := 35) rfl (fun h5_35 => ?_) (fun h5_35 => ?_)))))))))))
  ·refine .kDT (t := 33) rfl h5_35 (.kDT (t := 34) rfl h5_35 (.gk (.gk (.gk (.q (.as (v' := .bool (decide (readK r.kind))) (by simp [readK, h5_25, h5_30, h5_35]) (.pickT rfl rfl)) rfl (.oq (.alloc ze_4) ?_))))))
   rintro v L' ⟨b9, rfl, rfl⟩
   refine .st rfl rfl rfl sz_4 ?_
   refine .nt ?_
   exact .mk (b9) (trivial) ⟨rfl, rfl, rfl, rfl, rfl, rfl, trivial⟩
  refine .kDF (t := 33) rfl h5_35 (.kDF (t := 34) rfl h5_35 (.grun (t := 35) rfl rfl rfl (.u (.fieldAddr rfl fo_33_0) (.grun (t := 35) rfl rfl rfl (.u (.ld rfl ag_3) (.grun (t := 35) rfl rfl rfl (.ui rfl rfl rfl (.q (.as (v' := .bool (decide (readK r.kind))) (by simp [readK, h5_25, h5_30, h5_35]) (.pickF rfl rfl)) rfl (.oq (.alloc ze_4) ?_)))))))))
  rintro v L' ⟨b9, rfl, rfl⟩
  refine .st rfl rfl rfl sz_4 ?_
  refine .nt ?_
  exact .mk (b9) (trivial) ⟨rfl, rfl, rfl, rfl, rfl, rfl, trivial⟩
 rintro b9 _
 refine .sr (.q (.func (us := []) (vs := [_]) rfl rfl) rfl (.q (.func (us := []) (vs := [_]) rfl rfl) rfl (.q (.func (us := []) (vs := [_, _]) rfl rfl) rfl (.q (.func (us := []) (vs := [_, _]) rfl rfl) rfl (.oq (.buildSlice1 (vs := [_, _, _, _]) el_230 ze_176 rfl rfl rfl rfl rfl (by decide)) ?_)))))
 rintro v L' ⟨bf, rfl, rfl⟩
 refine .slMake (b := bf) (n := 4) (c := 4) (xs := [.func (.func 101) #[] #[vptr b9], .func (.func 102) #[] #[vptr b5], .func (.func 103) #[] #[vptr b8, vptr b5], .func (.func 105) #[] #[vptr b5, vptr b8]]) (by repeat' constructor) (by decide) (by exact Nat.le_refl 4) rfl (.cv Tryz.func85 [_] (prfirst t τ ids iv r p hA N ho hN b5 b8 b9 _ _ (fun _ => slR_rd)) ?_)
 refine .u (.fieldAddr rfl fo_41_2) (.oq (.store rfl rfl rfl sz_27 ?c234 (nfz0 _ _)) ?_)
 case c234 => simp
 rintro v L' rfl
 refine .nil (.pc b7 (rpC ⟨r.xid, τ.zx, readX τ ids r, [], [], st0, nilV, nilV, nilV⟩) ?_)
 refine .then_n (.seq (.sr (.u (.fieldAddr rfl fo_41_2) (.u (.ld rfl ag_27) (.ui rfl rfl rfl (.nt (.condN rfl (fun h49 => ?_) (fun h49 => ?_))))))))
 ·refine .sr (.q (.la (rpC (⟨r.xid, τ.zx, readX τ ids r, [], [], st0, nilV, nilV, nilV⟩ : Rp)) rfl ag_41) rfl (.sa rfl rfl sz_41 (by exact rp_cells rfl rfl rfl) ?_))
  refine .nil ?_
  have hAl : readAl τ ids r = [] := readAl_no (fun g => h49 g.1)
  have hKl : readKl τ ids r = [] := readKl_no (fun g => h49 g.1)
  refine .add (slR_nil 75 2) (.as (q := slR 75 2 nilV (readAl τ ids r).length ((readAl τ ids r).flatMap acC)) (p := slR 75 2 nilV 0 []) (by repeat' constructor) (by rw [hAl]; rfl) (.add (slR_nil 9 1) (.as (q := slR 9 1 nilV (readKl τ ids r).length (strs (readKl τ ids r))) (p := slR 9 1 nilV 0 []) (by repeat' constructor) (by rw [hKl]; rfl) (.ptCast (b := b6) (l' := rpC (readR τ ids r nilV nilV)) (by repeat' constructor) (by rw [readR_bad h49]; rfl) ?_))))
  refine .then_n (.rt ?_)
  exact .d1 rfl (.cellA rfl ag_41 (by repeat' constructor) (by simp) rfl) ⟨nilV, nilV, rfl, ⟨_, _, congrArg (fun l : List Ac => Value.slice _ l.length _) hAl.symm⟩, ⟨_, _, congrArg (fun l : List Bs => Value.slice _ l.length _) hKl.symm⟩, rfl⟩
 have hx : readX τ ids r = 0 := by omega
 obtain ⟨hrk, hth⟩ := read_there hx
 rw [hx]
 refine .sk (.sm rfl (.u (.fieldAddr rfl fo_33_2) (.u (.ld rfl ag_9) (.cv Tryz.func76 [_, _] (trstat_spec t τ r.path N ho hN) ?_))))
 refine .m rfl (.u (.extract rfl rfl) (.u (.extract rfl rfl) (.u (.fieldAddr rfl fo_41_5) (.sa rfl rfl sz_37 (by intro v hv; simp only [stC, List.mem_cons, List.not_mem_nil, or_false] at hv; rcases hv with rfl | rfl | rfl | rfl | rfl | rfl | rfl | rfl | rfl <;> rfl) ?_))))
 refine .nil (.pc b7 (rpC ⟨r.xid, τ.zx, 0, [], [], statD τ r.path, nilV, nilV, nilV⟩) ?_)
 refine .then_n (.seq (.sr (.u (.fieldAddr rfl fo_33_0) (.u (.ld rfl ag_3) (.nt (.block (.sr (.ui rfl rfl rfl (.an rfl (.condD rfl (fun h61 => ?_) (fun h61 => ?_)))))))))))
 ·refine .region (.m rfl (.u (.fieldAddr rfl fo_33_2) (.u (.ld rfl ag_9) (.cv Tryz.func106 [_, _] (trget_spec t τ r.path N ho hN) ?_))))
  refine .m rfl (.u (.extract rfl rfl) (.u (.extract rfl rfl) (.u (.extract rfl rfl) (.u (.fieldAddr rfl fo_41_4) (.oq (.store rfl rfl rfl sz_9 ?c271 (nfz0 _ _)) ?_)))))
  case c271 => simp
  rintro v L' rfl
  refine .nil (.pc b7 (rpC ⟨r.xid, τ.zx, 0, [], dataD τ r.path, statD τ r.path, nilV, nilV, nilV⟩) ?_)
  refine .blk_n (.then_n (.sr (.q (.la (rpC (⟨r.xid, τ.zx, 0, [], dataD τ r.path, statD τ r.path, nilV, nilV, nilV⟩ : Rp)) rfl ag_41) rfl (.sa rfl rfl sz_41 (by exact rp_cells rfl rfl rfl) ?_))))
  refine .nil ?_
  have hAl : readAl τ ids r = [] := readAl_no (fun g => by have := g.2; omega)
  have hKl : readKl τ ids r = [] := readKl_no (fun g => by have := g.2; omega)
  refine .add (slR_nil 75 2) (.as (q := slR 75 2 nilV (readAl τ ids r).length ((readAl τ ids r).flatMap acC)) (p := slR 75 2 nilV 0 []) (by repeat' constructor) (by rw [hAl]; rfl) (.add (slR_nil 9 1) (.as (q := slR 9 1 nilV (readKl τ ids r).length (strs (readKl τ ids r))) (p := slR 9 1 nilV 0 []) (by repeat' constructor) (by rw [hKl]; rfl) (.ptCast (b := b6) (l' := rpC (readR τ ids r nilV nilV)) (by repeat' constructor) (by rw [readR_get hx h61]; rfl) ?_))))
  refine .then_n (.ret ?_)
  exact .d1 rfl (.cellA rfl ag_41 (by repeat' constructor) (by simp) rfl) ⟨nilV, nilV, rfl, ⟨_, _, congrArg (fun l : List Ac => Value.slice _ l.length _) hAl.symm⟩, ⟨_, _, congrArg (fun l : List Bs => Value.slice _ l.length _) hKl.symm⟩, rfl⟩
 refine .sr (.ui rfl rfl rfl (.an rfl (.condD rfl (fun h72 => ?_) (fun h72 => ?_))))
 ·refine .region (.m rfl (.u (.fieldAddr rfl fo_33_2) (.u (.ld rfl ag_9) (.oq (.c Tryz.func107 [_, _] (trkids_spec t τ r.path N ho hN)) ?_))))
  rintro v L' ⟨uk, lk, rfl, -, hlk, ⟨ak, ck, rfl⟩, rfl⟩; rw [if_pos hth] at hlk; subst hlk
  refine .m rfl (.u (.extract rfl rfl) (.u (.extract rfl rfl) (.u (.fieldAddr rfl fo_41_7) (.oq (.store rfl rfl rfl sz_38 ?c289 (nfz0 _ _)) ?_))))
  case c289 => simp
  rintro v L' rfl
  refine .nil (.pc b7 (rpC ⟨r.xid, τ.zx, 0, [], [], statD τ r.path, nilV, (.slice ak (kidsZ τ r.path).length ck), nilV⟩) ?_)
  refine .blk_n (.then_n (.sr (.q (.la (rpC (⟨r.xid, τ.zx, 0, [], [], statD τ r.path, (nilV), (.slice ak (kidsZ τ r.path).length ck), nilV⟩ : Rp)) rfl ag_41) rfl (.sa rfl rfl sz_41 (by exact rp_cells rfl rfl rfl) ?_))))
  refine .nil ?_
  have hAl : readAl τ ids r = [] := readAl_no (fun g => by have := g.2; omega)
  have hKl : readKl τ ids r = kidsZ τ r.path := readKl_yes hx h72
  refine .add (slR_nil 75 2) (.as (q := slR 75 2 nilV (readAl τ ids r).length ((readAl τ ids r).flatMap acC)) (p := slR 75 2 nilV 0 []) (by repeat' constructor) (by rw [hAl]; rfl) (.as (q := slR 9 1 (.slice ak (kidsZ τ r.path).length ck) (readKl τ ids r).length (strs (readKl τ ids r))) (p := slR 9 1 (.slice ak (kidsZ τ r.path).length ck) (kidsZ τ r.path).length (strs (kidsZ τ r.path))) (by repeat' constructor) (by rw [hKl]) (.ptCast (b := b6) (l' := rpC (readR τ ids r nilV (.slice ak (kidsZ τ r.path).length ck))) (by repeat' constructor) (by rw [readR_other hx h61]; rfl) ?_)))
  refine .then_n (.ret ?_)
  exact .d1 rfl (.cellA rfl ag_41 (by repeat' constructor) (by simp) rfl) ⟨nilV, .slice ak (kidsZ τ r.path).length ck, rfl, ⟨_, _, congrArg (fun l : List Ac => Value.slice _ l.length _) hAl.symm⟩, ⟨_, _, congrArg (fun l : List Bs => Value.slice _ l.length _) hKl.symm⟩, rfl⟩
 refine .sr (.ui rfl rfl rfl (.an rfl (.condD rfl (fun h82 => ?_) (fun h82 => ?_))))
 ·refine .region (.m rfl (.u (.fieldAddr rfl fo_33_2) (.u (.ld rfl ag_9) (.oq (.c Tryz.func108 [_, _] (tracl_spec t τ r.path N ho)) ?_))))
  rintro v L' ⟨ua, rfl, ⟨aa, ca, rfl⟩, rfl⟩
  refine .m rfl (.u (.extract rfl rfl) (.u (.extract rfl rfl) (.u (.fieldAddr rfl fo_41_6) (.oq (.store rfl rfl rfl sz_30 ?c307 (nfz0 _ _)) ?_))))
  case c307 => simp
  rintro v L' rfl
  refine .nil (.pc b7 (rpC ⟨r.xid, τ.zx, 0, [], [], statD τ r.path, (.slice aa (aclD τ r.path).length ca), nilV, nilV⟩) ?_)
  refine .blk_n (.then_n (.sr (.q (.la (rpC (⟨r.xid, τ.zx, 0, [], [], statD τ r.path, (.slice aa (aclD τ r.path).length ca), (nilV), nilV⟩ : Rp)) rfl ag_41) rfl (.sa rfl rfl sz_41 (by exact rp_cells rfl rfl rfl) ?_))))
  refine .nil ?_
  have hAl : readAl τ ids r = aclD τ r.path := readAl_yes hx h82
  have hKl : readKl τ ids r = [] := readKl_no (fun g => by have := g.2; omega)
  refine .add (slR_nil 9 1) (.as (q := slR 9 1 nilV (readKl τ ids r).length (strs (readKl τ ids r))) (p := slR 9 1 nilV 0 []) (by repeat' constructor) (by rw [hKl]; rfl) (.as (q := slR 75 2 (.slice aa (aclD τ r.path).length ca) (readAl τ ids r).length ((readAl τ ids r).flatMap acC)) (p := slR 75 2 (.slice aa (aclD τ r.path).length ca) (aclD τ r.path).length ((aclD τ r.path).flatMap acC)) (by repeat' constructor) (by rw [hAl]) (.ptCast (b := b6) (l' := rpC (readR τ ids r (.slice aa (aclD τ r.path).length ca) nilV)) (by repeat' constructor) (by rw [readR_other hx h61]; rfl) ?_)))
  refine .then_n (.ret ?_)
  exact .d1 rfl (.cellA rfl ag_41 (by repeat' constructor) (by simp) rfl) ⟨.slice aa (aclD τ r.path).length ca, nilV, rfl, ⟨_, _, congrArg (fun l : List Ac => Value.slice _ l.length _) hAl.symm⟩, ⟨_, _, congrArg (fun l : List Bs => Value.slice _ l.length _) hKl.symm⟩, rfl⟩
 refine .skip (.blk_n (.then_n (.sr (.q (.la (rpC (⟨r.xid, τ.zx, 0, [], [], statD τ r.path, (nilV), (nilV), nilV⟩ : Rp)) rfl ag_41) rfl (.sa rfl rfl sz_41 (by exact rp_cells rfl rfl rfl) ?_)))))
 refine .nil ?_
 have hAl : readAl τ ids r = [] := readAl_no (fun g => h82 g.2)
 have hKl : readKl τ ids r = [] := readKl_no (fun g => h72 g.2)
 refine .add (slR_nil 75 2) (.as (q := slR 75 2 nilV (readAl τ ids r).length ((readAl τ ids r).flatMap acC)) (p := slR 75 2 nilV 0 []) (by repeat' constructor) (by rw [hAl]; rfl) (.add (slR_nil 9 1) (.as (q := slR 9 1 nilV (readKl τ ids r).length (strs (readKl τ ids r))) (p := slR 9 1 nilV 0 []) (by repeat' constructor) (by rw [hKl]; rfl) (.ptCast (b := b6) (l' := rpC (readR τ ids r nilV nilV)) (by repeat' constructor) (by rw [readR_other hx h61]; rfl) ?_))))
 refine .then_n (.ret ?_)
 exact .d1 rfl (.cellA rfl ag_41 (by repeat' constructor) (by simp) rfl) ⟨nilV, nilV, rfl, ⟨_, _, congrArg (fun l : List Ac => Value.slice _ l.length _) hAl.symm⟩, ⟨_, _, congrArg (fun l : List Bs => Value.slice _ l.length _) hKl.symm⟩, rfl⟩
theorem PlB.pre {π : Pl} {n : Nat} (h : PlB π n) (hn : n ≤ 4097) : π.τ.Ok 65536 ∧ π.ord.length ≤ 1048576 ∧ π.ω.length ≤ 4096 ∧ ∀ i, (π.ev i).length ≤ 1099511627776 := by
 have h1 := h.ord
 have h2 := h.few
 refine ⟨h.ok.more (by omega), by omega, by omega, fun i => ?_⟩
 have h3 := h.ev i
 have h4 : n * 67108864 ≤ 4097 * 67108864 := Nat.mul_le_mul_right _ hn
 omega
theorem rpC_cells {x : Rp} (h1 : isCell x.aclV = true) (h2 : isCell x.kidsV = true) (h3 : isCell x.subsV = true) : ∀ v ∈ rpC x, isCell v = true := by
 intro v hv
 simp only [rpC, stC, List.cons_append, List.nil_append, List.mem_cons, List.not_mem_nil, or_false] at hv
 rcases hv with rfl | rfl | rfl | rfl | rfl | rfl | rfl | rfl | rfl | rfl | rfl | rfl | rfl | rfl | rfl | rfl | rfl <;> first | rfl | assumption
theorem CallA.rqc {q : HP} {s : Int} {r : Rq} {subs : List Rq} {l : List Arm} (h : CallA q s r subs l) : ∀ v ∈ rqC r, isCell v = true := h.d.w.rqcells
theorem plopen_spec (b : Nat) (k : PlK) (π : Pl) (t : Int) (n : Nat) (hB : PlB π n) (hn : n ≤ 4096) : Fn Tryz.prog 9 #[vptr b, vint t] [plR b k π] fun v L => v = .tuple #[vint (opnP π t).2.1, vint (opnP π t).2.2] ∧ L = [plR b k (opnP π t).1] := by
 refine Fn.intro Tryz.func9 rfl rfl fun F W => ?_
 refine .plOpen (π := π) (by repeat' constructor) fun ov mi me hI => ?_
 have hop := hB.op
 have hiz : (idsZ π.τ).length = π.τ.sess.length := List.length_map _
 have hP := hB.pre (by omega)
 refine .sr (.a rfl (.an rfl (.seq (.sm rfl (.nf rfl fo_85_0 (.u (.fieldAddr rfl fo_81_0) (.u (.ld rfl ag_76) (.oq (.call Tryz.func22 rfl rfl (vs := [_]) rfl (trsessions_spec k.t π.τ _ hP.1 (fun x hx => by have := hB.ses x hx; omega) (by omega))) ?_))))))))
 rintro v L' ⟨⟨as1, cs1, rfl⟩, rfl⟩; rw [hiz]
 refine .q (.slen rfl Tryz.underlying86 rfl) rfl (.ui rfl rfl rfl (.nt (.condD rfl (fun h13 => ?_) (fun h13 => ?_))))
 ·have hp : opnP π t = (π, (0, 91)) := if_pos (by omega)
  rw [hp]
  refine .plFold (π) hI (by repeat' constructor) (by rfl) (by rfl) (by rfl) (by rfl) (by rfl) (by rfl) (.sr (.a rfl (.an rfl (.rt ?_))))
  exact .vv
 have hp : opnP π t = ((putP (moreP π) (π.opened + 1) 0 (opnPt (π.opened + 1) t) []), (π.opened + 1, 0)) := if_neg (by omega)
 rw [hp]
 refine .sk (.sm rfl (.nf rfl fo_85_2 (.u (.ld rfl ag_3) (.q (.add rfl rfl (by omega)) rfl (.nf rfl fo_85_2 (.oq (.store rfl rfl rfl sz_3 ?c21 (nfz0 _ _)) ?_))))))
 case c21 => simp [plC]
 rintro v L' rfl
 refine .nil (.pc b (plC k ov (moreP π).opened) ?_)
 refine .add (p := aclR (opnPt (π.opened + 1) t)) (slR_nil _ _) (.add (p := slR 60 8 (opnPt (π.opened + 1) t).subsV ([] : List Pt).length (([] : List Pt).flatMap ptC)) (slR_nil _ _) (.add (p := bigR aclR []) (fun h => big_nil h) ?_))
 have hI0 : PlI (moreP π) mi me := ⟨hI.i1, hI.e1, hI.i2, hI.e2⟩
 have hs1 : I64 (π.opened + 1) := ⟨by omega, by omega⟩
 refine .then_n (.seq (.draw [13] [[0, 1, 2, 3, 4, 5, 6, 7, 8, 9, 10, 11, 12, 13]] mixed (by kernel_rfl) (.g0 (.mv rfl rfl (.mv rfl rfl (.nf rfl rfl rfl fo_85_2 (.kv rfl (.ld rfl ag_3) (.mv rfl rfl (.nf rfl rfl rfl fo_85_2 (.kv rfl (.ld rfl ag_3) (.mv rfl rfl (.kv rfl (.max2 rfl rfl) (.kv rfl (.min2 rfl rfl) (.kv rfl (.to (v' := .agg (ptC (opnPt (π.opened + 1) t)).toArray) (.build (us := [(0, _), (4, _), (5, _)]) fl_60 ze_60 rfl rfl (by simp [isCell])) rfl) (.hh rfl (.call Tryz.func23 rfl rfl (vs := [_, _, _, _]) rfl (plput_spec b k (moreP π) ov mi me hI0 (π.opened + 1) 0 (opnPt (π.opened + 1) t) [] (N0 := 0) (opnPt_T hs1 0) (by decide) ⟨rfl, none, 0, rfl⟩ (fun _ h => by cases h) hs1 I64.zero 65536 hP.1 (by decide) hP.2.1 hP.2.2.1 hP.2.2.2)) ?_)))))))))))))))
 rintro v L' ⟨z, rfl, hz, hzm, rfl⟩
 refine D.pf (.sm rfl (.nf rfl fo_85_2 (.u (.ld rfl ag_3) (.a rfl (.a rfl (.nil (.idPost hzm (by repeat' constructor) (.bigAdd (f := entR) (l := (moreP π).ord) (entP (moreP π) (π.opened + 1) 0 (opnPt (π.opened + 1) t) []) (p := entR (entP (moreP π) (π.opened + 1) 0 (opnPt (π.opened + 1) t) [])) rfl (by repeat' constructor) (.plFold (k := k) (putP (moreP π) (π.opened + 1) 0 (opnPt (π.opened + 1) t) []) hz (by repeat' constructor) (by rfl) (by rfl) (by rfl) (by rfl) (by rfl) (by rfl) (.then_n (.ret ?_)))))))))))
 exact .vv
theorem pllaid_spec (r : Rq) (hr : ∀ v ∈ rqC r, isCell v = true) (e : Int) : Fn Tryz.prog 56 #[.agg (rqC r).toArray, vint e] [] fun v L => v = vint (laidZ r e) ∧ L = [] := by
 refine Fn.intro Tryz.func56 rfl rfl fun F W => ?_
 refine .sr (.oq (.box rfl) ?_)
 rintro v L' ⟨b2, rfl, rfl⟩
 refine .a rfl (.nil (.pc b2 (rqC r) ?_))
 refine .then_n (.seq (.block (.sr (.u (.fieldAddr rfl fo_33_7) (.u (.ld rfl ag_4) (.u (.not rfl) (.an rfl (.condB rfl (fun h5 => ?_) (fun h5 => ?_)))))))))
 ·refine .skip (.blk_n (.then_n (.sr (.an rfl (.ret ?_)))))
  have hq : True := trivial
  exact .dn rfl rfl ⟨by unfold laidZ; simp_all, rfl⟩
 refine .sr (.u (.fieldAddr rfl fo_33_0) (.u (.ld rfl ag_3) (.ui rfl rfl rfl (.m rfl (.dec (t := 13) rfl (fun h2_13 => ?_) (fun h2_13 => ?_))))))
 ·refine .kDT (t := 12) rfl h2_13 (.grun (t := 13) rfl rfl rfl (.m rfl (.grun (t := 13) rfl rfl rfl (.ui rfl rfl rfl (.u (.pickT rfl rfl) (.an rfl (.condD rfl (fun h9 => ?_) (fun h9 => ?_))))))))
  ·refine .sr (.an rfl (.ret (.blk_r (.then_r ?_))))
   have hq : True := trivial
   exact .dn rfl rfl ⟨by unfold laidZ; simp_all, rfl⟩
  refine .sm rfl (.ui rfl rfl rfl (.an rfl (.condN rfl (fun h17 => ?_) (fun h17 => ?_))))
  ·refine .skip (.blk_n (.then_n (.sr (.an rfl (.ret ?_)))))
   have hq : True := trivial
   exact .dn rfl rfl ⟨by unfold laidZ; simp_all, rfl⟩
  refine .sr (.u (.fieldAddr rfl fo_33_0) (.u (.ld rfl ag_3) (.ui rfl rfl rfl (.m rfl (.dec (t := 24) rfl (fun h5_24 => ?_) (fun h5_24 => ?_))))))
  ·refine .kDT (t := 23) rfl h5_24 (.gk (.gk (.gk (.u (.pickT rfl rfl) (.an rfl (.condT rfl (.sr (.an rfl (.ret (.blk_r (.then_r ?_)))))))))))
   have hq : True := trivial
   exact .dn rfl rfl ⟨by unfold laidZ; simp_all, rfl⟩
  refine .kDF (t := 23) rfl h5_24 (.grun (t := 24) rfl rfl rfl (.u (.fieldAddr rfl fo_33_0) (.grun (t := 24) rfl rfl rfl (.u (.ld rfl ag_3) (.grun (t := 24) rfl rfl rfl (.ui rfl rfl rfl (.u (.pickF rfl rfl) (.an rfl (.condD rfl (fun h20 => ?_) (fun h20 => ?_))))))))))
  ·refine .sr (.an rfl (.ret (.blk_r (.then_r ?_))))
   have hq : True := trivial
   exact .dn rfl rfl ⟨by unfold laidZ; simp_all, rfl⟩
  refine .sr (.u (.fieldAddr rfl fo_33_0) (.u (.ld rfl ag_3) (.ui rfl rfl rfl (.an rfl (.condD rfl (fun h29 => ?_) (fun h29 => ?_))))))
  ·refine .sr (.an rfl (.ret (.blk_r (.then_r ?_))))
   have hq : True := trivial
   exact .dn rfl rfl ⟨by unfold laidZ; simp_all, rfl⟩
  refine .skip (.blk_n (.then_n (.sr (.an rfl (.ret ?_)))))
  have hq : True := trivial
  exact .dn rfl rfl ⟨by unfold laidZ; simp_all, rfl⟩
 refine .kDF (t := 12) rfl h2_13 (.gk (.gk (.u (.pickF rfl rfl) (.an rfl (.condF rfl (.sm rfl (.ui rfl rfl rfl (.an rfl (.condN rfl (fun h17 => ?_) (fun h17 => ?_))))))))))
 ·refine .skip (.blk_n (.then_n (.sr (.an rfl (.ret ?_)))))
  have hq : True := trivial
  exact .dn rfl rfl ⟨by unfold laidZ; simp_all, rfl⟩
 refine .sr (.u (.fieldAddr rfl fo_33_0) (.u (.ld rfl ag_3) (.ui rfl rfl rfl (.m rfl (.dec (t := 24) rfl (fun h5_24 => ?_) (fun h5_24 => ?_))))))
 ·refine .kDT (t := 23) rfl h5_24 (.gk (.gk (.gk (.u (.pickT rfl rfl) (.an rfl (.condT rfl (.sr (.an rfl (.ret (.blk_r (.then_r ?_)))))))))))
  have hq : True := trivial
  exact .dn rfl rfl ⟨by unfold laidZ; simp_all, rfl⟩
 refine .kDF (t := 23) rfl h5_24 (.grun (t := 24) rfl rfl rfl (.u (.fieldAddr rfl fo_33_0) (.grun (t := 24) rfl rfl rfl (.u (.ld rfl ag_3) (.grun (t := 24) rfl rfl rfl (.ui rfl rfl rfl (.u (.pickF rfl rfl) (.an rfl (.condD rfl (fun h20 => ?_) (fun h20 => ?_))))))))))
 ·refine .sr (.an rfl (.ret (.blk_r (.then_r ?_))))
  have hq : True := trivial
  exact .dn rfl rfl ⟨by unfold laidZ; simp_all, rfl⟩
 refine .sr (.u (.fieldAddr rfl fo_33_0) (.u (.ld rfl ag_3) (.ui rfl rfl rfl (.an rfl (.condD rfl (fun h29 => ?_) (fun h29 => ?_))))))
 ·refine .sr (.an rfl (.ret (.blk_r (.then_r ?_))))
  have hq : True := trivial
  exact .dn rfl rfl ⟨by unfold laidZ; simp_all, rfl⟩
 refine .skip (.blk_n (.then_n (.sr (.an rfl (.ret ?_)))))
 have hq : True := trivial
 exact .dn rfl rfl ⟨by unfold laidZ; simp_all, rfl⟩
section
variable {W : World} {n : Nat} {ds : List Deferred} {E : Env} {L R : List HP} {X : Act → World → Prop}
theorem G.idTakeP {m : Sm Bs} (s : Int) {ids : List Bs} (hids : ids = (smAt m s).2) (hL : Pick (bigR idR m) L R)
  (h : ∀ a c, (smAt m s).1 = .slice a ids.length c → G W n ds E (slR 9 1 (.slice a ids.length c) ids.length (strs ids) :: bigR idR (adel m s) :: R) X) : G W n ds E L X := by
 subst hids; exact G.idTakeS s hL h
theorem G.idBackP {m : Sm Bs} (s : Int) {ids : List Bs} {v : Value} (hids : ids = (smAt m s).2) (hv : (smAt m s).1 = v) (hL : Picks [slR 9 1 v ids.length (strs ids), bigR idR (adel m s)] L R)
  (h : G W n ds E (bigR idR m :: R) X) : G W n ds E L X := by
 subst hids; subst hv; exact G.idBack s hL h
end
theorem laid_watch {r : Rq} {e : Int} (h : laidZ r e ≠ 0) : r.watch = true := by
 unfold laidZ at h
 split at h
 ·exact absurd rfl h
 ·rename_i g; simpa using g
theorem PlI.ids {π : Pl} {mi : Sm Bs} {me : Sm Ev} (h : PlI π mi me) (s : Int) (v : Value) (l : List Bs) : PlI ⟨π.τ, π.ω, π.ord, π.opened, setF π.ids s l, π.ev⟩ (aset mi s (v, l)) me :=
 ⟨nodup_aset h.i1 _ _, h.e1, fun i => smAt_setF h.i2 s (v, l) i, h.e2⟩
theorem PlI.evs {π : Pl} {mi : Sm Bs} {me : Sm Ev} (h : PlI π mi me) (s : Int) (v : Value) (ω : List Wt) (l : List Ev) : PlI ⟨π.τ, ω, π.ord, π.opened, π.ids, setF π.ev s l⟩ mi (aset me s (v, l)) :=
 ⟨h.i1, nodup_aset h.e1 _ _, h.i2, fun i => smAt_setF h.e2 s (v, l) i⟩
theorem PlI.evd {π : Pl} {mi : Sm Bs} {me : Sm Ev} (h : PlI π mi me) (s : Int) : PlI (evsP π s) mi (adel me s) :=
 ⟨h.i1, nodup_adel h.e1 _, h.i2, fun i => smAt_delF h.e1 h.e2 s i⟩
theorem errR_cells (e : Int) : ∀ v ∈ rpC (errR e), isCell v = true := rpC_cells rfl rfl rfl
theorem plread_spec (b : Nat) (k : PlK) (π : Pl) (s : Int) (r : Rq) (subs : List Rq) (l : List Arm) (q : HP) (hA : CallA q s r subs l) (hs : 1 ≤ s ∧ s ≤ 5) (n : Nat) (hB : PlB π n) (hn : n ≤ 4096) : Fn Tryz.prog 28 #[vptr b, vint s, .agg (rqC r).toArray] [plR b k π, q] fun v L => ∃ x kids, ReadZ π s r l x kids ∧ v = .agg (rpC x).toArray ∧ L = [plR b k (readP π s r l).1, q, slR 9 1 x.kidsV kids.length (strs kids)] := by
 refine Fn.intro Tryz.func28 rfl rfl fun F W => ?_
 have hP := hB.pre (by omega)
 have hrc := hA.rqc
 have hid16 := hB.ids s
 have hrq := hA.d.w.rq
 have hpl := hrq.path
 have hdl := hrq.data
 refine .plOpen (π := π) (by repeat' constructor) fun ov mi me hI => ?_
 have hi2 := hI.i2 s
 have hevl := hP.2.2.2 s
 refine .sr (.oq (.box rfl) ?_)
 rintro v L' ⟨b5, rfl, rfl⟩
 refine .oq (.allocA ze_41) ?_
 rintro v L' ⟨b6, rfl, rfl⟩
 refine .nil (.pc b5 (rqC r) ?_)
 refine .then_n (.sr (.oq (.allocA ze_41) ?_))
 rintro v L' ⟨b7, rfl, rfl⟩
 refine .nil (.pc b7 (rpC (errR 0)) ?_)
 refine .then_n (.seq (.sr (.u (.fieldAddr rfl fo_33_0) (.u (.ld rfl ag_3) (.nt (.block (.sr (.ui rfl rfl rfl (.an rfl (.condD rfl (fun h48 => ?_) (fun h48 => ?_)))))))))))
 ·refine .sr (.u (.fieldAddr rfl fo_33_2) (.u (.ld rfl ag_9) (.u (.fieldAddr rfl fo_33_3) (.u (.ld rfl ag_9) (.cv Tryz.func52 [_, _] (digest_spec q hA.tz r.path r.data (by omega) (by omega)) ?_)))))
  refine .m rfl (.u (.extract rfl rfl) (.u (.extract rfl rfl) (.a rfl (.an rfl (.sm rfl (.u (.fieldAddr rfl fo_41_2) (.oq (.store rfl rfl rfl sz_27 ?c19 (nfz0 _ _)) ?_)))))))
  case c19 => simp
  rintro v L' rfl
  refine .nil (.pc b7 (rpC (errR (digestZ r.path r.data).2)) ?_)
  refine .then_n (.seq (.idTakeP s hi2 (by repeat' constructor) fun ai ci hsi => (.region (.m rfl (.nf rfl fo_85_3 (.u (.ld rfl ag_82) (.m rfl (.q (.to (v' := .slice ai (π.ids s).length ci) (.lookupV (m := mi) (enc := smE) (KeyLaw.int Tryz.underlying3) (v := (smAt mi s).1) (fun b hb => smAt_some b hb) (fun hb => smAt_none hb) rfl rfl Tryz.underlying82 ze_38 (by repeat' constructor) rfl) hsi) rfl (.an rfl (.block (.sm rfl (.ui rfl rfl rfl (.m rfl (.ndec (t := 78) rfl (fun h14_78 => ?_) (fun h14_78 => ?_)))))))))))))))
  ·refine .kNT (t := 77) rfl h14_78 (.gk (.gk (.gk (.u (.pickT rfl rfl) (.an rfl (.condT rfl (.skip (.blk_n (.blk_n (.then_n (.seq ?_)))))))))))
   have hcd : (digestZ r.path r.data).2 ≠ 0 ∨ (digestZ r.path r.data).1 ∈ (π.ids s) := by first | exact .inl (by assumption) | exact .inr (by assumption)
   have hp : readP π s r l = (π, (digestZ r.path r.data).2) := by unfold readP; rw [if_pos h48]; unfold authP; rcases hcd with g | g; exact if_pos g; by_cases g2 : (digestZ r.path r.data).2 = 0; rw [if_neg (fun z => z g2), if_pos g, g2]; rw [if_pos g2]
   refine .idBackP s (hI.i2 s) hsi (by repeat' constructor) (.plFold (k := k) π hI (by repeat' constructor) (by rfl) (by rfl) (by rfl) (by rfl) (by rfl) (by rfl) (.add (p := slR 9 1 nilV ([] : List Bs).length (strs [])) (slR_nil _ _) (.region (.q (.la (rpC (errR (digestZ r.path r.data).2)) rfl ag_41) rfl (.sa rfl rfl sz_41 (by exact errR_cells _) ?_)))))
   refine .nil (.pc b6 (rpC (errR (digestZ r.path r.data).2)) ?_)
   refine .then_n (.ret ?_)
   exact .d1 rfl (.cellA rfl ag_41 (by repeat' constructor) (by simp) rfl) ⟨errR (digestZ r.path r.data).2, [], ⟨by rw [hp]; rfl, errR_cells _, ⟨none, 0, rfl⟩, (fun _ hk => absurd hk (by unfold readK; omega))⟩, rfl, by rw [hp]⟩
  refine .kNF (t := 77) rfl h14_78 (.grun (t := 78) rfl rfl rfl (.m rfl (.grun (t := 78) rfl rfl rfl (.m rfl (.grun (t := 78) rfl rfl rfl (.oq (.call Tryz.func53 rfl rfl (vs := [_, _]) rfl (ascont_spec _ (π.ids s) (slR 9 1 (.slice ai (π.ids s).length ci) (π.ids s).length (strs (π.ids s))) (fun h hp => slR_rd hp) (by omega) (digestZ r.path r.data).1)) ?_))))))
  rintro v L' ⟨rfl, rfl⟩
  refine .u (.pickF rfl rfl) (.an rfl (.condD rfl (fun h75 => ?_) (fun h75 => ?_)))
  ·refine .skip (.blk_n (.blk_n (.then_n (.seq ?_))))
   have hcd : (digestZ r.path r.data).2 ≠ 0 ∨ (digestZ r.path r.data).1 ∈ (π.ids s) := by first | exact .inl (by assumption) | exact .inr (by assumption)
   have hp : readP π s r l = (π, (digestZ r.path r.data).2) := by unfold readP; rw [if_pos h48]; unfold authP; rcases hcd with g | g; exact if_pos g; by_cases g2 : (digestZ r.path r.data).2 = 0; rw [if_neg (fun z => z g2), if_pos g, g2]; rw [if_pos g2]
   refine .idBackP s (hI.i2 s) hsi (by repeat' constructor) (.plFold (k := k) π hI (by repeat' constructor) (by rfl) (by rfl) (by rfl) (by rfl) (by rfl) (by rfl) (.add (p := slR 9 1 nilV ([] : List Bs).length (strs [])) (slR_nil _ _) (.region (.q (.la (rpC (errR (digestZ r.path r.data).2)) rfl ag_41) rfl (.sa rfl rfl sz_41 (by exact errR_cells _) ?_)))))
   refine .nil (.pc b6 (rpC (errR (digestZ r.path r.data).2)) ?_)
   refine .then_n (.ret ?_)
   exact .d1 rfl (.cellA rfl ag_41 (by repeat' constructor) (by simp) rfl) ⟨errR (digestZ r.path r.data).2, [], ⟨by rw [hp]; rfl, errR_cells _, ⟨none, 0, rfl⟩, (fun _ hk => absurd hk (by unfold readK; omega))⟩, rfl, by rw [hp]⟩
  have hc0 : (digestZ r.path r.data).2 = 0 := by first | assumption | omega
  have hno : (digestZ r.path r.data).1 ∉ (π.ids s) := by assumption
  refine .sm rfl (.q (.slen rfl Tryz.underlying38 rfl) rfl (.ui rfl rfl rfl (.an rfl (.condD rfl (fun h83 => ?_) (fun h83 => ?_)))))
  ·refine .region (.u (.fieldAddr rfl fo_41_2) (.oq (.store rfl rfl rfl sz_27 ?c47 (nfz0 _ _)) ?_))
   case c47 => simp
   rintro v L' rfl
   refine .nil (.pc b7 (rpC (errR 1)) ?_)
   refine .blk_n (.blk_n (.then_n (.seq ?_)))
   have hp : readP π s r l = (π, 1) := by unfold readP; rw [if_pos h48]; unfold authP; rw [if_neg (fun z => z hc0), if_neg hno]; exact if_pos (by omega)
   refine .idBackP s (hI.i2 s) hsi (by repeat' constructor) (.plFold (k := k) π hI (by repeat' constructor) (by rfl) (by rfl) (by rfl) (by rfl) (by rfl) (by rfl) (.add (p := slR 9 1 nilV ([] : List Bs).length (strs [])) (slR_nil _ _) (.region (.q (.la (rpC (errR 1)) rfl ag_41) rfl (.sa rfl rfl sz_41 (by exact errR_cells _) ?_)))))
   refine .nil (.pc b6 (rpC (errR 1)) ?_)
   refine .then_n (.ret ?_)
   exact .d1 rfl (.cellA rfl ag_41 (by repeat' constructor) (by simp) rfl) ⟨errR 1, [], ⟨by rw [hp]; rfl, errR_cells _, ⟨none, 0, rfl⟩, (fun _ hk => absurd hk (by unfold readK; omega))⟩, rfl, by rw [hp]⟩
  refine .draw [7, 8, 9] [[0, 1, 2, 3, 4, 5, 6, 7, 8], [9]] mixed (by kernel_rfl) (.go [ptc b _ _] (by repeat' constructor) (.k rfl (.move rfl) (.k rfl (.nilp rfl) (.k rfl (.fieldAddr rfl fo_85_3) (.k rfl (.ld rfl ag_82) (.k rfl (.move rfl) (.k rfl (.move rfl) (.mv rfl rfl (.hh rfl (.buildSlice1 (vs := [_]) el_38 ze_9 rfl rfl rfl rfl rfl (by decide)) ?_)))))))))
  rintro v L' ⟨bw, rfl, rfl⟩
  refine D.hh rfl (.append1 rfl rfl rfl el_38 ze_9 rfl rfl ?c63 ?c64 (Nat.le_refl _) ?c65 (by decide)) ?_
  case c63 => simp [Value.cells, isCell]
  case c64 => rfl
  case c65 => omega
  rintro v L' ⟨⟨a13, c13, rfl⟩, rfl⟩
  refine D.ph (.g0 (.hh rfl (.mapSet (m := mi) (enc := smE) (v := (.slice a13 ((π.ids s).length + 1) c13, (π.ids s) ++ [(digestZ r.path r.data).1])) (k := s) (KeyLaw.int Tryz.underlying3) rfl rfl rfl Tryz.underlying82 ?he68) ?_))
  case he68 => rfl
  rintro v L' rfl
  refine D.ph (.fin (.idPut (m := mi) s (v := .slice a13 ((π.ids s).length + 1) c13) ((π.ids s) ++ [(digestZ r.path r.data).1]) (by repeat' constructor) (by rw [List.length_append]; rfl) (by simp [strs, Value.cells]) ?_))
  have hc02 : (digestZ r.path r.data).2 = 0 := hc0
  refine .ptCast (b := b7) (l' := rpC (errR 0)) (by repeat' constructor) (by rw [hc02]) ?_
  refine .blk_n (.blk_n (.then_n (.seq ?_)))
  have hp : readP π s r l = (⟨π.τ, π.ω, π.ord, π.opened, setF π.ids s ((π.ids s) ++ [(digestZ r.path r.data).1]), π.ev⟩, 0) := by unfold readP; rw [if_pos h48]; unfold authP; rw [if_neg (fun z => z hc0), if_neg hno]; exact if_neg (by omega)
  refine .plFold (k := k) ⟨π.τ, π.ω, π.ord, π.opened, setF π.ids s ((π.ids s) ++ [(digestZ r.path r.data).1]), π.ev⟩ (hI.ids s (.slice a13 ((π.ids s).length + 1) c13) _) (by repeat' constructor) (by rfl) (by rfl) (by rfl) (by rfl) (by rfl) (by rfl) (.add (p := slR 9 1 nilV ([] : List Bs).length (strs [])) (slR_nil _ _) (.region (.q (.la (rpC (errR 0)) rfl ag_41) rfl (.sa rfl rfl sz_41 (by exact errR_cells _) ?_))))
  refine .nil (.pc b6 (rpC (errR 0)) ?_)
  refine .then_n (.ret ?_)
  exact .d1 rfl (.cellA rfl ag_41 (by repeat' constructor) (by simp) rfl) ⟨errR 0, [], ⟨by rw [hp]; rfl, errR_cells _, ⟨none, 0, rfl⟩, (fun _ hk => absurd hk (by unfold readK; omega))⟩, rfl, by rw [hp]⟩
 refine .sr (.ui rfl rfl rfl (.an rfl (.condD rfl (fun h88 => ?_) (fun h88 => ?_))))
 ·refine .evTake (m := me) s (by repeat' constructor) ?_
  have hal := armL_len π.τ s π.ω l l.length (Nat.le_refl _)
  rw [List.take_length] at hal
  have hal2 := hA.arm.len
  have he2 := hI.e2 s
  refine .draw [24, 25, 26] [[0, 1, 2, 3, 4, 5, 6, 7, 8, 9, 10, 11, 12, 13, 14, 15, 16, 17, 18, 19, 20, 21, 22, 23, 24, 25], [26]] mixed (by kernel_rfl) (.go [ptc b _ _, mapR k.rev _, ptc b5 _ _] (by repeat' constructor) (.k rfl (.move rfl) (.k rfl (.nilp rfl) (.k rfl (.fieldAddr rfl fo_85_4) (.k rfl (.ld rfl ag_83) (.k rfl (.move rfl) (.k rfl (.move rfl) (.k rfl (.nilp rfl) (.k rfl (.fieldAddr rfl fo_85_4) (.k rfl (.ld rfl ag_83) (.k rfl (.move rfl) (.k rfl ((.lookupV (m := me) (enc := smE) (KeyLaw.int Tryz.underlying3) (v := (smAt me s).1) (fun b hb => smAt_some b hb) (fun hb => smAt_none hb) rfl rfl Tryz.underlying83 ze_47 (by repeat' constructor) rfl)) (.mv rfl rfl (.nf rfl rfl rfl fo_85_0 (.kv rfl (.fieldAddr rfl fo_81_1) (.kv rfl (.ld rfl ag_78) (.mv rfl rfl (.mv rfl rfl (.nf rfl rfl rfl fo_85_0 (.kv rfl (.fieldAddr rfl fo_81_0) (.kv rfl (.ld rfl ag_76) (.kv rfl (.fieldAddr rfl fo_33_9) ?_))))))))))))))))))))))
  refine D.kv rfl (.ld rfl ag_31) (.hh rfl (.call Tryz.func54 rfl rfl (vs := [_, _, _, _]) rfl (warm_spec k.u k.t π.ω π.τ s r.armV l q hA.arm _ hP.1 (by omega) hs.1 (by omega))) ?_)
  rintro v L' ⟨aw, cw, rfl, rfl⟩
  refine D.hh rfl (.append (n := (smAt me s).2.length) (m := (armL π.τ s π.ω l).2.length) (ys := (armL π.τ s π.ω l).2.flatMap evC) (p := slR 50 3 (.slice aw (armL π.τ s π.ω l).2.length cw) (armL π.τ s π.ω l).2.length ((armL π.τ s π.ω l).2.flatMap evC)) rfl rfl rfl el_47 (.inl ⟨_, Tryz.underlying47⟩) ze_50 rfl rfl ?hc103 (fun h hp => slR_rd hp) ?hb104 (by decide)) ?_
  case hc103 => intro y hy; obtain ⟨z, _, hz⟩ := List.mem_flatMap.1 hy; simp only [evC, List.mem_cons, List.not_mem_nil, or_false] at hz; rcases hz with rfl | rfl | rfl <;> rfl
  case hb104 => rw [← he2]; omega
  rintro v L' ⟨⟨a18, c18, rfl⟩, rfl⟩
  refine D.ph (.g0 (.hh rfl (.mapSet (m := me) (enc := smE) (v := (.slice a18 ((smAt me s).2.length + (armL π.τ s π.ω l).2.length) c18, (smAt me s).2 ++ (armL π.τ s π.ω l).2)) (k := s) (KeyLaw.int Tryz.underlying3) rfl rfl rfl Tryz.underlying83 ?he107) ?_))
  case he107 => rfl
  rintro v L' rfl
  refine D.ph (.fin (.evPut (m := me) s (v := .slice a18 ((smAt me s).2.length + (armL π.τ s π.ω l).2.length) c18) ((smAt me s).2 ++ (armL π.τ s π.ω l).2) (by repeat' constructor) (by rw [List.length_append]) (by rw [List.flatMap_append]) ?_))
  have hIa : PlI (armP π s l) mi (aset me s (.slice a18 ((smAt me s).2.length + (armL π.τ s π.ω l).2.length) c18, (smAt me s).2 ++ (armL π.τ s π.ω l).2)) := by have h := hI.evs s (.slice a18 ((smAt me s).2.length + (armL π.τ s π.ω l).2.length) c18) (armL π.τ s π.ω l).1 (π.ev s ++ (armL π.τ s π.ω l).2); rw [he2] at h; unfold armP; rw [he2]; exact h
  refine .blk_n (.then_n (.seq ?_))
  have hp : readP π s r l = (armP π s l, 0) := by unfold readP; rw [if_neg h48, if_pos h88]
  refine .plFold (k := k) (armP π s l) hIa (by repeat' constructor) (by rfl) (by rfl) (by rfl) (by rfl) (by rfl) (by rfl) (.add (p := slR 9 1 nilV ([] : List Bs).length (strs [])) (slR_nil _ _) (.region (.q (.la (rpC (errR 0)) rfl ag_41) rfl (.sa rfl rfl sz_41 (by exact errR_cells _) ?_))))
  refine .nil (.pc b6 (rpC (errR 0)) ?_)
  refine .then_n (.ret ?_)
  exact .d1 rfl (.cellA rfl ag_41 (by repeat' constructor) (by simp) rfl) ⟨errR 0, [], ⟨by rw [hp]; rfl, errR_cells _, ⟨none, 0, rfl⟩, (fun _ hk => absurd hk (by unfold readK; omega))⟩, rfl, by rw [hp]⟩
 refine .sr (.ui rfl rfl rfl (.an rfl (.condD rfl (fun h116 => ?_) (fun h116 => ?_))))
 ·refine .skip (.blk_n (.then_n (.seq ?_)))
  have hp : readP π s r l = (π, 0) := by unfold readP; rw [if_neg h48, if_neg h88, if_pos h116]
  refine .plFold (k := k) π hI (by repeat' constructor) (by rfl) (by rfl) (by rfl) (by rfl) (by rfl) (by rfl) (.add (p := slR 9 1 nilV ([] : List Bs).length (strs [])) (slR_nil _ _) (.region (.q (.la (rpC (errR 0)) rfl ag_41) rfl (.sa rfl rfl sz_41 (by exact errR_cells _) ?_))))
  refine .nil (.pc b6 (rpC (errR 0)) ?_)
  refine .then_n (.ret ?_)
  exact .d1 rfl (.cellA rfl ag_41 (by repeat' constructor) (by simp) rfl) ⟨errR 0, [], ⟨by rw [hp]; rfl, errR_cells _, ⟨none, 0, rfl⟩, (fun _ hk => absurd hk (by unfold readK; omega))⟩, rfl, by rw [hp]⟩
 refine .seq (.idTakeP s hi2 (by repeat' constructor) fun ai ci hsi => (.fold (p := (sep [slR 9 1 (.slice ai (π.ids s).length ci) (π.ids s).length (strs (π.ids s)), q])) (q := [slR 9 1 (.slice ai (π.ids s).length ci) (π.ids s).length (strs (π.ids s)), q]) (by repeat' constructor) (fun _ h => h) ?_))
 have hW : WiA (sep [slR 9 1 (.slice ai (π.ids s).length ci) (π.ids s).length (strs (π.ids s)), q]) ⟨0, (π.ids s)⟩ (.slice ai (π.ids s).length ci) r := (hA.d.more (a := slR 9 1 (.slice ai (π.ids s).length ci) (π.ids s).length (strs (π.ids s))) (fun _ hp => slR_rd hp) (by omega) ⟨_, _, _, rfl⟩).w.z
 refine .draw [12, 13] [[0, 1, 2, 3, 4, 5, 6, 7, 8, 9, 10, 11, 12], [13]] mixed (by kernel_rfl) (.g0 (.mv rfl rfl (.nf rfl rfl rfl fo_85_0 (.kv rfl (.fieldAddr rfl fo_81_0) (.kv rfl (.ld rfl ag_76) (.mv rfl rfl (.nf rfl rfl rfl fo_85_3 (.kv rfl (.ld rfl ag_82) (.mv rfl rfl (.kv rfl (.to (v' := .slice ai (π.ids s).length ci) (.lookupV (m := mi) (enc := smE) (KeyLaw.int Tryz.underlying3) (v := (smAt mi s).1) (fun b hb => smAt_some b hb) (fun hb => smAt_none hb) rfl rfl Tryz.underlying82 ze_38 (by repeat' constructor) rfl) hsi) (.kv rfl (.la (rqC r) rfl ag_33) (.hh rfl (.call Tryz.func55 rfl rfl (vs := [_, _, _]) rfl (pread_spec k.t π.τ (π.ids s) (.slice ai (π.ids s).length ci) r (sep [slR 9 1 (.slice ai (π.ids s).length ci) (π.ids s).length (strs (π.ids s)), q]) hW _ hP.1 (by omega))) ?_))))))))))))
 rintro v L' ⟨av, kv, rfl, ⟨aa, ca, ha⟩, ⟨ak, ck, hk⟩, rfl⟩
 refine D.ph (.g0 (.sa rfl rfl rfl sz_41 (by exact rpC_cells (by rw [ha]; rfl) (by rw [hk]; rfl) rfl) ?_))
 refine D.ph (.fin (.pc b7 (rpC (readR π.τ (π.ids s) r av kv)) ?_))
 refine .focus (p := (sep [slR 9 1 (.slice ai (π.ids s).length ci) (π.ids s).length (strs (π.ids s)), q])) (by repeat' constructor) (.unfold (q := [slR 9 1 (.slice ai (π.ids s).length ci) (π.ids s).length (strs (π.ids s)), q]) (fun _ h => h) (.idBackP s hi2 hsi (by repeat' constructor) (.then_n (.sr (.q (.la (rqC r) rfl ag_33) rfl (.u (.fieldAddr rfl fo_41_2) (.q (.as (v' := vint (readX π.τ (π.ids s) r)) (by rfl) (.ld rfl ag_27)) rfl (.cv Tryz.func56 [_, _] (pllaid_spec r hrc (readX π.τ (π.ids s) r)) ?_))))))))
 refine .an rfl (.sm rfl (.ui rfl rfl rfl (.nt (.condN rfl (fun h33 => ?_) (fun h33 => ?_)))))
 ·have h33n : ¬ (laidZ r (readX π.τ (π.ids s) r)) = 0 := by simpa using h33
  refine .seq (.draw [9] [[0, 1, 2, 3, 4, 5, 6, 7, 8, 9], [10]] mixed (by kernel_rfl) (.g0 (.mv rfl rfl (.nf rfl rfl rfl fo_85_0 (.kv rfl (.fieldAddr rfl fo_81_1) (.kv rfl (.ld rfl ag_78) (.mv rfl rfl (.mv rfl rfl (.kv rfl (.fieldAddr rfl fo_33_2) (.kv rfl (.ld rfl ag_9) (.hh rfl (.c Tryz.func57 [_, _, _, _] (wadd_spec k.u π.ω s (laidZ r (readX π.τ (π.ids s) r)) r.path (by omega) (by omega))) ?_)))))))))))
  rintro v L' ⟨rfl, rfl⟩
  refine D.ph (.g0 (.kv rfl (.assign rfl) (.pf (.sm rfl (.ui rfl rfl rfl (.nt (.condN rfl (fun h45 => ?_) (fun h45 => ?_))))))))
  ·have h45n : (addW π.ω s (laidZ r (readX π.τ (π.ids s) r)) r.path).2 ≠ 0 := by simpa using h45
   refine .region (.m rfl (.q (.to (v' := .agg (rpC (errR (addW π.ω s (laidZ r (readX π.τ (π.ids s) r)) r.path).2)).toArray) (.buildN (pl := [(0, 1), (1, 1), (2, 1), (3, 1), (4, 1), (5, 9), (14, 1), (15, 1), (16, 1)]) (us := [(2, vint (addW π.ω s (laidZ r (readX π.τ (π.ids s) r)) r.path).2)]) (cells := rpC (errR (addW π.ω s (laidZ r (readX π.τ (π.ids s) r)) r.path).2)) Tryz.underlying41 (by kernel_rfl) ze_41 rfl rfl) rfl) rfl (.sa rfl rfl sz_41 (by exact errR_cells _) ?_)))
   refine .nil (.ptCast (b := b7) (l' := rpC (errR (addW π.ω s (laidZ r (readX π.τ (π.ids s) r)) r.path).2)) (by repeat' constructor) (by exact rfl) ?_)
   refine .blk_n (.then_n (.seq ?_))
   have hp : readP π s r l = (⟨π.τ, (addW π.ω s (laidZ r (readX π.τ (π.ids s) r)) r.path).1, π.ord, π.opened, π.ids, π.ev⟩, (addW π.ω s (laidZ r (readX π.τ (π.ids s) r)) r.path).2) := by unfold readP; rw [if_neg h48, if_neg h88, if_neg h116]; unfold seeP; rw [if_neg h33n, if_pos h45n]
   refine .plFold (k := k) ⟨π.τ, (addW π.ω s (laidZ r (readX π.τ (π.ids s) r)) r.path).1, π.ord, π.opened, π.ids, π.ev⟩ ⟨hI.i1, hI.e1, hI.i2, hI.e2⟩ (by repeat' constructor) (by rfl) (by rfl) (by rfl) (by rfl) (by rfl) (by rfl) (.add (p := slR 9 1 nilV ([] : List Bs).length (strs [])) (slR_nil _ _) (.region (.q (.to (v' := .agg (rpC (errR (addW π.ω s (laidZ r (readX π.τ (π.ids s) r)) r.path).2)).toArray) (.loadA rfl ag_41 (by repeat' constructor) (by simp)) (by rfl)) rfl (.sa rfl rfl sz_41 (by exact errR_cells _) ?_))))
   refine .nil (.ptCast (b := b6) (l' := rpC (errR (addW π.ω s (laidZ r (readX π.τ (π.ids s) r)) r.path).2)) (by repeat' constructor) (by exact rfl) ?_)
   refine .then_n (.ret ?_)
   exact .d1 rfl (.cellA rfl ag_41 (by repeat' constructor) (by simp) rfl) ⟨errR (addW π.ω s (laidZ r (readX π.τ (π.ids s) r)) r.path).2, [], ⟨by rw [hp]; rfl, errR_cells _, ⟨none, 0, rfl⟩, (fun hw _ => absurd (laid_watch h33n) (by rw [hw]; decide))⟩, rfl, by rw [hp]⟩
  have h45n : ¬ (addW π.ω s (laidZ r (readX π.τ (π.ids s) r)) r.path).2 ≠ 0 := by simpa using h45
  refine .skip (.blk_n (.then_n (.seq ?_)))
  have hp : readP π s r l = (⟨π.τ, (addW π.ω s (laidZ r (readX π.τ (π.ids s) r)) r.path).1, π.ord, π.opened, π.ids, π.ev⟩, readX π.τ (π.ids s) r) := by unfold readP; rw [if_neg h48, if_neg h88, if_neg h116]; unfold seeP; rw [if_neg h33n, if_neg h45n]
  refine .plFold (k := k) ⟨π.τ, (addW π.ω s (laidZ r (readX π.τ (π.ids s) r)) r.path).1, π.ord, π.opened, π.ids, π.ev⟩ ⟨hI.i1, hI.e1, hI.i2, hI.e2⟩ (by repeat' constructor) (by rfl) (by rfl) (by rfl) (by rfl) (by rfl) (by rfl) (.region (.q (.la (rpC ((readR π.τ (π.ids s) r av kv))) rfl ag_41) rfl (.sa rfl rfl sz_41 (by exact rpC_cells (by rw [ha]; rfl) (by rw [hk]; rfl) rfl) ?_)))
  refine .nil (.pc b6 (rpC ((readR π.τ (π.ids s) r av kv))) ?_)
  refine .then_n (.ret ?_)
  exact .d1 rfl (.cellA rfl ag_41 (by repeat' constructor) (by simp) rfl) ⟨(readR π.τ (π.ids s) r av kv), readKl π.τ (π.ids s) r, ⟨by rw [hp]; rfl, rpC_cells (by rw [ha]; rfl) (by rw [hk]; rfl) rfl, ⟨ak, ck, hk⟩, (fun _ _ => ⟨av, kv, rfl, rfl⟩)⟩, rfl, by rw [hp]⟩
 refine .skip (.blk_n (.then_n (.seq ?_)))
 have h33 : (laidZ r (readX π.τ (π.ids s) r)) = 0 := by simpa using h33
 have hp : readP π s r l = (π, readX π.τ (π.ids s) r) := by unfold readP; rw [if_neg h48, if_neg h88, if_neg h116]; unfold seeP; exact if_pos h33
 refine .plFold (k := k) π hI (by repeat' constructor) (by rfl) (by rfl) (by rfl) (by rfl) (by rfl) (by rfl) (.region (.q (.la (rpC ((readR π.τ (π.ids s) r av kv))) rfl ag_41) rfl (.sa rfl rfl sz_41 (by exact rpC_cells (by rw [ha]; rfl) (by rw [hk]; rfl) rfl) ?_)))
 refine .nil (.pc b6 (rpC ((readR π.τ (π.ids s) r av kv))) ?_)
 refine .then_n (.ret ?_)
 exact .d1 rfl (.cellA rfl ag_41 (by repeat' constructor) (by simp) rfl) ⟨(readR π.τ (π.ids s) r av kv), readKl π.τ (π.ids s) r, ⟨by rw [hp]; rfl, rpC_cells (by rw [ha]; rfl) (by rw [hk]; rfl) rfl, ⟨ak, ck, hk⟩, (fun _ _ => ⟨av, kv, rfl, rfl⟩)⟩, rfl, by rw [hp]⟩
theorem rpC_of {x : Rp} (h : ∀ v ∈ rpC x, isCell v = true) : isCell x.aclV = true ∧ isCell x.kidsV = true ∧ isCell x.subsV = true :=
 ⟨h _ (by simp [rpC]), h _ (by simp [rpC]), h _ (by simp [rpC])⟩
theorem plcall_spec (b : Nat) (k : PlK) (π : Pl) (s : Int) (r : Rq) (subs : List Rq) (l : List Arm) (q : HP) (hA : CallA q s r subs l) (hs : sesT π.τ s → 1 ≤ s ∧ s ≤ 5) (n : Nat) (hB : PlB π n) (hn : n ≤ 4096) : Fn Tryz.prog 10 #[vptr b, vint s, .agg (rqC r).toArray] [plR b k π, q] fun v L => ∃ π' x kids e, CallZ π s r subs l π' x kids e ∧ v = .tuple #[.agg (rpC x).toArray, vint e] ∧ L = [plR b k π', q, slR 9 1 x.kidsV kids.length (strs kids)] := by
 refine Fn.intro Tryz.func10 rfl rfl fun F W => ?_
 have hP := hB.pre (by omega)
 have hrc := hA.rqc
 have hid16 := hB.ids s
 have hrq := hA.d.w.rq
 refine .sr (.oq (.box rfl) ?_)
 rintro v L' ⟨b5, rfl, rfl⟩
 refine .oq (.allocA ze_41) ?_
 rintro v L' ⟨b6, rfl, rfl⟩
 refine .a rfl (.nil (.pc b5 (rqC r) ?_))
 refine .then_n (.seq (.sm rfl (.m rfl (.cv Tryz.func24 [_, _] (plthere_spec b k π s) ?_))))
 refine .u (.not rfl) (.nt (.condN rfl (fun h12 => ?_) (fun h12 => ?_)))
 ·refine .sr (.q (.to (v' := .agg (rpC rp0).toArray) (.buildN (pl := [(0, 1), (1, 1), (2, 1), (3, 1), (4, 1), (5, 9), (14, 1), (15, 1), (16, 1)]) (us := []) (cells := rpC rp0) Tryz.underlying41 (by kernel_rfl) ze_41 rfl rfl) rfl) rfl (.sa rfl rfl sz_41 (by exact rpC_cells rfl rfl rfl) ?_))
  refine .a rfl (.nil (.pc b6 (rpC rp0) ?_))
  refine .add (p := slR 9 1 nilV ([] : List Bs).length (strs [])) (slR_nil _ _) (.then_n (.rt ?_))
  exact .d2 rfl (.cellA rfl ag_41 (by repeat' constructor) (by simp) rfl) (.tmp rfl) ⟨π, rp0, [], 67, ⟨fun _ => ⟨rfl, rfl, rfl, rfl⟩, fun g => absurd g h12, fun g => absurd g h12, fun g => absurd g h12, rpC_cells rfl rfl rfl, ⟨none, 0, rfl⟩⟩, rfl, rfl⟩
 have hse : sesT π.τ s := by simpa using h12
 refine .sk (.sr (.oq (.allocA ze_41) ?_))
 rintro v L' ⟨b8, rfl, rfl⟩
 refine .nil (.pc b8 (rpC rp0) ?_)
 refine .then_n (.seq (.sr (.u (.fieldAddr rfl fo_33_0) (.u (.ld rfl ag_3) (.cv Tryz.func25 [_] (pchanges_spec r.kind) ?_)))))
 refine .nt (.condB rfl (fun h16 => ?_) (fun h16 => ?_))
 ·refine .plOpen (π := π) (by repeat' constructor) fun ov mi me hI => (.idTakeP s (hI.i2 s) (by repeat' constructor) fun ai ci hsi => (.fold (p := (sep [slR 9 1 (.slice ai (π.ids s).length ci) (π.ids s).length (strs (π.ids s)), q])) (q := [slR 9 1 (.slice ai (π.ids s).length ci) (π.ids s).length (strs (π.ids s)), q]) (by repeat' constructor) (fun _ h => h) ?_))
  have hW : WiD (sep [slR 9 1 (.slice ai (π.ids s).length ci) (π.ids s).length (strs (π.ids s)), q]) ⟨s, (π.ids s)⟩ (.slice ai (π.ids s).length ci) r subs := hA.d.more (a := slR 9 1 (.slice ai (π.ids s).length ci) (π.ids s).length (strs (π.ids s))) (fun _ hp => slR_rd hp) (by omega) ⟨_, _, _, rfl⟩
  refine .draw [22, 23, 24, 25] [[0, 1, 2, 3, 4, 5, 6, 7, 8, 9, 10, 11, 12, 13, 14, 15, 16, 17, 18, 19, 20, 21, 22, 23], [24], [25]] mixed (by kernel_rfl) (.goI (keepC b 85 0 (vptr k.t)) [ptc b5 _ _] (by repeat' constructor) (.k rfl (.move rfl) (.k rfl (.nilp rfl) (.k rfl (.fieldAddr rfl fo_85_0) (.k rfl (.fieldAddr rfl fo_81_0) (.stL rfl (by kernel_rfl) rfl ag_76 (by repeat' constructor) rfl (.k rfl (.move rfl) (.k rfl (.move rfl) (.k rfl (.fieldAddr rfl fo_33_1) (.k rfl (.ld rfl ag_3) (.mv rfl rfl (.nf rfl rfl rfl fo_85_0 (.kv rfl (.fieldAddr rfl fo_81_0) (.kv rfl (.ld rfl ag_76) (.mv rfl rfl (.mv rfl rfl (.nf rfl rfl rfl fo_85_3 (.kv rfl (.ld rfl ag_82) (.mv rfl rfl (.kv rfl (.to (v' := .slice ai (π.ids s).length ci) (.lookupV (m := mi) (enc := smE) (KeyLaw.int Tryz.underlying3) (v := (smAt mi s).1) (fun b hb => smAt_some b hb) (fun hb => smAt_none hb) rfl rfl Tryz.underlying82 ze_38 (by repeat' constructor) rfl) hsi) ?_))))))))))))))))))))
  refine D.kv rfl (.la (rqC r) rfl ag_33) (.hI rfl (by kernel_rfl) (.call Tryz.func27 rfl rfl (vs := [_, _, _, _]) rfl (ptxnA_spec k.t π.τ ⟨s, (π.ids s)⟩ (.slice ai (π.ids s).length ci) r (sep [slR 9 1 (.slice ai (π.ids s).length ci) (π.ids s).length (strs (π.ids s)), q]) hW.w _ hP.1 (by omega) hB.w (by omega) subs hW.rd hW.each hW.acls (by omega))) (by repeat' constructor) ?ivnx46 ?_)
  case ivnx46 => rintro v L' ⟨y, ys, rfl, hy, hys, hc, hcs, rfl⟩; exact ⟨_, _, (by repeat' constructor), rfl⟩
  rintro v L' ⟨y, ys, rfl, hy, hys, hc, hcs, rfl⟩
  have hG := (txn_G hB.ok hW).of hy hys
  have hys2 := hG.few (by omega)
  have hGo := hG.ok hP.1 (zxN π)
  refine D.hI rfl (by kernel_rfl) (.c Tryz.func23 [_, _, _, _] (plput_spec b k π ov mi me hI s r.xid y ys hG (by omega) hc hcs hA.d.w.ses hrq.xid 65536 hP.1 (by decide) hP.2.1 hP.2.2.1 hP.2.2.2)) (by repeat' constructor) ?ivnx48 ?_
  case ivnx48 => rintro v L' ⟨z, rfl, hz, hzm, rfl⟩; exact ⟨_, _, (by repeat' constructor), rfl⟩
  rintro v L' ⟨z, rfl, hz, hzm, rfl⟩
  refine D.ph (.g0 (.hh rfl (.call Tryz.func26 rfl rfl (vs := [_, _]) rfl (preply_spec k.t (putP π s r.xid y ys).τ (entP π s r.xid y ys) _ hGo (by omega) (entR (entP π s r.xid y ys)) (fun _ hp => ent_subs hp) hys2 hc.1 (by obtain ⟨-, a, c, e⟩ := hc; show isCell y.subsV = true; rw [e]; rfl) (fun z hz => ⟨(hcs z hz).1, by rw [(hcs z hz).2]; rfl⟩))) ?_))
  rintro v L' ⟨w, rfl, ⟨aw, cw, hw⟩, rfl⟩
  refine D.ph (.g0 (.sa rfl rfl rfl sz_41 (by exact rpC_cells rfl rfl (by show isCell w = true; rw [hw]; rfl)) ?_))
  refine D.ph (.fin (.pc b8 (rpC ((headR (putP π s r.xid y ys).τ (entP π s r.xid y ys)).ws w)) ?_))
  refine .focus (p := (sep [slR 9 1 (.slice ai (π.ids s).length ci) (π.ids s).length (strs (π.ids s)), q])) (by repeat' constructor) (.unfold (q := [slR 9 1 (.slice ai (π.ids s).length ci) (π.ids s).length (strs (π.ids s)), q]) (fun _ h => h) (.idBackP s (hI.i2 s) hsi (by repeat' constructor) (.idPost hzm (by repeat' constructor) (.bigAdd (f := entR) (l := π.ord) (entP π s r.xid y ys) (p := entR (entP π s r.xid y ys)) rfl (by repeat' constructor) (.plFold (k := k) (putP π s r.xid y ys) hz (by repeat' constructor) (by rfl) (by rfl) (by rfl) (by rfl) (by rfl) (by rfl) (.add (p := slR 9 1 nilV ([] : List Bs).length (strs [])) (slR_nil _ _) (.then_n (.seq (.plOpen (π := (putP π s r.xid y ys)) (by repeat' constructor) fun ov2 mi2 me2 hI2 => (.draw [7, 9, 11] [[0, 1, 2, 3, 4, 5, 6, 8, 7], [9], [10, 11]] mixed (by kernel_rfl) (.go [ptc b5 _ _] (by repeat' constructor) ?_)))))))))))
  refine D.k rfl (.fieldAddr rfl fo_33_1) (.k rfl (.ld rfl ag_3) (.mv rfl rfl (.nf rfl rfl rfl fo_85_0 (.kv rfl (.fieldAddr rfl fo_81_0) (.kv rfl (.ld rfl ag_76) (.k rfl (.fieldAddr rfl fo_41_0) (.hh rfl (.c Tryz.func29 [_] (trzxid_spec k.t (putP π s r.xid y ys).τ)) ?_)))))))
  rintro v L' ⟨rfl, rfl⟩
  refine D.ph (.g0 (.hh rfl (.store rfl rfl rfl sz_3 ?c67 (nfz0 _ _)) ?_))
  case c67 => simp
  rintro v L' rfl
  refine D.ph (.g0 (.kv rfl (.fieldAddr rfl fo_41_1) (.hh rfl (.store rfl rfl rfl sz_3 ?c71 (nfz0 _ _)) ?_)))
  case c71 => simp
  rintro v L' rfl
  refine D.ph (.fin (.pc b8 (rpC (⟨r.xid, (putP π s r.xid y ys).τ.zx, ((headR (putP π s r.xid y ys).τ (entP π s r.xid y ys)).ws w).err, ((headR (putP π s r.xid y ys).τ (entP π s r.xid y ys)).ws w).path, ((headR (putP π s r.xid y ys).τ (entP π s r.xid y ys)).ws w).data, ((headR (putP π s r.xid y ys).τ (entP π s r.xid y ys)).ws w).st, ((headR (putP π s r.xid y ys).τ (entP π s r.xid y ys)).ws w).aclV, ((headR (putP π s r.xid y ys).τ (entP π s r.xid y ys)).ws w).kidsV, ((headR (putP π s r.xid y ys).τ (entP π s r.xid y ys)).ws w).subsV⟩ : Rp)) ?_))
  refine .plFold (k := k) (putP π s r.xid y ys) hI2 (by repeat' constructor) (by rfl) (by rfl) (by rfl) (by rfl) (by rfl) (by rfl) (.then_n (.sr (.q (.to (v' := .agg (rpC (⟨r.xid, (putP π s r.xid y ys).τ.zx, ((headR (putP π s r.xid y ys).τ (entP π s r.xid y ys)).ws w).err, ((headR (putP π s r.xid y ys).τ (entP π s r.xid y ys)).ws w).path, ((headR (putP π s r.xid y ys).τ (entP π s r.xid y ys)).ws w).data, ((headR (putP π s r.xid y ys).τ (entP π s r.xid y ys)).ws w).st, ((headR (putP π s r.xid y ys).τ (entP π s r.xid y ys)).ws w).aclV, ((headR (putP π s r.xid y ys).τ (entP π s r.xid y ys)).ws w).kidsV, ((headR (putP π s r.xid y ys).τ (entP π s r.xid y ys)).ws w).subsV⟩ : Rp)).toArray) (.loadA rfl ag_41 (by repeat' constructor) (by simp)) (by rfl)) rfl (.sa rfl rfl sz_41 (by exact rpC_cells rfl rfl (by show isCell w = true; rw [hw]; rfl)) ?_))))
  refine .a rfl (.nil (.pc b6 (rpC (⟨r.xid, (putP π s r.xid y ys).τ.zx, ((headR (putP π s r.xid y ys).τ (entP π s r.xid y ys)).ws w).err, ((headR (putP π s r.xid y ys).τ (entP π s r.xid y ys)).ws w).path, ((headR (putP π s r.xid y ys).τ (entP π s r.xid y ys)).ws w).data, ((headR (putP π s r.xid y ys).τ (entP π s r.xid y ys)).ws w).st, ((headR (putP π s r.xid y ys).τ (entP π s r.xid y ys)).ws w).aclV, ((headR (putP π s r.xid y ys).τ (entP π s r.xid y ys)).ws w).kidsV, ((headR (putP π s r.xid y ys).τ (entP π s r.xid y ys)).ws w).subsV⟩ : Rp)) ?_))
  refine .then_n (.ret ?_)
  exact .d2 rfl (.cellA rfl ag_41 (by repeat' constructor) (by simp) rfl) (.tmp rfl) ⟨(putP π s r.xid y ys), (⟨r.xid, (putP π s r.xid y ys).τ.zx, ((headR (putP π s r.xid y ys).τ (entP π s r.xid y ys)).ws w).err, ((headR (putP π s r.xid y ys).τ (entP π s r.xid y ys)).ws w).path, ((headR (putP π s r.xid y ys).τ (entP π s r.xid y ys)).ws w).data, ((headR (putP π s r.xid y ys).τ (entP π s r.xid y ys)).ws w).st, ((headR (putP π s r.xid y ys).τ (entP π s r.xid y ys)).ws w).aclV, ((headR (putP π s r.xid y ys).τ (entP π s r.xid y ys)).ws w).kidsV, ((headR (putP π s r.xid y ys).τ (entP π s r.xid y ys)).ws w).subsV⟩ : Rp), [], 0, ⟨(fun g => absurd hse g), fun _ _ => ⟨rfl, rfl, y, ys, hy, hys, hc.1, hc.2, hcs, rfl, rfl⟩, fun _ g => absurd h16 g, fun _ => ⟨rfl, rfl⟩, rpC_cells rfl rfl (by show isCell w = true; rw [hw]; rfl), ⟨none, 0, rfl⟩⟩, rfl, rfl⟩
 refine .region (.m rfl (.m rfl (.q (.la (rqC r) rfl ag_33) rfl (.oq (.c Tryz.func28 [_, _, _] (plread_spec b k π s r subs l q hA (hs hse) n hB hn)) ?_))))
 rintro v L' ⟨x, kids, hR, rfl, rfl⟩
 refine .sa rfl rfl sz_41 (by exact hR.cells) ?_
 refine .nil (.pc b8 (rpC x) ?_)
 have hRc := rpC_of hR.cells
 refine .then_n (.seq (.plOpen (π := (readP π s r l).1) (by repeat' constructor) fun ov2 mi2 me2 hI2 => (.draw [7, 9, 11] [[0, 1, 2, 3, 4, 5, 6, 8, 7], [9], [10, 11]] mixed (by kernel_rfl) (.go [ptc b5 _ _] (by repeat' constructor) (.k rfl (.fieldAddr rfl fo_33_1) (.k rfl (.ld rfl ag_3) (.mv rfl rfl (.nf rfl rfl rfl fo_85_0 (.kv rfl (.fieldAddr rfl fo_81_0) (.kv rfl (.ld rfl ag_76) (.k rfl (.fieldAddr rfl fo_41_0) (.hh rfl (.c Tryz.func29 [_] (trzxid_spec k.t (readP π s r l).1.τ)) ?_))))))))))))
 rintro v L' ⟨rfl, rfl⟩
 refine D.ph (.g0 (.hh rfl (.store rfl rfl rfl sz_3 ?c101 (nfz0 _ _)) ?_))
 case c101 => simp
 rintro v L' rfl
 refine D.ph (.g0 (.kv rfl (.fieldAddr rfl fo_41_1) (.hh rfl (.store rfl rfl rfl sz_3 ?c105 (nfz0 _ _)) ?_)))
 case c105 => simp
 rintro v L' rfl
 refine D.ph (.fin (.pc b8 (rpC (⟨r.xid, (readP π s r l).1.τ.zx, x.err, x.path, x.data, x.st, x.aclV, x.kidsV, x.subsV⟩ : Rp)) ?_))
 refine .plFold (k := k) (readP π s r l).1 hI2 (by repeat' constructor) (by rfl) (by rfl) (by rfl) (by rfl) (by rfl) (by rfl) (.then_n (.sr (.q (.la (rpC (⟨r.xid, (readP π s r l).1.τ.zx, x.err, x.path, x.data, x.st, x.aclV, x.kidsV, x.subsV⟩ : Rp)) rfl ag_41) rfl (.sa rfl rfl sz_41 (by exact rpC_cells hRc.1 hRc.2.1 hRc.2.2) ?_))))
 refine .a rfl (.nil (.pc b6 (rpC (⟨r.xid, (readP π s r l).1.τ.zx, x.err, x.path, x.data, x.st, x.aclV, x.kidsV, x.subsV⟩ : Rp)) ?_))
 refine .then_n (.ret ?_)
 exact .d2 rfl (.cellA rfl ag_41 (by repeat' constructor) (by simp) rfl) (.tmp rfl) ⟨(readP π s r l).1, (⟨r.xid, (readP π s r l).1.τ.zx, x.err, x.path, x.data, x.st, x.aclV, x.kidsV, x.subsV⟩ : Rp), kids, 0, ⟨(fun g => absurd hse g), fun _ g => absurd g (by rw [h16]; decide), fun _ _ => ⟨rfl, rfl, x, hR, rfl⟩, fun _ => ⟨rfl, rfl⟩, rpC_cells hRc.1 hRc.2.1 hRc.2.2, hR.shape⟩, rfl, rfl⟩
theorem evclip0_spec : Fn Tryz.prog 31 #[.slice none 0 0] [slR 50 3 (.slice none 0 0) 0 []] fun u L => u = .slice none 0 0 ∧ L = [slR 50 3 u 0 []] := by
 refine Fn.intro Tryz.func31 rfl rfl fun F W => ?_
 refine .sr (.an rfl (.sm rfl (.m rfl (.q (.slen rfl Tryz.underlying47 rfl) rfl (.m rfl (.q (.slen rfl Tryz.underlying47 rfl) rfl (.q (.clip (n := 0) rfl el_47 rfl rfl (Nat.le_refl _) (.inl rfl)) rfl (.an rfl (.ret ?_)))))))))
 exact .dn rfl rfl ⟨rfl, rfl⟩
theorem evclip1_spec (b n c : Nat) (hc : n ≤ c) (xs : List Value) : Fn Tryz.prog 31 #[.slice (some ⟨b, 0, none⟩) n c] [slR 50 3 (.slice (some ⟨b, 0, none⟩) n c) n xs] fun u L => u = .slice (some ⟨b, 0, none⟩) n n ∧ L = [slR 50 3 u n xs] := by
 refine Fn.intro Tryz.func31 rfl rfl fun F W => ?_
 refine .sr (.an rfl (.sm rfl (.m rfl (.q (.slen rfl Tryz.underlying47 rfl) rfl (.m rfl (.q (.slen rfl Tryz.underlying47 rfl) rfl (.q (.clip (n := n) rfl el_47 rfl rfl hc (.inr ⟨_, _, rfl⟩)) rfl (.an rfl (.ret (.slClip (by repeat' constructor) ?_))))))))))
 exact .dn rfl rfl ⟨rfl, rfl⟩
theorem evclip_spec (v : Value) (n : Nat) (xs : List Value) : Fn Tryz.prog 31 #[v] [slR 50 3 v n xs] fun u L => (∃ a c, u = .slice a n c) ∧ L = [slR 50 3 u n xs] := by
 intro F w hs
 obtain ⟨g1, -, hp⟩ := sep_head hs
 rcases hp with ⟨rfl, rfl, rfl⟩ | ⟨b, cap, rest, fr, rfl, -, -, -, h4, -⟩
 ·exact (evclip0_spec F w hs).mono fun e w' ⟨u, L, ⟨h1, h2⟩, h3⟩ => ⟨u, L, ⟨⟨_, _, h1⟩, h2⟩, h3⟩
 ·exact (evclip1_spec b n cap h4 xs F w hs).mono fun e w' ⟨u, L, ⟨h1, h2⟩, h3⟩ => ⟨u, L, ⟨⟨_, _, h1⟩, h2⟩, h3⟩
theorem plev_spec (b : Nat) (k : PlK) (π : Pl) (s : Int) : Fn Tryz.prog 13 #[vptr b, vint s] [plR b k π] fun v L => ∃ a c, v = .slice a (π.ev s).length c ∧ L = [plR b k (evsP π s), slR 50 3 v (π.ev s).length ((π.ev s).flatMap evC)] := by
 refine Fn.intro Tryz.func13 rfl rfl fun F W => ?_
 refine .plOpen (π := π) (by repeat' constructor) fun ov mi me hI => ?_
 have he2 := hI.e2 s
 refine .sr (.an rfl (.sm rfl (.nf rfl fo_85_4 (.u (.ld rfl ag_83) (.m rfl (.q ((.lookupV (m := me) (enc := smE) (KeyLaw.int Tryz.underlying3) (v := (smAt me s).1) (fun b hb => smAt_some b hb) (fun hb => smAt_none hb) rfl rfl Tryz.underlying83 ze_47 (by repeat' constructor) rfl)) rfl (.an rfl (.sm rfl (.nf rfl fo_85_4 (.u (.ld rfl ag_83) (.m rfl (.oq (.mapDel (m := me) (enc := smE) (k := s) (KeyLaw.int Tryz.underlying3) rfl rfl rfl Tryz.underlying83 ?he13) ?_))))))))))))
 case he13 => rfl
 rintro v L' rfl
 refine .nil (.evTake (m := me) s (by repeat' constructor) (.slCast (T := 50) (sz := 3) (m' := (π.ev s).length) (xs' := (π.ev s).flatMap evC) (by repeat' constructor) (by rw [he2]) (by rw [he2]) (.then_n (.sm rfl (.oq (.c Tryz.func31 [_] (evclip_spec (smAt me s).1 (π.ev s).length ((π.ev s).flatMap evC))) ?_)))))
 rintro v L' ⟨⟨ac, cc, rfl⟩, rfl⟩
 refine .a rfl (.nil (.plFold (k := k) (evsP π s) (hI.evd s) (by repeat' constructor) (by rfl) (by rfl) (by rfl) (by rfl) (by rfl) (by rfl) (.then_n (.ret ?_))))
 exact .dn rfl rfl ⟨ac, cc, rfl, rfl⟩
/-! ### Tables that are read -/
theorem TzP.up {a p : HP} (hT : TzP p) : TzP (sep [a, p]) := by
 intro h w hp hle
 obtain ⟨h1, h2, _, a1, a2, _, h3⟩ := hp
 obtain ⟨h4, a4, hp4⟩ := sep_head (p := p) (L := []) h3
 exact hT h4 w hp4 (fun b o e => hle b o (a2 b o (a4 b o e)))
theorem armA_nil {q : HP} : ArmsA q nilV [] := ⟨fun _ _ => .inl ⟨rfl, rfl, none, 0, rfl⟩, Nat.zero_le _, fun _ h => by cases h⟩
def pathQ (k : Int) (p : Bs) : Rq := ⟨k, 0, p, [], nilV, [], 0, 0, false, nilV, nilV⟩
theorem pathQ_W {q : HP} (hT : TabP q) {s k : Int} (hs : I64 s) (hk : I64 k) {p : Bs} (hp : p.length ≤ 1048566) : WiA q ⟨s, []⟩ nilV (pathQ k p) :=
 ⟨⟨hk, I64.zero, I64.zero, I64.zero, hp, Nat.zero_le _, fun _ _ => .inl ⟨rfl, rfl, none, 0, rfl⟩, Nat.zero_le _, (fun _ h => by cases h), ⟨none, 0, 0, rfl⟩, ⟨none, 0, 0, rfl⟩⟩, hs, fun _ _ => .inl ⟨rfl, rfl, none, 0, rfl⟩, by show 0 ≤ _; decide, ⟨none, 0, 0, rfl⟩, ⟨none, 0, 0, rfl⟩, hT⟩
theorem pathQ_A {q : HP} (hT : TabP q) (hZ : TzP q) {s k : Int} (hs : I64 s) (hk : I64 k) {p : Bs} (hp : p.length ≤ 1048566) : CallA q s (pathQ k p) [] [] :=
 ⟨⟨pathQ_W hT hs hk hp, acl_nil_w, fun _ _ => .inl ⟨rfl, rfl, none, 0, rfl⟩, (fun _ h => by cases h), fun _ h => by cases h⟩, hZ, armA_nil⟩
/-! ### The first calls -/
def aw13 : Pl := (opnP newPl 10).1
def rqA13 (v : Value) : Rq := ⟨1, 4, [47, 97], [], v, acl31, 0, 0, false, nilV, nilV⟩
theorem aw13_B : PlB aw13 1 := newPl_B.opn (by decide) 10
theorem aw13_ses : sesT aw13.τ 1 := by decide +kernel
theorem part13_A (v : Value) : partP aw13.τ ⟨1, []⟩ (rqA13 v) = (⟨1, [47, 97], [], nilV, acl31, 0, 1, 0, nilV⟩, 0) := by
 rw [part_one rfl]
 have e : firstZ (createE aw13.τ ⟨1, []⟩ (rqA13 v)) = 0 := (by decide +kernel : firstZ (createE aw13.τ ⟨1, []⟩ (rqA13 nilV)) = 0)
 rw [e]
 have e2 : createX aw13.τ ⟨1, []⟩ (rqA13 v) = createX aw13.τ ⟨1, []⟩ (rqA13 nilV) := rfl
 rw [e2]
 show ((⟨1, fullZ aw13.τ (rqA13 nilV), [], nilV, acl31, if andI 0 1 ≠ 0 then 1 else 0, wrapI ((upS aw13.τ (rqA13 nilV)).cver + 1), 0, nilV⟩ : Pt), (0 : Int)) = _
 rw [show (upS aw13.τ (rqA13 nilV)).cver = 0 by decide +kernel, show fullZ aw13.τ (rqA13 nilV) = [47, 97] by decide +kernel, show wrapI (0 + 1) = 1 by decide, if_neg (by decide)]
theorem txn13_A (v : Value) : (txnP aw13.τ ⟨1, aw13.ids 1⟩ (rqA13 v) []).1.kind = 1 := by
 show (txnP aw13.τ ⟨1, []⟩ (rqA13 v) []).1.kind = 1
 unfold txnP
 rw [if_neg (by show ¬ ¬ changesK 1 = true; decide), if_neg (fun g => g aw13_ses), if_neg (by show ¬ (1 : Int) = 6; decide), if_neg (by show ¬ (1 : Int) = 7; decide), if_neg (by show ¬ (1 : Int) = 8; decide), part13_A, if_neg (by decide)]
theorem aw13_call {v : Value} {π : Pl} {x : Rp} {kids : List Bs} {e : Int} (h : CallZ aw13 1 (rqA13 v) [] [] π x kids e) : e = 0 ∧ x.err = 0 ∧ x.xid = 4 ∧ x.zx = 4294967298 ∧ ¬ sesT π.τ 9 := by
 have hk : changesK (rqA13 v).kind = true := by show changesK 1 = true; decide
 obtain ⟨he, -, y, ys, hy, hys, -, -, -, rfl, hx⟩ := h.chg aw13_ses hk
 obtain ⟨h1, h2⟩ := h.stamp aw13_ses
 have hk1 := congrArg Pt.kind hy
 rw [txn13_A] at hk1
 have hk1 : y.kind = 1 := hk1
 refine ⟨he, by rw [hx, if_neg (by omega)], h1, ?_, fun g => ?_⟩
 ·rw [h2]
  show (applyZ aw13.τ (zxN aw13) y ys).1.zx = _
  have := app_zx aw13.τ ⟨zxN aw13, 0, 0, y, ys⟩
  exact this.trans (by show zxN aw13 = _; decide +kernel)
 ·have hs : (applyZ aw13.τ (zxN aw13) y ys).1.sess = aw13.τ.sess := by
   unfold applyZ
   dsimp only
   rw [if_neg (by omega), if_neg (by omega), if_neg (by omega), if_neg (by omega)]
   exact part_sess _ _ _
  have g : (alook (applyZ aw13.τ (zxN aw13) y ys).1.sess 9).isSome = true := g
  rw [hs] at g
  exact absurd g (by decide +kernel)
/-! ### Sessions stay -/
theorem multi_not6 (τ : Tr) (u : Who) (l : List Rq) : (multiP τ u l).1.kind = 7 ∨ (multiP τ u l).1.kind = 8 := by
 unfold multiP
 split
 ·exact .inr rfl
 ·split
  ·exact .inr rfl
  ·exact .inl rfl
theorem txn_six {τ : Tr} {u : Who} {r : Rq} {subs : List Rq} (h : (txnP τ u r subs).1.kind = 6) : r.kind = 8 := by
 unfold txnP at h
 split at h
 ·exact absurd h (by show ¬ (8 : Int) = 6; decide)
 split at h
 ·exact absurd h (by show ¬ (8 : Int) = 6; decide)
 split at h
 ·have := multi_not6 τ u subs; omega
 split at h
 ·exact absurd h (by show ¬ (0 : Int) = 6; decide)
 split at h
 ·assumption
 split at h
 ·exact absurd h (by show ¬ (8 : Int) = 6; decide)
 ·exact absurd h (part_plain τ u r).2.1
theorem app_sess0 {τ : Tr} {z : Int} {y : Pt} {ys : List Pt} (h5 : y.kind ≠ 5) (h6 : y.kind ≠ 6) : (applyZ τ z y ys).1.sess = τ.sess := by
 have hp : ∀ l : List Pt, (partsZ (zxT τ z) z l).1.sess = τ.sess := fun l => by
  unfold partsZ
  have H : ∀ (l : List Pt) (r : Tr × List Ev), (l.foldl (fun r x => ((partZ r.1 x z).1, r.2 ++ (partZ r.1 x z).2)) r).1.sess = r.1.sess := by
   intro l
   induction l with
   | nil => intro r; rfl
   | cons x l ih => intro r; rw [List.foldl_cons, ih]; exact part_sess _ _ _
  exact H l (zxT τ z, [])
 unfold applyZ
 dsimp only
 rw [if_neg h5, if_neg h6]
 split
 ·exact hp _
 split
 ·rfl
 ·exact part_sess _ _ _
theorem read_tree (π : Pl) (s : Int) (r : Rq) (l : List Arm) : (readP π s r l).1.τ = π.τ ∧ (readP π s r l).1.ord = π.ord := by
 unfold readP
 split
 ·unfold authP
  split
  ·exact ⟨rfl, rfl⟩
  split
  ·exact ⟨rfl, rfl⟩
  split <;> exact ⟨rfl, rfl⟩
 split
 ·exact ⟨rfl, rfl⟩
 split
 ·exact ⟨rfl, rfl⟩
 ·unfold seeP
  split <;> exact ⟨rfl, rfl⟩
theorem put_sess {π : Pl} {s x : Int} {y : Pt} {ys : List Pt} {u : Who} {r : Rq} {subs : List Rq} (hy : y.pl = (txnP π.τ u r subs).1) (h8 : r.kind ≠ 8) : (putP π s x y ys).τ.sess = π.τ.sess := by
 have hk := congrArg Pt.kind hy
 have hk : y.kind = (txnP π.τ u r subs).1.kind := hk
 have h5 := txn_not5 π.τ u r subs
 exact app_sess0 (by rw [hk]; exact h5) (fun g => h8 (txn_six (hk.symm.trans g)))
theorem CallZ.sess {π : Pl} {s : Int} {r : Rq} {subs : List Rq} {l : List Arm} {π' : Pl} {x : Rp} {kids : List Bs} {e : Int} (h : CallZ π s r subs l π' x kids e) (h8 : r.kind ≠ 8) : π'.τ.sess = π.τ.sess := by
 by_cases hse : sesT π.τ s
 ·by_cases hk : changesK r.kind = true
  ·obtain ⟨-, -, y, ys, hy, -, -, -, -, rfl, -⟩ := h.chg hse hk
   exact put_sess hy h8
  ·obtain ⟨-, rfl, -⟩ := h.rd hse hk
   rw [(read_tree π s r l).1]
 ·obtain ⟨-, rfl, -⟩ := h.gone hse
  rfl
theorem CallZ.ses {π : Pl} {s : Int} {r : Rq} {subs : List Rq} {l : List Arm} {π' : Pl} {x : Rp} {kids : List Bs} {e : Int} (h : CallZ π s r subs l π' x kids e) (h8 : r.kind ≠ 8) {i : Int} (hs : sesT π.τ i) : sesT π'.τ i := by
 unfold sesT at hs ⊢
 rw [h.sess h8]; exact hs
theorem CallZ.ok {π : Pl} {s : Int} {r : Rq} {subs : List Rq} {l : List Arm} {π' : Pl} {x : Rp} {kids : List Bs} {e : Int} (h : CallZ π s r subs l π' x kids e) (hs : sesT π.τ s) : e = 0 := by
 by_cases hk : changesK r.kind = true
 ·exact (h.chg hs hk).1
 ·exact (h.rd hs hk).1
/-! ### Looks -/
/-! ### Two services that do the same -/
structure Sp13 where
 what : Int
 ses : Int
 tmo : Int
 r : Rq
 subs : List Rq
 arm : List Arm
 far : Bool
def spC (x : Sp13) : List Value := [vint x.what, vint x.ses, vint x.tmo] ++ rqC x.r ++ [.bool x.far]
structure StA (p : HP) (v : Value) (xs : List Sp13) : Prop where
 cells : ∀ h : Hp, p h → rdS 14 h v xs.length (xs.flatMap spC)
 len : xs.length ≤ 1048576
 nums : ∀ x ∈ xs, I64 x.what ∧ I64 x.ses ∧ I64 x.tmo
 each : ∀ x ∈ xs, ∀ s, I64 s → CallA p s x.r x.subs x.arm
/-! ### A multi -/
theorem aw13_A {q : HP} (hT : TabP q) (hZ : TzP q) {v : Value} (hv : ∃ a n c, v = .slice a n c) (ha : ∀ h : Hp, q h → rdS 2 h v acl31.length (acl31.flatMap acC)) : CallA q 1 (rqA13 v) [] [] := by
 have i1 : I64 1 := ⟨by decide, by decide⟩
 have i4 : I64 4 := ⟨by decide, by decide⟩
 refine ⟨⟨WiA.mk0 i1 hT ⟨i1, i4, I64.zero, I64.zero⟩ ⟨by show 2 ≤ 64; decide, by show 0 ≤ 64; decide⟩ ha ⟨by show 1 ≤ 8; decide, fun a h => ?_⟩ hv ⟨none, 0, 0, rfl⟩ ⟨none, 0, 0, rfl⟩, acl31_w, fun _ _ => .inl ⟨rfl, rfl, none, 0, rfl⟩, (fun _ h => by cases h), fun _ h => by cases h⟩, hZ, armA_nil⟩
 obtain rfl := List.mem_singleton.1 (show a ∈ acl31 from h)
 exact ⟨⟨by decide, by decide⟩, by decide⟩
theorem pick13_spec  (c n : Int) (hc : -9223372036854775808 ≤ c ∧ c ≤ 9223372036854775807) (hn : 0 < n) : Fn Tryz.prog 11 #[vint c, vint n] [] fun v L => v = vint (pickZ c n) ∧ L = [] := by
 refine Fn.intro Tryz.func11 rfl rfl fun F W => ?_
 refine .sr (.an rfl (.seq (.sm rfl (.ui rfl rfl rfl (.nt (.condD rfl (fun h6 => ?_) (fun h6 => ?_)))))))
 ·refine .region (.m rfl (.q (.add rfl rfl (by omega)) rfl (.q (.neg rfl (by omega)) rfl (.an rfl (.sm rfl (.m rfl (.q (.remE rfl rfl (by omega) (by omega)) rfl (.an rfl (.ret ?_)))))))))
  have e : pickZ c n = (-(c + 1)) % n := by unfold pickZ; rw [if_pos h6]
  rw [e]
  exact .vv
 refine .sk (.sm rfl (.m rfl (.q (.remE rfl rfl (by omega) (by omega)) rfl (.an rfl (.ret ?_)))))
 have e : pickZ c n = (c) % n := by unfold pickZ; rw [if_neg h6]
 rw [e]
 exact .vv
theorem awake13_spec (q : HP) (hT : TabP q) (hZ : TzP q) : Fn Tryz.prog 7 #[] [q] fun v L => v = .bool true ∧ L = [q] := by
 refine Fn.intro Tryz.func7 rfl rfl fun F W => ?_
 refine .sr (.an rfl (.sr (.oq (.c Tryz.func8 [] (plnew_spec)) ?_)))
 rintro v L' ⟨b, k, rfl, rfl⟩
 refine .an rfl (.seq (.sm rfl (.q (.ptreq rfl rfl Tryz.underlying25) rfl (.nt (.condF rfl (.sk (.sm rfl (.cv Tryz.func9 [_, _] (plopen_spec b k newPl 10 0 newPl_B (by decide)) ?_))))))))
 refine .m rfl (.q (.as (v' := vint 1) (by rfl) (.extract rfl rfl)) rfl (.q (.as (v' := vint 0) (by rfl) (.extract rfl rfl)) rfl (.a rfl (.an rfl (.sm rfl (.m rfl (.q (.build (us := [(0, _), (1, _)]) fl_75 ze_75 rfl rfl (by simp [isCell])) rfl (.oq (.buildSlice (vs := [_]) el_30 ze_75 rfl rfl rfl rfl (by first | (simp [Value.cells]; done) | (intro v hv; simp only [List.mem_cons, List.not_mem_nil, or_false] at hv; (repeat (first | (subst hv; rfl) | (rcases hv with hv | hv; (subst hv; rfl)))))) (by decide)) ?_))))))))
 rintro v L' ⟨ba, rfl, rfl⟩
 refine .q (.to (v' := .agg (rqC (rqA13 (.slice (some ⟨ba, 0, none⟩) 1 1))).toArray) (.build (us := [(0, _), (2, _), (1, _), (4, _)]) fl_33 ze_33 rfl rfl (by simp [isCell])) rfl) rfl (.slMakeN 2 1 (b := ba) (xs := acl31.flatMap acC) (by repeat' constructor) rfl rfl (.fold (p := (sep [slR 75 2 (.slice (some ⟨ba, 0, none⟩) 1 1) 1 (acl31.flatMap acC), q])) (q := [slR 75 2 (.slice (some ⟨ba, 0, none⟩) 1 1) 1 (acl31.flatMap acC), q]) (by repeat' constructor) (fun _ h => h) ?_))
 have hT1 : TabP (sep [slR 75 2 (.slice (some ⟨ba, 0, none⟩) 1 1) 1 (acl31.flatMap acC), q]) := hT.up
 have hZ1 : TzP (sep [slR 75 2 (.slice (some ⟨ba, 0, none⟩) 1 1) 1 (acl31.flatMap acC), q]) := hZ.up
 have hra : ∀ h : Hp, (sep [slR 75 2 (.slice (some ⟨ba, 0, none⟩) 1 1) 1 (acl31.flatMap acC), q]) h → rdS 2 h (.slice (some ⟨ba, 0, none⟩) 1 1) acl31.length (acl31.flatMap acC) := rd_acl (fun _ => slR_rd)
 have hA1 : CallA (sep [slR 75 2 (.slice (some ⟨ba, 0, none⟩) 1 1) 1 (acl31.flatMap acC), q]) 1 (rqA13 (.slice (some ⟨ba, 0, none⟩) 1 1)) [] [] := aw13_A hT1 hZ1 ⟨_, _, _, rfl⟩ hra
 refine .oq (.call Tryz.func10 rfl rfl (vs := [_, _, _]) rfl (plcall_spec b k aw13 1 (rqA13 (.slice (some ⟨ba, 0, none⟩) 1 1)) [] [] (sep [slR 75 2 (.slice (some ⟨ba, 0, none⟩) 1 1) 1 (acl31.flatMap acC), q]) hA1 (fun _ => ⟨by decide, by decide⟩) 1 aw13_B (by decide))) ?_
 rintro v L' ⟨π, x, kids, e, hC, rfl, rfl⟩
 refine .m rfl (.u (.extract rfl rfl) (.u (.extract rfl rfl) (.oq (.allocA ze_41) ?_)))
 rintro v L' ⟨b4, rfl, rfl⟩
 refine .sa rfl rfl sz_41 (by exact hC.cells) ?_
 refine .a rfl (.nil (.pc b4 (rpC x) ?_))
 have hx := aw13_call hC
 have hB2 := aw13_B.call (by decide) (fun _ => ⟨by decide, by decide⟩) hA1 hC
 refine .then_n (.sm rfl (.q (.to (v' := .agg (rqC (pathQ 7 [])).toArray) (.build (us := [(0, _)]) fl_33 ze_33 rfl rfl (by simp [isCell])) rfl) rfl (.oq (.call Tryz.func10 rfl rfl (vs := [_, _, _]) rfl (plcall_spec b k π 9 (pathQ 7 []) [] [] (sep [slR 75 2 (.slice (some ⟨ba, 0, none⟩) 1 1) 1 (acl31.flatMap acC), q]) (pathQ_A hT1 hZ1 ⟨by decide, by decide⟩ ⟨by decide, by decide⟩ (Nat.zero_le _)) (fun g => absurd g hx.2.2.2.2) 2 hB2 (by decide))) ?_)))
 rintro v L' ⟨π2, x2, kids2, e2, hD, rfl, rfl⟩
 refine .m rfl (.u (.extract rfl rfl) (.u (.extract rfl rfl) (.oq (.allocA ze_41) ?_)))
 rintro v L' ⟨b6, rfl, rfl⟩
 refine .sa rfl rfl sz_41 (by exact hD.cells) ?_
 refine .a rfl (.nil (.pc b6 (rpC x2) ?_))
 have h67 := (hD.gone hx.2.2.2.2).1
 refine .then_n (.sm rfl (.q (.as (v' := .bool true) (by rfl) (.int rfl rfl rfl)) rfl (.m rfl (.grun (t := 33) rfl rfl rfl (.m rfl (.grun (t := 33) rfl rfl rfl (.q (.as (v' := .bool true) (by rfl) (.int rfl rfl rfl)) rfl (.u (.pickT rfl rfl) (.m rfl (.grun (t := 37) rfl rfl rfl (.m rfl (.grun (t := 37) rfl rfl rfl (.q (.as (v' := .bool true) (by exact congrArg Value.bool (decide_eq_true (hx.1))) (.int rfl rfl rfl)) rfl (.u (.pickT rfl rfl) (.m rfl (.grun (t := 41) rfl rfl rfl (.u (.fieldAddr rfl fo_41_2) (.grun (t := 41) rfl rfl rfl (.u (.ld rfl ag_27) (.grun (t := 41) rfl rfl rfl (.q (.as (v' := .bool true) (by exact congrArg Value.bool (decide_eq_true (hx.2.1))) (.int rfl rfl rfl)) rfl (.u (.pickT rfl rfl) (.m rfl (.grun (t := 46) rfl rfl rfl (.u (.fieldAddr rfl fo_41_0) (.grun (t := 46) rfl rfl rfl ?_))))))))))))))))))))))))))
 refine .u (.ld rfl ag_3) (.grun (t := 46) rfl rfl rfl (.q (.as (v' := .bool true) (by exact congrArg Value.bool (decide_eq_true (hx.2.2.1))) (.int rfl rfl rfl)) rfl (.u (.pickT rfl rfl) (.m rfl (.grun (t := 51) rfl rfl rfl (.u (.fieldAddr rfl fo_41_1) (.grun (t := 51) rfl rfl rfl (.u (.ld rfl ag_3) (.grun (t := 51) rfl rfl rfl (.q (.as (v' := .bool true) (by exact congrArg Value.bool (decide_eq_true (hx.2.2.2.1))) (.int rfl rfl rfl)) rfl (.u (.pickT rfl rfl) (.m rfl (.grun (t := 56) rfl rfl rfl (.m rfl (.grun (t := 56) rfl rfl rfl (.q (.as (v' := .bool true) (by exact congrArg Value.bool (decide_eq_true (h67))) (.int rfl rfl rfl)) rfl (.u (.pickT rfl rfl) (.a rfl (.nil (.focus (p := (sep [slR 75 2 (.slice (some ⟨ba, 0, none⟩) 1 1) 1 (acl31.flatMap acC), q])) (by repeat' constructor) (.unfold (q := [slR 75 2 (.slice (some ⟨ba, 0, none⟩) 1 1) 1 (acl31.flatMap acC), q]) (fun _ h => h) ?_)))))))))))))))))))))
 refine .then_n (.ret ?_)
 exact .vv
theorem st_rq {xs : List Sp13} {i : Nat} (hi : i < xs.length) : ((xs.flatMap spC).drop (i * 14 + 3)).take 10 = rqC xs[i].r := by
 have h := flatMap_at (f := spC) (sz := 14) (l := xs) (fun _ _ => rfl) hi
 have h2 : ((((xs.flatMap spC).drop (i * 14)).take 14).drop 3).take 10 = rqC xs[i].r := by rw [h]; rfl
 rw [List.drop_take, List.take_take, List.drop_drop] at h2
 exact h2
/-! ### Events have their entry's zxid -/
theorem part_ezx (τ : Tr) (x : Pt) (z : Int) : ∀ e ∈ (partZ τ x z).2, e.2.2 = z := by
 intro e he
 unfold partZ at he
 split at he
 ·unfold createZ at he
  split at he
  ·simp only [List.mem_cons, List.not_mem_nil, or_false] at he
   rcases he with rfl | rfl <;> rfl
  ·cases he
 split at he
 ·unfold eraseZ at he
  split at he
  ·dsimp only at he
   split at he
   ·rcases List.mem_cons.1 he with rfl | he
    ·rfl
    ·split at he
     ·rw [List.mem_singleton] at he; rw [he]
     ·cases he
   ·cases he
  ·cases he
 split at he
 ·simp only [List.mem_cons, List.not_mem_nil, or_false] at he
  rw [he]
 split at he
 ·cases he
 ·cases he
theorem parts_ezx (τ : Tr) (z : Int) (l : List Pt) : ∀ e ∈ (partsZ τ z l).2, e.2.2 = z := by
 unfold partsZ
 have H : ∀ (l : List Pt) (r : Tr × List Ev), (∀ e ∈ r.2, e.2.2 = z) → ∀ e ∈ (l.foldl (fun r x => ((partZ r.1 x z).1, r.2 ++ (partZ r.1 x z).2)) r).2, e.2.2 = z := by
  intro l
  induction l with
  | nil => intro r h; exact h
  | cons x l ih =>
   intro r h
   rw [List.foldl_cons]
   refine ih _ fun e he => ?_
   rcases List.mem_append.1 he with he | he
   ·exact h e he
   ·exact part_ezx _ _ _ e he
 exact H l (τ, []) fun e he => by cases he
theorem app_ezx (τ : Tr) (z : Int) (y : Pt) (ys : List Pt) : ∀ e ∈ (applyZ τ z y ys).2.1, e.2.2 = z := by
 intro e he
 unfold applyZ at he
 dsimp only at he
 split at he
 ·cases he
 split at he
 ·exact parts_ezx _ _ _ e he
 split at he
 ·exact parts_ezx _ _ _ e he
 split at he
 ·cases he
 ·exact part_ezx _ _ _ e he
/-! ### Counting -/
def evN (P : Bs) (l : List Ev) : Nat := (l.filter fun e => decide (e.2.1 = P)).length
def wtN (P : Bs) (ω : List Wt) : Nat := (ω.filter fun w => decide (w.1 = 1) && decide (w.2.2 = P)).length
def txN (P : Bs) (l : List Bs) : Nat := (l.filter fun p => decide (p = P)).length
def ones (l : List Tld) : List Ev := (l.filter fun x => decide (x.1 = 1)).map (·.2)
theorem ones_app (a b : List Tld) : ones (a ++ b) = ones a ++ ones b := by unfold ones; rw [List.filter_append, List.map_append]
theorem evN_app (P : Bs) (a b : List Ev) : evN P (a ++ b) = evN P a + evN P b := by unfold evN; rw [List.filter_append, List.length_append]
theorem txN_app (P : Bs) (a b : List Bs) : txN P (a ++ b) = txN P a + txN P b := by unfold txN; rw [List.filter_append, List.length_append]
theorem tellF_ones (f : Int → List Ev) : ∀ l : List Tld, tellF f l 1 = f 1 ++ ones l := by
 intro l
 unfold tellF
 have H : ∀ (l : List Tld) (f : Int → List Ev), (l.foldl (fun f x => setF f x.1 (f x.1 ++ [x.2])) f) 1 = f 1 ++ ones l := by
  intro l
  induction l with
  | nil => intro f; simp [ones]
  | cons x l ih =>
   intro f
   rw [List.foldl_cons, ih]
   unfold setF ones
   by_cases g : (1 : Int) = x.1
   ·rw [if_pos g, List.filter_cons, if_pos (by simp [← g]), List.map_cons, ← g]; simp
   ·rw [if_neg g, List.filter_cons, if_neg (by simp; exact fun h => g h.symm)]
 exact H l f
theorem ones_tell (ω : List Wt) (e : Ev) : ones ((tellW ω e.1 e.2.1).map fun i => (i, e)) = if (1 : Int) ∈ tellW ω e.1 e.2.1 then [e] else [] := by
 have key : ∀ l : List Int, l.Pairwise (· < ·) → ones (l.map fun i => (i, e)) = if (1 : Int) ∈ l then [e] else [] := by
  intro l
  induction l with
  | nil => intro _; rfl
  | cons a l ih =>
   intro h
   obtain ⟨h1, h2⟩ := List.pairwise_cons.1 h
   have := ih h2
   unfold ones at this ⊢
   rw [List.map_cons, List.filter_cons]
   by_cases g : a = 1
   ·subst g
    have hn : (1 : Int) ∉ l := fun hm => by have := h1 1 hm; omega
    rw [if_neg hn] at this
    rw [if_pos (by simp), List.map_cons, this, if_pos List.mem_cons_self]
   ·rw [if_neg (by simpa using g), this]
    by_cases k : (1 : Int) ∈ l
    ·rw [if_pos k, if_pos (List.mem_cons_of_mem _ k)]
    ·rw [if_neg k, if_neg (fun hm => (List.mem_cons.1 hm).elim (fun q => g q.symm) k)]
 exact key _ (tell_sorted _ _ _)
theorem wtN_left (P : Bs) (ω : List Wt) (k : Int) (p : Bs) : wtN P (leftW ω k p) + (if p = P ∧ (1 : Int) ∈ tellW ω k p then 1 else 0) ≤ wtN P ω := by
 have hs : (leftW ω k p).Sublist ω := List.filter_sublist
 have h1 : wtN P (leftW ω k p) ≤ wtN P ω := (hs.filter _).length_le
 split
 ·rename_i h
  obtain ⟨rfl, hm⟩ := h
  obtain ⟨w, hw, hmeet, hw1⟩ := tell_mem.1 hm
  have hp : w.2.2 = p := by
   unfold meetW at hmeet
   simp only [Bool.and_eq_true, decide_eq_true_eq] at hmeet
   exact hmeet.1
  have h2 : wtN p (leftW ω k p) + ((ω.filter fun w => decide (w.1 = 1) && decide (w.2.2 = p)).filter fun w => meetW k p w).length = wtN p ω := by
   unfold wtN leftW
   rw [List.filter_filter]
   have e : (ω.filter fun w => (decide (w.1 = 1) && decide (w.2.2 = p)) && !meetW k p w) = ((ω.filter fun w => decide (w.1 = 1) && decide (w.2.2 = p)).filter fun w => !meetW k p w) := by
    rw [List.filter_filter]
    apply List.filter_congr
    intro x _
    rw [Bool.and_comm]
   rw [e]
   have := filt_sum (fun w => meetW k p w) (ω.filter fun w => decide (w.1 = 1) && decide (w.2.2 = p))
   omega
  have h3 : 0 < ((ω.filter fun w => decide (w.1 = 1) && decide (w.2.2 = p)).filter fun w => meetW k p w).length :=
   List.length_pos_of_mem (List.mem_filter.2 ⟨List.mem_filter.2 ⟨hw, by simp [hw1, hp]⟩, hmeet⟩)
  omega
 ·omega
theorem fire_once (P : Bs) (ω : List Wt) (es : List Ev) : ∀ i, evN P (ones (fireTo ω es i).2) + wtN P (fireTo ω es i).1 ≤ wtN P ω
 | 0 => by simp [fireTo, ones, evN]
 | i + 1 => by
  have ih := fire_once P ω es i
  rw [fire_succ rfl]
  dsimp only
  rw [ones_app, evN_app, ones_tell]
  have h := wtN_left P (fireTo ω es i).1 (es.getD i (0, ([], 0))).1 (es.getD i (0, ([], 0))).2.1
  split
  ·rename_i g
   by_cases q : (es.getD i (0, ([], 0))).2.1 = P
   ·rw [if_pos ⟨q, g⟩] at h
    have : evN P [es.getD i (0, ([], 0))] = 1 := by unfold evN; simp only [List.filter_cons, List.filter_nil]; rw [if_pos (by simpa using q)]; rfl
    omega
   ·rw [if_neg (fun z => q z.1)] at h
    have : evN P [es.getD i (0, ([], 0))] = 0 := by unfold evN; simp only [List.filter_cons, List.filter_nil]; rw [if_neg (by simpa using q)]; rfl
    omega
  ·have : evN P ([] : List Ev) = 0 := rfl
   split at h <;> omega
theorem fire_ezx {ω : List Wt} {es : List Ev} {z : Int} (h : ∀ e ∈ es, e.2.2 = z) : ∀ i, i ≤ es.length → ∀ x ∈ (fireTo ω es i).2, x.2.2.2 = z
 | 0, _, x, hx => by cases hx
 | i + 1, hi, x, hx => by
  rw [fire_succ rfl] at hx
  rcases List.mem_append.1 hx with hx | hx
  ·exact fire_ezx h i (by omega) x hx
  ·obtain ⟨j, -, rfl⟩ := List.mem_map.1 hx
   show (es.getD i (0, ([], 0))).2.2 = z
   rw [List.getD_eq_getElem?_getD, List.getElem?_eq_getElem (by omega)]
   exact h _ (List.getElem_mem (by omega))
/-! ### What stays so -/
structure OnceA (π : Pl) (laid : List Bs) (told : List Ev) : Prop where
 cnt : ∀ P, evN P told + wtN P π.ω ≤ txN P laid
 zx : ∀ e ∈ told, e.2.2 < zxN π
 srt : told.Pairwise fun a b => a.2.2 ≤ b.2.2
 ev : π.ev 1 = []
def lay13 (s : Int) (r : Rq) (err : Int) : Bool := decide (s = 1) && r.watch && (decide (err = 0) || decide (err = 60))
theorem laid_err {r : Rq} {e : Int} (h : laidZ r e ≠ 0) : r.watch = true ∧ (e = 0 ∨ e = 60) := by
 refine ⟨laid_watch h, ?_⟩
 unfold laidZ at h
 split at h
 ·exact absurd rfl h
 split at h
 ·rename_i g; exact .inr g.2
 split at h
 ·exact absurd rfl h
 ·rename_i g; exact .inl (by simpa using g)
theorem add_wtN (P : Bs) (ω : List Wt) (s k : Int) (p : Bs) : wtN P (addW ω s k p).1 ≤ wtN P ω + (if s = 1 ∧ p = P ∧ (addW ω s k p).2 = 0 then 1 else 0) := by
 rcases add_cases ω s k p with h | h | h | ⟨-, -, -, h⟩
 ·rw [h]; exact Nat.le_add_right _ _
 ·rw [h]; exact Nat.le_add_right _ _
 ·rw [h]; exact Nat.le_add_right _ _
 ·rw [h]
  dsimp only
  unfold wtN
  rw [List.filter_append, List.length_append]
  by_cases g : s = 1 ∧ p = P
  ·rw [if_pos ⟨g.1, g.2, rfl⟩]
   exact Nat.add_le_add_left (List.length_filter_le _ _) _
  ·rw [List.filter_cons, if_neg (by simpa using g)]
   exact Nat.le_add_right _ _
theorem all_le {z : Int} : ∀ {l : List Ev}, (∀ e ∈ l, e.2.2 = z) → l.Pairwise fun a b => a.2.2 ≤ b.2.2
 | [], _ => List.Pairwise.nil
 | a :: l, h => List.pairwise_cons.2 ⟨fun b hb => by rw [h a List.mem_cons_self, h b (List.mem_cons_of_mem _ hb)]; exact Int.le_refl _, all_le fun e he => h e (List.mem_cons_of_mem _ he)⟩
theorem read_not14 {π : Pl} {s : Int} {r : Rq} {l : List Arm} (h : r.kind ≠ 14) : readP π s r l = authP π s r ∨ readP π s r l = (π, 0) ∨ readP π s r l = seeP π s r := by
 unfold readP
 by_cases h1 : r.kind = 13
 ·rw [if_pos h1]; exact .inl rfl
 ·rw [if_neg h1, if_neg h]
  by_cases h2 : r.kind = 15
  ·rw [if_pos h2]; exact .inr (.inl rfl)
  ·rw [if_neg h2]; exact .inr (.inr rfl)
theorem auth_keeps (π : Pl) (s : Int) (r : Rq) : (authP π s r).1.ω = π.ω ∧ (authP π s r).1.ev = π.ev := by
 unfold authP
 split
 ·exact ⟨rfl, rfl⟩
 split
 ·exact ⟨rfl, rfl⟩
 split <;> exact ⟨rfl, rfl⟩
theorem see_ev (π : Pl) (s : Int) (r : Rq) : (seeP π s r).1.ev = π.ev := by
 unfold seeP
 split <;> rfl
theorem OnceA.step {π π' : Pl} {laid : List Bs} {told : List Ev} (h : OnceA π laid told) {s : Int} {r : Rq} {subs : List Rq} {l : List Arm} {x : Rp} {kids : List Bs} {e : Int} (hC : CallZ π s r subs l π' x kids e) (hs : sesT π.τ s) (h8 : r.kind ≠ 8) (h14 : r.kind ≠ 14) :
  OnceA (evsP π' 1) (if lay13 s r x.err = true then laid ++ [r.path] else laid) (told ++ π'.ev 1) := by
 have more : ∀ P, txN P laid ≤ txN P (if lay13 s r x.err = true then laid ++ [r.path] else laid) := fun P => by
  split
  ·rw [txN_app]; omega
  ·omega
 by_cases hk : changesK r.kind = true
 ·obtain ⟨-, -, y, ys, hy, -, -, -, -, rfl, -⟩ := hC.chg hs hk
  have h6 : ¬ y.kind = 6 := fun g => by
   have hkk : y.kind = (txnP π.τ ⟨s, π.ids s⟩ r subs).1.kind := by have := congrArg Pt.kind hy; exact this
   exact h8 (txn_six (hkk.symm.trans g))
  have hev : (putP π s r.xid y ys).ev 1 = ones (fireL π.ω (applyZ π.τ (zxN π) y ys).2.1).2 := by
   show (if y.kind = 6 then _ else tellF π.ev (fireL π.ω (applyZ π.τ (zxN π) y ys).2.1).2) 1 = _
   rw [if_neg h6, tellF_ones, h.ev]; rfl
  have hω : (putP π s r.xid y ys).ω = (fireL π.ω (applyZ π.τ (zxN π) y ys).2.1).1 := if_neg h6
  have hz : zxN (putP π s r.xid y ys) = zxN π + 1 := by
   unfold zxN
   show 4294967296 + (((π.ord ++ [_]).length : Nat) : Int) + 1 = _
   rw [List.length_append, List.length_singleton]; omega
  have hez : ∀ e ∈ (putP π s r.xid y ys).ev 1, e.2.2 = zxN π := fun e he => by
   rw [hev] at he
   unfold ones at he
   obtain ⟨t, ht, rfl⟩ := List.mem_map.1 he
   exact fire_ezx (app_ezx _ _ _ _) _ (Nat.le_refl _) t (List.mem_filter.1 ht).1
  refine ⟨fun P => ?_, fun e he => ?_, ?_, ?_⟩
  ·rw [evN_app, hev]
   show _ + wtN P (putP π s r.xid y ys).ω ≤ _
   rw [hω]
   have h1 := h.cnt P
   have h2 : evN P (ones (fireL π.ω (applyZ π.τ (zxN π) y ys).2.1).2) + wtN P (fireL π.ω (applyZ π.τ (zxN π) y ys).2.1).1 ≤ wtN P π.ω := fire_once P π.ω (applyZ π.τ (zxN π) y ys).2.1 (applyZ π.τ (zxN π) y ys).2.1.length
   have h3 := more P
   omega
  ·show e.2.2 < zxN (putP π s r.xid y ys)
   rw [hz]
   rcases List.mem_append.1 he with he | he
   ·have := h.zx e he; omega
   ·have := hez e he; omega
  ·refine List.pairwise_append.2 ⟨h.srt, ?_, fun a ha b hb => ?_⟩
   ·exact all_le hez
   ·have h1 := h.zx a ha
    have h2 := hez b hb
    omega
  ·show setF (putP π s r.xid y ys).ev 1 [] 1 = []
   exact if_pos rfl
 ·obtain ⟨-, rfl, x0, hR, hx⟩ := hC.rd hs hk
  have hxe : x.err = (readP π s r l).2 := by rw [hx]; exact hR.err
  have hev : (readP π s r l).1.ev = π.ev := by
   rcases read_not14 (π := π) (s := s) (l := l) h14 with g | g | g <;> rw [g]
   ·exact (auth_keeps π s r).2
   ·exact see_ev π s r
  have hzx : zxN (readP π s r l).1 = zxN π := by unfold zxN; rw [(read_tree π s r l).2]
  rw [hev, h.ev, List.append_nil]
  refine ⟨fun P => ?_, fun e he => ?_, h.srt, ?_⟩
  ·have h1 := h.cnt P
   have h3 := more P
   show evN P told + wtN P (readP π s r l).1.ω ≤ _
   rcases read_not14 (π := π) (s := s) (l := l) h14 with g | g | g
   ·rw [g, (auth_keeps π s r).1]; omega
   ·rw [g]
    show evN P told + wtN P π.ω ≤ _
    omega
   ·rw [g] at hxe ⊢
    by_cases q : laidZ r (readX π.τ (π.ids s) r) = 0
    ·have e1 : seeP π s r = (π, readX π.τ (π.ids s) r) := if_pos q
     rw [e1]
     show evN P told + wtN P π.ω ≤ _
     omega
    ·have e1 : (seeP π s r).1.ω = (addW π.ω s (laidZ r (readX π.τ (π.ids s) r)) r.path).1 := by unfold seeP; rw [if_neg q]
     have e2 : (seeP π s r).2 = if (addW π.ω s (laidZ r (readX π.τ (π.ids s) r)) r.path).2 ≠ 0 then (addW π.ω s (laidZ r (readX π.τ (π.ids s) r)) r.path).2 else readX π.τ (π.ids s) r := by unfold seeP; rw [if_neg q]
     obtain ⟨hw, he⟩ := laid_err q
     have ha := add_wtN P π.ω s (laidZ r (readX π.τ (π.ids s) r)) r.path
     rw [e1]
     by_cases z : s = 1 ∧ r.path = P ∧ (addW π.ω s (laidZ r (readX π.τ (π.ids s) r)) r.path).2 = 0
     ·rw [if_pos z] at ha
      have hl : lay13 s r x.err = true := by
       unfold lay13
       rw [hxe, e2, if_neg (by rw [z.2.2]; simp), hw]
       rcases he with e | e <;> rw [e, z.1] <;> decide
      rw [if_pos hl, txN_app]
      have : txN P [r.path] = 1 := by unfold txN; rw [List.filter_cons, if_pos (by simpa using z.2.1)]; rfl
      omega
     ·rw [if_neg z] at ha
      omega
  ·show e.2.2 < zxN (readP π s r l).1
   rw [hzx]; exact h.zx e he
  ·show setF (readP π s r l).1.ev 1 [] 1 = []
   exact if_pos rfl
/-! ### Two sessions -/
def cap13 (i : Nat) : Nat := i * 13824425984
theorem cap13_succ (i : Nat) : cap13 (i + 1) = cap13 i + 13824425984 := by unfold cap13; omega
theorem cap13_le {i : Nat} (h : i ≤ 200) : cap13 i ≤ 2764885196800 := by unfold cap13; omega
def two13 (t : Int) : Pl := (opnP (opnP newPl t).1 t).1
theorem two13_ses (t : Int) : (two13 t).τ.sess = [(1, (min (max t 4) 60, [])), (2, (min (max t 4) 60, []))] := rfl
theorem two13_B (t : Int) : PlB (two13 t) 2 := (newPl_B.opn (by decide) t).opn (by decide) t
theorem two13_s (t : Int) : sesT (two13 t).τ 1 ∧ sesT (two13 t).τ 2 := by
 unfold sesT
 rw [two13_ses]
 exact ⟨rfl, rfl⟩
theorem two13_O (t : Int) : OnceA (two13 t) [] [] := ⟨fun _ => Nat.le_refl _, (fun _ h => by cases h), List.Pairwise.nil, rfl⟩
theorem evN_at {P : Bs} {l : List Ev} {i : Nat} (hi : i < l.length) : (evN P (l.take (i + 1)) : Int) = (evN P (l.take i) : Int) + if l[i].2.1 = P then 1 else 0 := by
 rw [List.take_succ_eq_append_getElem hi, evN_app]
 have : evN P [l[i]] = if l[i].2.1 = P then 1 else 0 := by
  unfold evN
  rw [List.filter_cons]
  by_cases g : l[i].2.1 = P
  ·rw [if_pos (by simpa using g), if_pos g]; rfl
  ·rw [if_neg (by simpa using g), if_neg g]; rfl
 rw [this]
 split <;> simp
theorem txN_at {P : Bs} {l : List Bs} {i : Nat} (hi : i < l.length) : (txN P (l.take (i + 1)) : Int) = (txN P (l.take i) : Int) + if l[i] = P then 1 else 0 := by
 rw [List.take_succ_eq_append_getElem hi, txN_app]
 have : txN P [l[i]] = if l[i] = P then 1 else 0 := by
  unfold txN
  rw [List.filter_cons]
  by_cases g : l[i] = P
  ·rw [if_pos (by simpa using g), if_pos g]; rfl
  ·rw [if_neg (by simpa using g), if_neg g]; rfl
 rw [this]
 split <;> simp
theorem evN_le (P : Bs) (l : List Ev) : evN P l ≤ l.length := List.length_filter_le _ _
theorem txN_le (P : Bs) (l : List Bs) : txN P l ≤ l.length := List.length_filter_le _ _
theorem plainOnce13_spec (ax : Option Addr) (cx : Nat) (xs : List Sp13) (q : HP) (hT : TabP q) (hZ : TzP q) (hS : StA q (.slice ax xs.length cx) xs) : Fn Tryz.prog 4 #[.slice ax xs.length cx] [q] fun v L => v = .bool true ∧ L = [q] := by
 refine Fn.intro Tryz.func4 rfl rfl fun F W => ?_
 have hBw := two13_B 10
 have hsw := two13_s 10
 refine .sr (.an rfl (.sr (.cv Tryz.func7 [] (awake13_spec q hT hZ) ?_)))
 refine .an rfl (.sr (.oq (.c Tryz.func8 [] (plnew_spec)) ?_))
 rintro v L' ⟨b, k, rfl, rfl⟩
 refine .an rfl (.seq (.sm rfl (.u (.not rfl) (.m rfl (.grun (t := 24) rfl rfl rfl (.m rfl (.grun (t := 24) rfl rfl rfl (.q (.ptreq rfl rfl Tryz.underlying25) rfl (.u (.pickF rfl rfl) (.nt (.condF rfl (.sk (.sm rfl (.cv Tryz.func9 [_, _] (plopen_spec b k newPl 10 0 newPl_B (by decide)) ?_))))))))))))))
 refine .m rfl (.q (.as (v' := vint 1) (by rfl) (.extract rfl rfl)) rfl (.q (.as (v' := vint 0) (by rfl) (.extract rfl rfl)) rfl (.a rfl (.an rfl (.sm rfl (.cv Tryz.func9 [_, _] (plopen_spec b k (opnP newPl 10).1 10 1 aw13_B (by decide)) ?_))))))
 refine .m rfl (.q (.as (v' := vint 2) (by rfl) (.extract rfl rfl)) rfl (.q (.as (v' := vint 0) (by rfl) (.extract rfl rfl)) rfl (.a rfl (.an rfl (.sr (.an rfl (.sr (.an rfl (.seq (.seq (.add (slR_nil 9 1) (.add (slR_nil 50 3) (.region (.an rfl (.block (.loopK (ι := Nat × Pl × Value × (List Bs) × Value × (List Ev)) (fun q E => (11, vint q.1) :: (9, q.2.2.1) :: (10, q.2.2.2.2.1) :: E) (fun q => [plR b k q.2.1, slR 9 1 q.2.2.1 q.2.2.2.1.length (strs q.2.2.2.1), slR 50 3 q.2.2.2.2.1 q.2.2.2.2.2.length (q.2.2.2.2.2.flatMap evC)]) (fun q => q.1 ≤ 200 ∧ q.1 ≤ xs.length ∧ PlB q.2.1 (q.1 + 2) ∧ sesT q.2.1.τ 1 ∧ sesT q.2.1.τ 2 ∧ OnceA q.2.1 q.2.2.2.1 q.2.2.2.2.2 ∧ q.2.2.2.1.length ≤ q.1 ∧ q.2.2.2.2.2.length ≤ cap13 q.1 ∧ (∃ a c, q.2.2.1 = .slice a q.2.2.2.1.length c) ∧ ∃ a c, q.2.2.2.2.1 = .slice a q.2.2.2.2.2.length c) (fun q => 200 - q.1) (0, two13 10, .slice none 0 0, [], .slice none 0 0, []) (ts := [0, 4, 5, 7]) (.cons rfl (.cons rfl (.cons rfl (.cons rfl (.nil))))) (⟨by decide, Nat.zero_le _, hBw, hsw.1, hsw.2, two13_O 10, Nat.zero_le _, Nat.zero_le _, ⟨none, 0, rfl⟩, none, 0, rfl⟩) ⟨rfl, rfl, rfl, rfl, rfl, rfl, rfl, trivial⟩ (by repeat' constructor) ?_))))))))))))))))
 rintro ⟨i, π, lv, laid, tv, told⟩ ⟨hi, hix, hB, hs1, hs2, hO, hll, htl, ⟨al, cl, hlv⟩, at1, ct, htv⟩
 dsimp only
 dsimp only at hi hix hB hs1 hs2 hO hll htl hlv htv
 subst hlv
 subst htv
 refine .seq (.sm rfl (.m rfl (.q (.slen rfl Tryz.underlying22 rfl) rfl (.ui rfl rfl rfl (.m rfl (.dec (t := 42) rfl (fun h10_42 => ?_) (fun h10_42 => ?_)))))))
 ·refine .kDT (t := 41) rfl h10_42 (.grun (t := 42) rfl rfl rfl (.m rfl (.grun (t := 42) rfl rfl rfl (.ui rfl rfl rfl (.u (.pickT rfl rfl) (.nt (.condD rfl (fun h45 => ?_) (fun h45 => ?_))))))))
  ·have hi2 : i < xs.length := by omega
   have hi20 : i < 200 := by omega
   refine .rdShape (p := q) hS.cells (by repeat' constructor) (by omega) fun bx ox e => ?_
   subst e
   have hAx := hS.each _ (List.getElem_mem hi2)
   have hnx := hS.nums _ (List.getElem_mem hi2)
   refine .sk (.seq (.block (.sm rfl (.m rfl (.q (.indexAddr rfl rfl el_22 (by omega)) rfl (.u (.fieldAddr rfl fo_35_3) (.q (.loadRdA (sz := 14) (j := i * 14 + 3) (k := 10) (p := q) (vs := rqC xs[i].r) rfl ag_33 (by repeat' constructor) hS.cells (by omega) (by omega) (by omega) (st_rq hi2)) rfl (.oq (.allocA ze_33) ?_))))))))
   rintro v L' ⟨b12, rfl, rfl⟩
   refine .sa rfl rfl sz_33 (by exact (hAx 1 ⟨by decide, by decide⟩).rqc) ?_
   refine .nil (.pc b12 (rqC xs[i].r) ?_)
   refine .then_n (.sm rfl (.an rfl (.seq (.joinK (ι := Int) (fun q E => (13, vint q) :: E) (fun q => []) (fun q => q = 1 ∨ q = 2) (pre := []) (ts := [0, 4, 5, 7, 9, 10, 11, 12, 38, 39, 40, 41, 42, 43, 44, 45, 48, 49, 50, 51, 52, 53]) (.cons rfl (.cons rfl (.cons rfl (.cons rfl (.cons rfl (.cons rfl (.cons rfl (.cons rfl (.cons rfl (.cons rfl (.cons rfl (.cons rfl (.cons rfl (.cons rfl (.cons rfl (.cons rfl (.cons rfl (.cons rfl (.cons rfl (.cons rfl (.cons rfl (.cons rfl (.nil))))))))))))))))))))))) (by repeat' constructor) ?_ ?_))))
   ·refine .sm rfl (.m rfl (.q (.indexAddr rfl rfl el_22 (by omega)) rfl (.u (.fieldAddr rfl fo_35_1) (.q (.loadRd (sz := 14) (j := i * 14 + 1) (p := q) (v := vint xs[i].ses) rfl ag_3 (by repeat' constructor) hS.cells (by omega) ((flatMap_cell (f := spC) (sz := 14) (l := xs) (i := i) (k := 1) (fun _ _ => rfl) (by omega) (by decide)).trans rfl)) rfl (.cv Tryz.func11 [_, _] (pick13_spec xs[i].ses 2 hnx.2.1 (by decide)) ?_)))))
    refine .ui rfl rfl rfl (.nt (.condD rfl (fun h60 => ?_) (fun h60 => ?_)))
    ·refine .region (.m rfl (.an rfl ?_))
     exact .mk (2) (.inr rfl) ⟨rfl, rfl, rfl, rfl, rfl, rfl, rfl, rfl, rfl, rfl, rfl, rfl, rfl, rfl, rfl, rfl, rfl, rfl, rfl, rfl, rfl, rfl, rfl, trivial⟩
    refine .sk ?_
    exact .mk (1) (.inl rfl) ⟨rfl, rfl, rfl, rfl, rfl, rfl, rfl, rfl, rfl, rfl, rfl, rfl, rfl, rfl, rfl, rfl, rfl, rfl, rfl, rfl, rfl, rfl, rfl, trivial⟩
   rintro s hs12
   have hs64 : I64 s := ⟨by omega, by omega⟩
   have hA := hAx s hs64
   have hss : sesT π.τ s := by rcases hs12 with e | e <;> (rw [e]; assumption)
   refine .seq (.sr (.u (.fieldAddr rfl fo_33_0) (.u (.ld rfl ag_3) (.ui rfl rfl rfl (.m rfl (.dec (t := 65) rfl (fun h16_65 => ?_) (fun h16_65 => ?_)))))))
   ·refine .kDT (t := 64) rfl h16_65 (.gk (.gk (.gk (.u (.pickT rfl rfl) (.nt (.condT rfl (.exit (.then_e (.blk_e (.then_n (.region (.m rfl (.q (.add rfl rfl (by omega)) rfl (.an rfl ?_))))))))))))))
    exact .rk ((i + 1, π, .slice al laid.length cl, laid, .slice at1 told.length ct, told)) (⟨by dsimp only; omega, by dsimp only; omega, hB.more (by omega), hs1, hs2, hO, by dsimp only; omega, by dsimp only; rw [cap13_succ]; omega, ⟨al, cl, rfl⟩, at1, ct, rfl⟩) (by dsimp only; omega) ⟨rfl, rfl, rfl, rfl, rfl, rfl, rfl, trivial⟩
   refine .kDF (t := 64) rfl h16_65 (.grun (t := 65) rfl rfl rfl (.u (.fieldAddr rfl fo_33_0) (.grun (t := 65) rfl rfl rfl (.u (.ld rfl ag_3) (.grun (t := 65) rfl rfl rfl (.ui rfl rfl rfl (.u (.pickF rfl rfl) (.nt (.condD rfl (fun h69 => ?_) (fun h69 => ?_))))))))))
   ·refine .exit (.then_e (.blk_e (.then_n (.region (.m rfl (.q (.add rfl rfl (by omega)) rfl (.an rfl ?_)))))))
    exact .rk ((i + 1, π, .slice al laid.length cl, laid, .slice at1 told.length ct, told)) (⟨by dsimp only; omega, by dsimp only; omega, hB.more (by omega), hs1, hs2, hO, by dsimp only; omega, by dsimp only; rw [cap13_succ]; omega, ⟨al, cl, rfl⟩, at1, ct, rfl⟩) (by dsimp only; omega) ⟨rfl, rfl, rfl, rfl, rfl, rfl, rfl, trivial⟩
   have h8 : xs[i].r.kind ≠ 8 := by first | assumption | omega
   have h14 : xs[i].r.kind ≠ 14 := by first | assumption | omega
   refine .sk (.sm rfl (.m rfl (.q (.la (rqC xs[i].r) rfl ag_33) rfl (.oq (.call Tryz.func10 rfl rfl (vs := [_, _, _]) rfl (plcall_spec b k π s xs[i].r xs[i].subs xs[i].arm q hA (fun _ => by omega) (i + 2) hB (by omega))) ?_))))
   rintro v L' ⟨π2, x, kids, e, hC, rfl, rfl⟩
   refine .m rfl (.u (.extract rfl rfl) (.u (.extract rfl rfl) (.oq (.allocA ze_41) ?_)))
   rintro v L' ⟨b14, rfl, rfl⟩
   refine .sa rfl rfl sz_41 (by exact hC.cells) ?_
   refine .a rfl (.nil (.pc b14 (rpC x) ?_))
   have he := hC.ok hss
   have hB2 := hB.call (by omega) (fun _ => by omega) hA hC
   refine .then_n (.seq (.sm rfl (.q (.as (v' := .bool false) (by simp [he]) (.int rfl rfl rfl)) rfl (.nt (.condF rfl (.sk (.seq (.joinK (ι := Value × (List Bs)) (fun q E => (9, q.1) :: E) (fun q => [slR 9 1 q.1 q.2.length (strs q.2)]) (fun q => q.2 = (if (lay13 s xs[i].r x.err) = true then laid ++ [xs[i].r.path] else laid) ∧ ∃ a c, q.1 = .slice a q.2.length c) (pre := [slR 9 1 (.slice al laid.length cl) laid.length (strs laid)]) (ts := [0, 4, 5, 7, 10, 11, 12, 13, 14, 15, 38, 39, 40, 41, 42, 43, 44, 45, 48, 49, 50, 51, 52, 53, 62, 63, 64, 65, 66, 67, 68, 69, 70, 71, 72, 73, 74, 75, 76, 77, 78]) (.cons rfl (.cons rfl (.cons rfl (.cons rfl (.cons rfl (.cons rfl (.cons rfl (.cons rfl (.cons rfl (.cons rfl (.cons rfl (.cons rfl (.cons rfl (.cons rfl (.cons rfl (.cons rfl (.cons rfl (.cons rfl (.cons rfl (.cons rfl (.cons rfl (.cons rfl (.cons rfl (.cons rfl (.cons rfl (.cons rfl (.cons rfl (.cons rfl (.cons rfl (.cons rfl (.cons rfl (.cons rfl (.cons rfl (.cons rfl (.cons rfl (.cons rfl (.cons rfl (.cons rfl (.cons rfl (.cons rfl (.cons rfl (.nil)))))))))))))))))))))))))))))))))))))))))) (by repeat' constructor) ?_ ?_))))))))
   ·refine .sm rfl (.m rfl (.ui rfl rfl rfl (.m rfl (.dec (t := 82) rfl (fun h20_82 => ?_) (fun h20_82 => ?_)))))
    ·refine .kDT (t := 81) rfl h20_82 (.grun (t := 82) rfl rfl rfl (.u (.fieldAddr rfl fo_33_7) (.grun (t := 82) rfl rfl rfl (.u (.ld rfl ag_4) (.u (.pickT rfl rfl) (.m rfl (.bool (t := 86) rfl (fun h20_86 => ?_) (fun h20_86 => ?_))))))))
     ·refine .kB (t := 84) rfl h20_86 (.kB (t := 85) rfl h20_86 (.grun (t := 86) rfl rfl rfl (.u (.fieldAddr rfl fo_41_2) (.grun (t := 86) rfl rfl rfl (.u (.ld rfl ag_27) (.grun (t := 86) rfl rfl rfl (.ui rfl rfl rfl (.grun (t := 86) rfl rfl rfl (.m rfl (.dec (t := 90) rfl (fun h20_90 => ?_) (fun h20_90 => ?_)))))))))))
      ·refine .kDT (t := 89) rfl h20_90 (.gk (.gk (.gk (.grun (t := 86) rfl rfl rfl (.u (.pickT rfl rfl) (.u (.pickT rfl rfl) (.nt (.condT rfl (.region (.m rfl (.u (.fieldAddr rfl fo_33_2) (.u (.ld rfl ag_9) (.oq (.buildSlice1 (vs := [_]) el_38 ze_9 rfl rfl rfl rfl rfl (by decide)) ?_)))))))))))))
       rintro v L' ⟨bl, rfl, rfl⟩
       refine .oq (.append1 rfl rfl rfl el_38 ze_9 rfl rfl ?c87 ?c88 (Nat.le_refl _) ?c89 (by decide)) ?_
       case c87 => simp [Value.cells, isCell]
       case c88 => rfl
       case c89 => omega
       rintro v L' ⟨⟨a21, c21, rfl⟩, rfl⟩
       refine .an rfl (.slCast (T := 9) (sz := 1) (m' := (laid ++ [xs[i].r.path]).length) (xs' := strs (laid ++ [xs[i].r.path])) (by repeat' constructor) (by rw [List.length_append]; rfl) (by simp [strs, Value.cells]) ?_)
       rw [show laid.length + 1 = (laid ++ [xs[i].r.path]).length from by rw [List.length_append]; rfl]
       exact .mk ((.slice a21 (laid ++ [xs[i].r.path]).length c21, (laid ++ [xs[i].r.path]))) (⟨(if_pos (by unfold lay13; rw [decide_eq_true h20_82, h20_86, h20_90]; rfl)).symm, a21, c21, rfl⟩) ⟨rfl, rfl, rfl, rfl, rfl, rfl, rfl, rfl, rfl, rfl, rfl, rfl, rfl, rfl, rfl, rfl, rfl, rfl, rfl, rfl, rfl, rfl, rfl, rfl, rfl, rfl, rfl, rfl, rfl, rfl, rfl, rfl, rfl, rfl, rfl, rfl, rfl, rfl, rfl, rfl, rfl, rfl, trivial⟩
      refine .kDF (t := 89) rfl h20_90 (.grun (t := 90) rfl rfl rfl (.u (.fieldAddr rfl fo_41_2) (.grun (t := 90) rfl rfl rfl (.u (.ld rfl ag_27) (.grun (t := 90) rfl rfl rfl (.ui rfl rfl rfl (.grun (t := 86) rfl rfl rfl (.u (.pickF rfl rfl) (.u (.pickT rfl rfl) (.nt (.condD rfl (fun h95 => ?_) (fun h95 => ?_))))))))))))
      ·refine .region (.m rfl (.u (.fieldAddr rfl fo_33_2) (.u (.ld rfl ag_9) (.oq (.buildSlice1 (vs := [_]) el_38 ze_9 rfl rfl rfl rfl rfl (by decide)) ?_))))
       rintro v L' ⟨bl, rfl, rfl⟩
       refine .oq (.append1 rfl rfl rfl el_38 ze_9 rfl rfl ?c100 ?c101 (Nat.le_refl _) ?c102 (by decide)) ?_
       case c100 => simp [Value.cells, isCell]
       case c101 => rfl
       case c102 => omega
       rintro v L' ⟨⟨a21, c21, rfl⟩, rfl⟩
       refine .an rfl (.slCast (T := 9) (sz := 1) (m' := (laid ++ [xs[i].r.path]).length) (xs' := strs (laid ++ [xs[i].r.path])) (by repeat' constructor) (by rw [List.length_append]; rfl) (by simp [strs, Value.cells]) ?_)
       rw [show laid.length + 1 = (laid ++ [xs[i].r.path]).length from by rw [List.length_append]; rfl]
       exact .mk ((.slice a21 (laid ++ [xs[i].r.path]).length c21, (laid ++ [xs[i].r.path]))) (⟨(if_pos (by unfold lay13; rw [decide_eq_true h20_82, h20_86, h95]; rfl)).symm, a21, c21, rfl⟩) ⟨rfl, rfl, rfl, rfl, rfl, rfl, rfl, rfl, rfl, rfl, rfl, rfl, rfl, rfl, rfl, rfl, rfl, rfl, rfl, rfl, rfl, rfl, rfl, rfl, rfl, rfl, rfl, rfl, rfl, rfl, rfl, rfl, rfl, rfl, rfl, rfl, rfl, rfl, rfl, rfl, rfl, rfl, trivial⟩
      refine .sk ?_
      exact .mk ((.slice al laid.length cl, laid)) (⟨(if_neg (by unfold lay13; rw [decide_eq_false h20_90, decide_eq_false h95]; simp)).symm, al, cl, rfl⟩) ⟨rfl, rfl, rfl, rfl, rfl, rfl, rfl, rfl, rfl, rfl, rfl, rfl, rfl, rfl, rfl, rfl, rfl, rfl, rfl, rfl, rfl, rfl, rfl, rfl, rfl, rfl, rfl, rfl, rfl, rfl, rfl, rfl, rfl, rfl, rfl, rfl, rfl, rfl, rfl, rfl, rfl, rfl, trivial⟩
     refine .kB (t := 84) rfl h20_86 (.kB (t := 85) rfl h20_86 (.gk (.gk (.gk (.gk (.gskipU (t := 90) rfl rfl rfl (.gskipU (t := 90) rfl rfl rfl (.gskipU (t := 90) rfl rfl rfl (.gk (.u (.pickF rfl rfl) (.nt (.condF rfl (.sk ?_)))))))))))))
     exact .mk ((.slice al laid.length cl, laid)) (⟨(if_neg (by unfold lay13; rw [h20_86]; simp)).symm, al, cl, rfl⟩) ⟨rfl, rfl, rfl, rfl, rfl, rfl, rfl, rfl, rfl, rfl, rfl, rfl, rfl, rfl, rfl, rfl, rfl, rfl, rfl, rfl, rfl, rfl, rfl, rfl, rfl, rfl, rfl, rfl, rfl, rfl, rfl, rfl, rfl, rfl, rfl, rfl, rfl, rfl, rfl, rfl, rfl, rfl, trivial⟩
    refine .kDF (t := 81) rfl h20_82 (.gk (.gk (.u (.pickF rfl rfl) (.m rfl (.gk (.gk (.gk (.gk (.gskipU (t := 90) rfl rfl rfl (.gskipU (t := 90) rfl rfl rfl (.gskipU (t := 90) rfl rfl rfl (.gk (.u (.pickF rfl rfl) (.nt (.condF rfl (.sk ?_))))))))))))))))
    exact .mk ((.slice al laid.length cl, laid)) (⟨(if_neg (by unfold lay13; rw [decide_eq_false h20_82]; simp)).symm, al, cl, rfl⟩) ⟨rfl, rfl, rfl, rfl, rfl, rfl, rfl, rfl, rfl, rfl, rfl, rfl, rfl, rfl, rfl, rfl, rfl, rfl, rfl, rfl, rfl, rfl, rfl, rfl, rfl, rfl, rfl, rfl, rfl, rfl, rfl, rfl, rfl, rfl, rfl, rfl, rfl, rfl, rfl, rfl, rfl, rfl, trivial⟩
   rintro ⟨lv2, laid2⟩ ⟨hl2, a9, c9, hlv2⟩
   dsimp only
   dsimp only at hl2 hlv2
   subst hlv2
   refine .region (.m rfl (.m rfl (.m rfl (.oq (.c Tryz.func13 [_, _] (plev_spec b k π2 1)) ?_))))
   rintro v L' ⟨av, cv, rfl, rfl⟩
   refine .oq (.append (n := told.length) (m := (π2.ev 1).length) (ys := (π2.ev 1).flatMap evC) (p := slR 50 3 (.slice av (π2.ev 1).length cv) (π2.ev 1).length ((π2.ev 1).flatMap evC)) rfl rfl rfl el_47 (.inl ⟨_, Tryz.underlying47⟩) ze_50 rfl rfl ?hc113 (fun h hp => slR_rd hp) ?hb114 (by decide)) ?_
   case hc113 => intro y hy; obtain ⟨z, _, hz⟩ := List.mem_flatMap.1 hy; simp only [evC, List.mem_cons, List.not_mem_nil, or_false] at hz; rcases hz with rfl | rfl | rfl <;> rfl
   case hb114 => have h1 := hB2.ev 1; have h2 := cap13_le hi; have h3 : (i + 2 + 1) * 67108864 ≤ 203 * 67108864 := Nat.mul_le_mul_right _ (by omega); omega
   rintro v L' ⟨⟨a22, c22, rfl⟩, rfl⟩
   refine .a rfl (.nil (.blk_n (.then_n (.region (.m rfl (.q (.add rfl rfl (by omega)) rfl (.an rfl (.slCast (T := 50) (sz := 3) (m' := (told ++ (π2.ev 1)).length) (xs' := (told ++ (π2.ev 1)).flatMap evC) (by repeat' constructor) (by rw [List.length_append]) (by rw [List.flatMap_append]) ?_))))))))
   have hst := hO.step hC hss h8 h14
   rw [← hl2] at hst
   have hl2n : laid2.length ≤ laid.length + 1 := by rw [hl2]; split <;> simp
   have hev2 := hB2.ev 1
   have hev3 : (i + 2 + 1) * 67108864 ≤ 203 * 67108864 := Nat.mul_le_mul_right _ (by omega)
   rw [show told.length + (π2.ev 1).length = (told ++ (π2.ev 1)).length from by rw [List.length_append]]
   exact .rk ((i + 1, evsP π2 1, .slice a9 laid2.length c9, laid2, .slice a22 (told ++ (π2.ev 1)).length c22, told ++ (π2.ev 1))) (⟨by dsimp only; omega, by dsimp only; omega, (hB2.evs 1).more (by omega), hC.ses h8 hs1, hC.ses h8 hs2, hst, by dsimp only; omega, by dsimp only; rw [List.length_append, cap13_succ]; omega, ⟨_, _, rfl⟩, a22, c22, rfl⟩) (by dsimp only; omega) ⟨rfl, rfl, rfl, rfl, rfl, rfl, rfl, trivial⟩
  refine .exit (.then_e (.then_e (.blk_e (.then_n (.seq (.seq ?_))))))
  have htl2 : told.length ≤ 2764885196800 := Nat.le_trans htl (cap13_le hi)
  have hll2 : laid.length ≤ 200 := by omega
  clear hix
  refine .region (.an rfl (.block (.loopK (ι := Nat) (fun q E => (16, vint q) :: E) (fun q => []) (fun q => q ≤ told.length) (fun q => told.length - q) (0) (ts := [9, 10]) (.cons rfl (.cons rfl (.nil))) (Nat.zero_le _) ⟨rfl, rfl, rfl, trivial⟩ (by repeat' constructor) ?_)))
  rintro i hi
  refine .seq (.sm rfl (.m rfl (.q (.slen rfl Tryz.underlying47 rfl) rfl (.ui rfl rfl rfl (.nt (.condD rfl (fun h109 => ?_) (fun h109 => ?_)))))))
  ·have hi2 : i < told.length := by omega
   refine .slShape (v := .slice at1 told.length ct) (by repeat' constructor) (by omega) fun bt bt' e0 _ _ => ?_
   simp only [Value.slice.injEq, true_and] at e0
   obtain ⟨rfl, rfl⟩ := e0
   refine .sk (.seq (.block (.sr (.an rfl (.seq (.sr (.an rfl (.block (.loopK (ι := Nat) (fun q E => (18, vint q) :: (17, vint (evN told[i].2.1 (told.take q) : Nat)) :: E) (fun q => []) (fun q => q ≤ told.length) (fun q => told.length - q) (0) (ts := [9, 10, 16, 106, 107, 108, 109]) (.cons rfl (.cons rfl (.cons rfl (.cons rfl (.cons rfl (.cons rfl (.cons rfl (.nil)))))))) (Nat.zero_le _) ⟨rfl, rfl, rfl, rfl, rfl, rfl, rfl, rfl, rfl, trivial⟩ (by repeat' constructor) ?_)))))))))
   rintro j hj
   have hev := evN_le told[i].2.1 (told.take j)
   have hev2 : (told.take j).length ≤ told.length := by rw [List.length_take]; omega
   refine .seq (.sm rfl (.m rfl (.q (.slen rfl Tryz.underlying47 rfl) rfl (.ui rfl rfl rfl (.nt (.condD rfl (fun h115 => ?_) (fun h115 => ?_)))))))
   ·have hj2 : j < told.length := by omega
    refine .sk (.seq (.block (.seq (.draw [] [[0, 1, 2, 3, 4, 5, 6, 7, 8, 9, 10]] mixed (by kernel_rfl) (.g0 (.mv rfl rfl (.mv rfl rfl (.kv rfl (.indexAddr rfl rfl el_47 (by omega)) (.kv rfl (.fieldAddr rfl fo_50_1) (.kv rfl (.loadRd (sz := 3) (j := j * 3 + 1) (p := slR 50 3 _ told.length (told.flatMap evC)) (v := vstr told[j].2.1) rfl ag_9 (by repeat' constructor) (fun h hp => slR_rd hp) (by omega) ((flatMap_cell (f := evC) (sz := 3) (l := told) (i := j) (k := 1) (fun _ _ => rfl) (by omega) (by decide)).trans rfl)) (.mv rfl rfl (.mv rfl rfl (.kv rfl (.indexAddr rfl rfl el_47 (by omega)) (.kv rfl (.fieldAddr rfl fo_50_1) (.kv rfl (.loadRd (sz := 3) (j := i * 3 + 1) (p := slR 50 3 _ told.length (told.flatMap evC)) (v := vstr told[i].2.1) rfl ag_9 (by repeat' constructor) (fun h hp => slR_rd hp) (by omega) ((flatMap_cell (f := evC) (sz := 3) (l := told) (i := i) (k := 1) (fun _ _ => rfl) (by omega) (by decide)).trans rfl)) ?_)))))))))))))))
    refine D.kv rfl (.streq rfl rfl) (.pf (.condD rfl (fun h128 => ?_) (fun h128 => ?_)))
    ·refine .region (.m rfl (.q (.add rfl rfl (by omega)) rfl (.a rfl (.nil (.blk_n (.then_n (.region (.m rfl (.q (.add rfl rfl (by omega)) rfl (.an rfl ?_))))))))))
     have hst := evN_at (P := told[i].2.1) hj2
     rw [if_pos h128] at hst
     rw [← hst]
     exact .rk (j + 1) (by omega) (by omega) ⟨rfl, rfl, rfl, rfl, rfl, rfl, rfl, rfl, rfl, trivial⟩
    refine .skip (.blk_n (.then_n (.region (.m rfl (.q (.add rfl rfl (by omega)) rfl (.an rfl ?_))))))
    have hst := evN_at (P := told[i].2.1) hj2
    rw [if_neg h128] at hst
    rw [show (evN told[i].2.1 (told.take j) : Int) = (evN told[i].2.1 (told.take (j + 1)) : Int) by omega]
    exact .rk (j + 1) (by omega) (by omega) ⟨rfl, rfl, rfl, rfl, rfl, rfl, rfl, rfl, rfl, trivial⟩
   have hje : j = told.length := by omega
   subst hje
   rw [List.take_length]
   refine .exit (.then_e (.then_e (.blk_e (.then_n (.seq (.sr (.an rfl (.block ?_))))))))
   rw [show (evN told[i].2.1 told : Int) = (evN told[i].2.1 told : Int) - (txN told[i].2.1 (laid.take 0) : Int) by simp [txN]]
   refine .loopK (ι := Nat) (fun q E => (19, vint q) :: (17, vint ((evN told[i].2.1 told : Int) - (txN told[i].2.1 (laid.take q) : Int))) :: E) (fun q => []) (fun q => q ≤ laid.length) (fun q => laid.length - q) (0) (ts := [9, 10, 16, 18, 106, 107, 108, 109, 112, 113, 114, 115]) (.cons rfl (.cons rfl (.cons rfl (.cons rfl (.cons rfl (.cons rfl (.cons rfl (.cons rfl (.cons rfl (.cons rfl (.cons rfl (.cons rfl (.nil))))))))))))) (Nat.zero_le _) ⟨rfl, rfl, rfl, rfl, rfl, rfl, rfl, rfl, rfl, rfl, rfl, rfl, rfl, rfl, trivial⟩ (by repeat' constructor) ?_
   rintro m hm
   have htx := txN_le told[i].2.1 (laid.take m)
   have htx2 : (laid.take m).length ≤ laid.length := by rw [List.length_take]; omega
   have hev3 := evN_le told[i].2.1 told
   refine .seq (.sm rfl (.m rfl (.q (.slen rfl Tryz.underlying38 rfl) rfl (.ui rfl rfl rfl (.nt (.condD rfl (fun h134 => ?_) (fun h134 => ?_)))))))
   ·have hm2 : m < laid.length := by omega
    refine .slShape (v := .slice al laid.length cl) (by repeat' constructor) (by omega) fun bl bl' e0 _ _ => ?_
    simp only [Value.slice.injEq, true_and] at e0
    obtain ⟨rfl, rfl⟩ := e0
    refine .sk (.seq (.block (.seq (.draw [] [[0, 1, 2, 3, 4, 5, 6, 7, 8, 9]] mixed (by kernel_rfl) (.g0 (.mv rfl rfl (.mv rfl rfl (.kv rfl (.indexAddr rfl rfl el_38 (by omega)) (.kv rfl (.loadEl (p := slR 9 1 _ laid.length (strs laid)) (i := m * 1) (v := vstr laid[m]) rfl ag_9 (by repeat' constructor) (fun h hp => slR_rd hp) (by simp [strs, hm2])) (.mv rfl rfl (.mv rfl rfl (.kv rfl (.indexAddr rfl rfl el_47 (by omega)) (.kv rfl (.fieldAddr rfl fo_50_1) (.kv rfl (.loadRd (sz := 3) (j := i * 3 + 1) (p := slR 50 3 _ told.length (told.flatMap evC)) (v := vstr told[i].2.1) rfl ag_9 (by repeat' constructor) (fun h hp => slR_rd hp) (by omega) ((flatMap_cell (f := evC) (sz := 3) (l := told) (i := i) (k := 1) (fun _ _ => rfl) (by omega) (by decide)).trans rfl)) (.kv rfl (.streq rfl rfl) (.pf (.condD rfl (fun h146 => ?_) (fun h146 => ?_))))))))))))))))))
    ·refine .region (.m rfl (.q (.sub rfl rfl (by omega)) rfl (.a rfl (.nil (.blk_n (.then_n (.region (.m rfl (.q (.add rfl rfl (by omega)) rfl (.an rfl ?_))))))))))
     have hst := txN_at (P := told[i].2.1) hm2
     rw [if_pos h146] at hst
     rw [show (evN told[i].2.1 told : Int) - (txN told[i].2.1 (laid.take m) : Int) - 1 = (evN told[i].2.1 told : Int) - (txN told[i].2.1 (laid.take (m + 1)) : Int) by omega]
     exact .rk (m + 1) (by omega) (by omega) ⟨rfl, rfl, rfl, rfl, rfl, rfl, rfl, rfl, rfl, rfl, rfl, rfl, rfl, rfl, trivial⟩
    refine .skip (.blk_n (.then_n (.region (.m rfl (.q (.add rfl rfl (by omega)) rfl (.an rfl ?_))))))
    have hst := txN_at (P := told[i].2.1) hm2
    rw [if_neg h146] at hst
    rw [show (evN told[i].2.1 told : Int) - (txN told[i].2.1 (laid.take m) : Int) = (evN told[i].2.1 told : Int) - (txN told[i].2.1 (laid.take (m + 1)) : Int) by omega]
    exact .rk (m + 1) (by omega) (by omega) ⟨rfl, rfl, rfl, rfl, rfl, rfl, rfl, rfl, rfl, rfl, rfl, rfl, rfl, rfl, trivial⟩
   have hme : m = laid.length := by omega
   subst hme
   rw [List.take_length]
   have hcn := hO.cnt told[i].2.1
   refine .exit (.then_e (.then_e (.blk_e (.then_n (.seq (.draw [] [[0, 1, 2, 3, 4, 5, 6, 7, 8, 9, 10, 11, 12, 13, 14, 15, 16, 17, 18, 19]] mixed (by kernel_rfl) (.g0 (.mv rfl rfl (.kv rfl (.as (v' := .bool false) (by exact congrArg Value.bool (decide_eq_false (by omega))) (.int rfl rfl rfl)) (.mv rfl rfl (.gv rfl (.move rfl) (.gv rfl (.int rfl rfl rfl) (.gv rfl (.move rfl) (.dec (t := 154) rfl (fun h37_154 => ?_) (fun h37_154 => ?_)))))))))))))))
   ·refine D.kDT (t := 153) rfl h37_154 (.gv rfl (.move rfl) (.gv rfl (.move rfl) (.gv rfl (.indexAddr rfl rfl el_47 (by omega)) (.gv rfl (.fieldAddr rfl fo_50_2) (.gv rfl (.loadRd (sz := 3) (j := i * 3 + 2) (p := slR 50 3 _ told.length (told.flatMap evC)) (v := vint told[i].2.2) rfl ag_3 (by repeat' constructor) (fun h hp => slR_rd hp) (by omega) ((flatMap_cell (f := evC) (sz := 3) (l := told) (i := i) (k := 2) (fun _ _ => rfl) (by omega) (by decide)).trans rfl)) (.gv rfl (.move rfl) (.gv rfl (.move rfl) (.gv rfl (.sub rfl rfl (by omega)) (.gv rfl (.to (v' := .pointer (some ⟨bt, (i - 1) * 3, none⟩)) (.indexAddr rfl rfl el_47 (by omega)) (by congr 3; omega)) (.gv rfl (.fieldAddr rfl fo_50_2) (.gv rfl (.loadRd (sz := 3) (j := (i - 1) * 3 + 2) (p := slR 50 3 _ told.length (told.flatMap evC)) (v := vint (told[i - 1]'(by omega)).2.2) rfl ag_3 (by repeat' constructor) (fun h hp => slR_rd hp) (by omega) ((flatMap_cell (f := evC) (sz := 3) (l := told) (i := (i - 1)) (k := 2) (fun _ _ => rfl) (by omega) (by decide)).trans rfl)) ?_)))))))))))
    refine D.gv rfl (.as (v' := .bool false) (by exact congrArg Value.bool (decide_eq_false (by have := List.pairwise_iff_getElem.1 hO.srt (i - 1) i (by omega) hi2 (by omega); omega))) (.int rfl rfl rfl)) (.gv rfl (.pickT rfl rfl) (.kv rfl (.pickF rfl rfl) (.pf (.condF rfl (.skip (.blk_n (.then_n (.region (.m rfl (.q (.add rfl rfl (by omega)) rfl (.an rfl ?_)))))))))))
    exact .rk (i + 1) (by omega) (by omega) ⟨rfl, rfl, rfl, trivial⟩
   refine D.kDF (t := 153) rfl h37_154 (.gz rfl (.gz rfl (.gz rfl (.gz rfl (.gz rfl (.gz rfl (.gz rfl (.gz rfl (.gz rfl (.gz rfl (.gz rfl (.gz rfl (.gv rfl (.pickF rfl rfl) (.kv rfl (.pickF rfl rfl) (.pf (.condF rfl (.skip (.blk_n (.then_n (.region (.m rfl (.q (.add rfl rfl (by omega)) rfl (.an rfl ?_)))))))))))))))))))))))
   exact .rk (i + 1) (by omega) (by omega) ⟨rfl, rfl, rfl, trivial⟩
  refine .exit (.then_e (.then_e (.blk_e (.then_n (.sr (.an rfl (.ret ?_)))))))
  exact .vv
 refine .kDF (t := 41) rfl h10_42 (.gk (.gk (.u (.pickF rfl rfl) (.nt (.condF rfl (.exit (.then_e (.then_e (.blk_e (.then_n (.seq (.seq ?_))))))))))))
 have htl2 : told.length ≤ 2764885196800 := Nat.le_trans htl (cap13_le hi)
 have hll2 : laid.length ≤ 200 := by omega
 clear hix
 refine .region (.an rfl (.block (.loopK (ι := Nat) (fun q E => (16, vint q) :: E) (fun q => []) (fun q => q ≤ told.length) (fun q => told.length - q) (0) (ts := [9, 10]) (.cons rfl (.cons rfl (.nil))) (Nat.zero_le _) ⟨rfl, rfl, rfl, trivial⟩ (by repeat' constructor) ?_)))
 rintro i hi
 refine .seq (.sm rfl (.m rfl (.q (.slen rfl Tryz.underlying47 rfl) rfl (.ui rfl rfl rfl (.nt (.condD rfl (fun h109 => ?_) (fun h109 => ?_)))))))
 ·have hi2 : i < told.length := by omega
  refine .slShape (v := .slice at1 told.length ct) (by repeat' constructor) (by omega) fun bt bt' e0 _ _ => ?_
  simp only [Value.slice.injEq, true_and] at e0
  obtain ⟨rfl, rfl⟩ := e0
  refine .sk (.seq (.block (.sr (.an rfl (.seq (.sr (.an rfl (.block (.loopK (ι := Nat) (fun q E => (18, vint q) :: (17, vint (evN told[i].2.1 (told.take q) : Nat)) :: E) (fun q => []) (fun q => q ≤ told.length) (fun q => told.length - q) (0) (ts := [9, 10, 16, 106, 107, 108, 109]) (.cons rfl (.cons rfl (.cons rfl (.cons rfl (.cons rfl (.cons rfl (.cons rfl (.nil)))))))) (Nat.zero_le _) ⟨rfl, rfl, rfl, rfl, rfl, rfl, rfl, rfl, rfl, trivial⟩ (by repeat' constructor) ?_)))))))))
  rintro j hj
  have hev := evN_le told[i].2.1 (told.take j)
  have hev2 : (told.take j).length ≤ told.length := by rw [List.length_take]; omega
  refine .seq (.sm rfl (.m rfl (.q (.slen rfl Tryz.underlying47 rfl) rfl (.ui rfl rfl rfl (.nt (.condD rfl (fun h115 => ?_) (fun h115 => ?_)))))))
  ·have hj2 : j < told.length := by omega
   refine .sk (.seq (.block (.seq (.draw [] [[0, 1, 2, 3, 4, 5, 6, 7, 8, 9, 10]] mixed (by kernel_rfl) (.g0 (.mv rfl rfl (.mv rfl rfl (.kv rfl (.indexAddr rfl rfl el_47 (by omega)) (.kv rfl (.fieldAddr rfl fo_50_1) (.kv rfl (.loadRd (sz := 3) (j := j * 3 + 1) (p := slR 50 3 _ told.length (told.flatMap evC)) (v := vstr told[j].2.1) rfl ag_9 (by repeat' constructor) (fun h hp => slR_rd hp) (by omega) ((flatMap_cell (f := evC) (sz := 3) (l := told) (i := j) (k := 1) (fun _ _ => rfl) (by omega) (by decide)).trans rfl)) (.mv rfl rfl (.mv rfl rfl (.kv rfl (.indexAddr rfl rfl el_47 (by omega)) (.kv rfl (.fieldAddr rfl fo_50_1) (.kv rfl (.loadRd (sz := 3) (j := i * 3 + 1) (p := slR 50 3 _ told.length (told.flatMap evC)) (v := vstr told[i].2.1) rfl ag_9 (by repeat' constructor) (fun h hp => slR_rd hp) (by omega) ((flatMap_cell (f := evC) (sz := 3) (l := told) (i := i) (k := 1) (fun _ _ => rfl) (by omega) (by decide)).trans rfl)) ?_)))))))))))))))
   refine D.kv rfl (.streq rfl rfl) (.pf (.condD rfl (fun h128 => ?_) (fun h128 => ?_)))
   ·refine .region (.m rfl (.q (.add rfl rfl (by omega)) rfl (.a rfl (.nil (.blk_n (.then_n (.region (.m rfl (.q (.add rfl rfl (by omega)) rfl (.an rfl ?_))))))))))
    have hst := evN_at (P := told[i].2.1) hj2
    rw [if_pos h128] at hst
    rw [← hst]
    exact .rk (j + 1) (by omega) (by omega) ⟨rfl, rfl, rfl, rfl, rfl, rfl, rfl, rfl, rfl, trivial⟩
   refine .skip (.blk_n (.then_n (.region (.m rfl (.q (.add rfl rfl (by omega)) rfl (.an rfl ?_))))))
   have hst := evN_at (P := told[i].2.1) hj2
   rw [if_neg h128] at hst
   rw [show (evN told[i].2.1 (told.take j) : Int) = (evN told[i].2.1 (told.take (j + 1)) : Int) by omega]
   exact .rk (j + 1) (by omega) (by omega) ⟨rfl, rfl, rfl, rfl, rfl, rfl, rfl, rfl, rfl, trivial⟩
  have hje : j = told.length := by omega
  subst hje
  rw [List.take_length]
  refine .exit (.then_e (.then_e (.blk_e (.then_n (.seq (.sr (.an rfl (.block ?_))))))))
  rw [show (evN told[i].2.1 told : Int) = (evN told[i].2.1 told : Int) - (txN told[i].2.1 (laid.take 0) : Int) by simp [txN]]
  refine .loopK (ι := Nat) (fun q E => (19, vint q) :: (17, vint ((evN told[i].2.1 told : Int) - (txN told[i].2.1 (laid.take q) : Int))) :: E) (fun q => []) (fun q => q ≤ laid.length) (fun q => laid.length - q) (0) (ts := [9, 10, 16, 18, 106, 107, 108, 109, 112, 113, 114, 115]) (.cons rfl (.cons rfl (.cons rfl (.cons rfl (.cons rfl (.cons rfl (.cons rfl (.cons rfl (.cons rfl (.cons rfl (.cons rfl (.cons rfl (.nil))))))))))))) (Nat.zero_le _) ⟨rfl, rfl, rfl, rfl, rfl, rfl, rfl, rfl, rfl, rfl, rfl, rfl, rfl, rfl, trivial⟩ (by repeat' constructor) ?_
  rintro m hm
  have htx := txN_le told[i].2.1 (laid.take m)
  have htx2 : (laid.take m).length ≤ laid.length := by rw [List.length_take]; omega
  have hev3 := evN_le told[i].2.1 told
  refine .seq (.sm rfl (.m rfl (.q (.slen rfl Tryz.underlying38 rfl) rfl (.ui rfl rfl rfl (.nt (.condD rfl (fun h134 => ?_) (fun h134 => ?_)))))))
  ·have hm2 : m < laid.length := by omega
   refine .slShape (v := .slice al laid.length cl) (by repeat' constructor) (by omega) fun bl bl' e0 _ _ => ?_
   simp only [Value.slice.injEq, true_and] at e0
   obtain ⟨rfl, rfl⟩ := e0
   refine .sk (.seq (.block (.seq (.draw [] [[0, 1, 2, 3, 4, 5, 6, 7, 8, 9]] mixed (by kernel_rfl) (.g0 (.mv rfl rfl (.mv rfl rfl (.kv rfl (.indexAddr rfl rfl el_38 (by omega)) (.kv rfl (.loadEl (p := slR 9 1 _ laid.length (strs laid)) (i := m * 1) (v := vstr laid[m]) rfl ag_9 (by repeat' constructor) (fun h hp => slR_rd hp) (by simp [strs, hm2])) (.mv rfl rfl (.mv rfl rfl (.kv rfl (.indexAddr rfl rfl el_47 (by omega)) (.kv rfl (.fieldAddr rfl fo_50_1) (.kv rfl (.loadRd (sz := 3) (j := i * 3 + 1) (p := slR 50 3 _ told.length (told.flatMap evC)) (v := vstr told[i].2.1) rfl ag_9 (by repeat' constructor) (fun h hp => slR_rd hp) (by omega) ((flatMap_cell (f := evC) (sz := 3) (l := told) (i := i) (k := 1) (fun _ _ => rfl) (by omega) (by decide)).trans rfl)) (.kv rfl (.streq rfl rfl) (.pf (.condD rfl (fun h146 => ?_) (fun h146 => ?_))))))))))))))))))
   ·refine .region (.m rfl (.q (.sub rfl rfl (by omega)) rfl (.a rfl (.nil (.blk_n (.then_n (.region (.m rfl (.q (.add rfl rfl (by omega)) rfl (.an rfl ?_))))))))))
    have hst := txN_at (P := told[i].2.1) hm2
    rw [if_pos h146] at hst
    rw [show (evN told[i].2.1 told : Int) - (txN told[i].2.1 (laid.take m) : Int) - 1 = (evN told[i].2.1 told : Int) - (txN told[i].2.1 (laid.take (m + 1)) : Int) by omega]
    exact .rk (m + 1) (by omega) (by omega) ⟨rfl, rfl, rfl, rfl, rfl, rfl, rfl, rfl, rfl, rfl, rfl, rfl, rfl, rfl, trivial⟩
   refine .skip (.blk_n (.then_n (.region (.m rfl (.q (.add rfl rfl (by omega)) rfl (.an rfl ?_))))))
   have hst := txN_at (P := told[i].2.1) hm2
   rw [if_neg h146] at hst
   rw [show (evN told[i].2.1 told : Int) - (txN told[i].2.1 (laid.take m) : Int) = (evN told[i].2.1 told : Int) - (txN told[i].2.1 (laid.take (m + 1)) : Int) by omega]
   exact .rk (m + 1) (by omega) (by omega) ⟨rfl, rfl, rfl, rfl, rfl, rfl, rfl, rfl, rfl, rfl, rfl, rfl, rfl, rfl, trivial⟩
  have hme : m = laid.length := by omega
  subst hme
  rw [List.take_length]
  have hcn := hO.cnt told[i].2.1
  refine .exit (.then_e (.then_e (.blk_e (.then_n (.seq (.draw [] [[0, 1, 2, 3, 4, 5, 6, 7, 8, 9, 10, 11, 12, 13, 14, 15, 16, 17, 18, 19]] mixed (by kernel_rfl) (.g0 (.mv rfl rfl (.kv rfl (.as (v' := .bool false) (by exact congrArg Value.bool (decide_eq_false (by omega))) (.int rfl rfl rfl)) (.mv rfl rfl (.gv rfl (.move rfl) (.gv rfl (.int rfl rfl rfl) (.gv rfl (.move rfl) (.dec (t := 154) rfl (fun h37_154 => ?_) (fun h37_154 => ?_)))))))))))))))
  ·refine D.kDT (t := 153) rfl h37_154 (.gv rfl (.move rfl) (.gv rfl (.move rfl) (.gv rfl (.indexAddr rfl rfl el_47 (by omega)) (.gv rfl (.fieldAddr rfl fo_50_2) (.gv rfl (.loadRd (sz := 3) (j := i * 3 + 2) (p := slR 50 3 _ told.length (told.flatMap evC)) (v := vint told[i].2.2) rfl ag_3 (by repeat' constructor) (fun h hp => slR_rd hp) (by omega) ((flatMap_cell (f := evC) (sz := 3) (l := told) (i := i) (k := 2) (fun _ _ => rfl) (by omega) (by decide)).trans rfl)) (.gv rfl (.move rfl) (.gv rfl (.move rfl) (.gv rfl (.sub rfl rfl (by omega)) (.gv rfl (.to (v' := .pointer (some ⟨bt, (i - 1) * 3, none⟩)) (.indexAddr rfl rfl el_47 (by omega)) (by congr 3; omega)) (.gv rfl (.fieldAddr rfl fo_50_2) (.gv rfl (.loadRd (sz := 3) (j := (i - 1) * 3 + 2) (p := slR 50 3 _ told.length (told.flatMap evC)) (v := vint (told[i - 1]'(by omega)).2.2) rfl ag_3 (by repeat' constructor) (fun h hp => slR_rd hp) (by omega) ((flatMap_cell (f := evC) (sz := 3) (l := told) (i := (i - 1)) (k := 2) (fun _ _ => rfl) (by omega) (by decide)).trans rfl)) ?_)))))))))))
   refine D.gv rfl (.as (v' := .bool false) (by exact congrArg Value.bool (decide_eq_false (by have := List.pairwise_iff_getElem.1 hO.srt (i - 1) i (by omega) hi2 (by omega); omega))) (.int rfl rfl rfl)) (.gv rfl (.pickT rfl rfl) (.kv rfl (.pickF rfl rfl) (.pf (.condF rfl (.skip (.blk_n (.then_n (.region (.m rfl (.q (.add rfl rfl (by omega)) rfl (.an rfl ?_)))))))))))
   exact .rk (i + 1) (by omega) (by omega) ⟨rfl, rfl, rfl, trivial⟩
  refine D.kDF (t := 153) rfl h37_154 (.gz rfl (.gz rfl (.gz rfl (.gz rfl (.gz rfl (.gz rfl (.gz rfl (.gz rfl (.gz rfl (.gz rfl (.gz rfl (.gz rfl (.gv rfl (.pickF rfl rfl) (.kv rfl (.pickF rfl rfl) (.pf (.condF rfl (.skip (.blk_n (.then_n (.region (.m rfl (.q (.add rfl rfl (by omega)) rfl (.an rfl ?_)))))))))))))))))))))))
  exact .rk (i + 1) (by omega) (by omega) ⟨rfl, rfl, rfl, trivial⟩
 refine .exit (.then_e (.then_e (.blk_e (.then_n (.sr (.an rfl (.ret ?_)))))))
 exact .vv
open Go Go.ChangeShapes Go.WideShapes Go.ChangeAt Go.RowKit
section
variable {H : Type} {enc : TypeId × Value → H} {P : Program} {W W' : World}
theorem trodAll_old (hl : laidOutB P = true) (hb : Below W.heap.size W W') (sp : Nat → Bool) : ∀ (ts : List TypeId) (vs : List Value) (ds : List (DataW H)) (p : List MemPlace), (∀ t ∈ ts, P.readableRec t = true ∧ t < P.types.size) →
  DataW.TrodAll enc P W 0 (fun _ => true) true ts vs ds p → (∀ x ∈ p, x.block < W.heap.size) → (∀ x ∈ p, sp x.block = true) → DataW.TrodAll enc P W' 0 sp true ts vs ds p
 | [], vs, ds, p, _, h, _, _ => by
  obtain ⟨rfl, rfl, rfl⟩ := trodAll_nil h
  exact h
 | t :: ts, vs, ds, p, hr, h, hlt, hsp => by
  obtain ⟨v, vs1, d, ds1, a, b, rfl, rfl, rfl, h1, h2⟩ := trodAll_cons h
  have r := hr t (by simp)
  refine ⟨a, b, WideElems.Trod_stays hl r.1 r.2 h1 (fun x hx => hb.same (hlt x (by simp [hx]))) (fun x hx => hsp x (by simp [hx])), ?_, rfl⟩
  exact trodAll_old hl hb sp ts vs1 ds1 b (fun t ht => hr t (by simp [ht])) h2 (fun x hx => hlt x (by simp [hx])) (fun x hx => hsp x (by simp [hx]))
theorem settled {fn : Func} {s : ChangeSpec} {apart fresh handsOn again : Bool} {args : Array Value} {ds gs : List (DataW H)} {before : List MemPlace} {tb : TypeId}
  (hW : DataW.Whole enc P fn.params.toList s.vars apart W args.toList ds gs before) (hvars : s.vars = []) (hspec : ∀ gs', gs' = [] → s.fn H (ds ++ gs') = { results := [.lit (.bool true)], args := ds })
  (hres : fn.resultTypes = #[tb]) (htb : P.underlying tb = some .bool) (hl : laidOutB P = true) (hr : ∀ t ∈ fn.params.toList, P.readableRec t = true ∧ t < P.types.size) (hb : Below W.heap.size W W') :
  s.post enc P fn apart fresh handsOn again W args (.bool true) W' := by
 have hW' := hW
 have hlt := hW.lt
 obtain ⟨p, q, hA, hV, rfl, hfz, hnd⟩ := hW
 rw [hvars] at hV
 obtain ⟨rfl, rfl⟩ := trodVars_none hV
 have hs := hspec [] rfl
 have hargs : ∀ sp : Nat → Bool, (∀ x ∈ p, sp x.block = true) → DataW.TrodAll enc P W' 0 sp true fn.params.toList args.toList ds p := fun sp hsp =>
  trodAll_old hl hb sp _ _ _ _ hr hA (fun x hx => hlt x (by simp [hx])) hsp
 have hbool : ∀ (b : Nat) (sp : Nat → Bool) (hd : Bool), DataW.TrodAll enc P W' b sp hd fn.resultTypes.toList ((Value.bool true).resultList fn.resultTypes.size) [.lit (.bool true)] [] := by
  intro b sp hd
  rw [hres]
  exact trodAll_cons_mk (shut_bool htb _) trodAll_mk0
 refine ⟨ds, [], p ++ [], [], p, [], hW', ?_, ?_, ?_, hb.frame _, fun _ => ⟨ok_one hres rfl (okWide_bool_mk htb _), [.lit (.bool true)] ++ ds, [], p, ⟨p, [], ?_, ?_, by simp, ?_, ?_⟩, ?_⟩⟩
 ·rw [hs]; exact hbool _ _ _
 ·rw [hs]; exact hargs _ (fun x hx => by simpa using hlt x (by simp [hx]))
 ·rw [hs, hvars]; exact hV
 ·exact trodAll_append (hargs _ (fun _ _ => rfl)) (hbool _ _ _)
 ·rw [hvars]; exact hV
 ·intro b off hp
  rw [hb.frozen (p := ⟨b, off, none⟩) (hlt (.cell b off) (by simp [hp]))]
  exact hfz b off (by simp [hp])
 ·intro ha
  have := hnd ha
  simpa using this
 ·intro x hx _
  simp [hx]
theorem old_calls {f : FuncId} {args : Array Value} (h : Fn P f args [Old W] fun v L => v = .bool true ∧ L = [Old W]) :
  Calls P f args W fun e W' => e = .returned (.bool true) ∧ Below W.heap.size W W' := by
 have h0 : St [Old W] W := ⟨fun b => W.heap[b]?, fun _ => none, fun _ => .inr rfl, fun b o h => h, fun b o h => (by cases h), fun b hb => rfl, trivial⟩
 refine (h [] W h0).mono ?_
 rintro e W' ⟨v, L, ⟨rfl, rfl⟩, rfl, hs, hk⟩
 refine ⟨rfl, hk.os, hk.tape, hk.output, hk.size, fun k hk' => ?_⟩
 obtain ⟨h1, a1, hp⟩ := sep_head hs
 have e1 := hp k hk'
 have : ∃ o, W.heap[k]? = some o := ⟨_, Array.getElem?_eq_getElem hk'⟩
 obtain ⟨o, ho⟩ := this
 rw [ho] at e1 ⊢
 exact a1 _ _ e1
theorem old_rd {a : Addr} {len cap : Nat} {V : Nat → Value} (hc : ∀ i, i < len → W.cell? (a.add i) = some (V i)) (hle : len ≤ cap) : ∀ h : Hp, Old W h → rdS 1 h (.slice (some a) len cap) len ((List.range len).map V) := by
 intro h hold
 rcases Nat.eq_zero_or_pos len with rfl | hpos
 ·exact .inl ⟨rfl, rfl, some a, cap, rfl⟩
 ·obtain ⟨b, off, spot⟩ := a
  have h0 := hc 0 hpos
  have e0 : (⟨b, off, spot⟩ : Addr).add 0 = ⟨b, off, spot⟩ := by simp [Addr.add]
  rw [e0] at h0
  simp only [World.cell?] at h0
  rcases hw : W.heap[b]? with _ | o
  ·rw [hw] at h0; cases h0
  ·cases o with
   | cells c T fr =>
    rw [hw] at h0
    dsimp only at h0
    split at h0
    ·cases h0
    ·rename_i hsp
     have hspot : spot = none := by simpa using hsp
     subst hspot
     have hc' : ∀ i, i < len → c[off + i]? = some (V i) := by
      intro i hi
      have := hc i hi
      have e1 : (⟨b, off, none⟩ : Addr).add i = ⟨b, off + i, none⟩ := by
       simp only [Addr.add]; split
       ·rename_i h0; simp [h0]
       ·rfl
      rw [e1] at this
      simp only [World.cell?, hw] at this
      simpa using this
     have hlt : b < W.heap.size := by
      rcases Nat.lt_or_ge b W.heap.size with h' | h'
      ·exact h'
      ·rw [Array.getElem?_eq_none h'] at hw; cases hw
     have hlen : off + len ≤ c.size := by
      have := hc' (len - 1) (by omega)
      rcases Nat.lt_or_ge (off + (len - 1)) c.size with h' | h'
      ·omega
      ·rw [Array.getElem?_eq_none h'] at this; cases this
     refine .inr ⟨b, off, cap, c.toList, T, fr, rfl, by rw [hold b hlt, hw], ?_, by simpa using hlen, hle⟩
     apply List.ext_getElem?
     intro i
     rw [Nat.mul_one, List.getElem?_take, List.getElem?_map, List.getElem?_drop]
     split
     ·rename_i hi
      rw [List.getElem?_range hi]
      simpa using hc' i hi
     ·rename_i hi
      rw [List.getElem?_eq_none (by simpa using hi)]; rfl
   | _ => rw [hw] at h0; cases h0
end
open Go Go.ChangeShapes Go.WideShapes Go.ChangeAt Go.RowKit
section
variable {H : Type} {enc : TypeId × Value → H} {P : Program} {W : World}
theorem string_vstr (s : ByteArray) : Value.string s = vstr s.data.toList := by cases s; rfl
end
open Go Go.ChangeShapes Go.WideShapes Go.ChangeAt Go.RowKit
section
variable {H : Type} {enc : TypeId × Value → H} {P : Program} {W : World}
theorem flat_at {α : Type} {sz : Nat} (f : Nat → List α) : ∀ n, (∀ i, i < n → (f i).length = sz) → ∀ j, j < n * sz → ((List.range n).flatMap f)[j]? = (f (j / sz))[j % sz]? ∧ ((List.range n).flatMap f).length = n * sz := by
 intro n
 induction n with
 | zero => intro _ j hj; omega
 | succ n ih =>
  intro hf j hj
  have hn := hf n (by omega)
  have hlen : ((List.range n).flatMap f).length = n * sz := by
   rcases Nat.eq_zero_or_pos (n * sz) with h0 | h0
   ·rcases Nat.eq_zero_or_pos n with h1 | h1
    ·subst h1; simp
    ·have : sz = 0 := by
      rcases Nat.eq_zero_or_pos sz with h2 | h2
      ·exact h2
      ·have := Nat.mul_pos h1 h2; omega
     subst this; omega
   ·exact (ih (fun i hi => hf i (by omega)) 0 h0).2
  have e : (List.range (n + 1)).flatMap f = (List.range n).flatMap f ++ f n := by simp [List.range_succ]
  have hm : (n + 1) * sz = n * sz + sz := by rw [Nat.add_mul, Nat.one_mul]
  rw [e]
  refine ⟨?_, by rw [List.length_append, hlen, hn, hm]⟩
  rcases Nat.lt_or_ge j (n * sz) with h | h
  ·rw [List.getElem?_append_left (by omega)]
   exact (ih (fun i hi => hf i (by omega)) j h).1
  ·rw [List.getElem?_append_right (by omega), hlen]
   have hs : 0 < sz := by omega
   have h1 : j / sz = n := by
    have : j < (n + 1) * sz := hj
    have a := Nat.div_lt_of_lt_mul (show j < sz * (n + 1) by rw [Nat.mul_comm]; exact this)
    have b := (Nat.le_div_iff_mul_le hs).2 h
    omega
   have h2 : j % sz = j - n * sz := by
    have := Nat.div_add_mod j sz
    rw [h1, Nat.mul_comm] at this; omega
   rw [h1, h2]
theorem rdS_regroup {sz n c c1 : Nat} {a : Option Addr} {ys : List Value} {h : Hp} (hr : rdS 1 h (.slice a (n * sz) c1) (n * sz) ys) (hc : n ≤ c) (hs : 0 < sz) : rdS sz h (.slice a n c) n ys := by
 rcases hr with ⟨h1, h2, -⟩ | ⟨b, off, cap, l, T, fr, hv, hb, h1, h2, h3⟩
 ·have : n = 0 := by
   rcases Nat.eq_zero_or_pos n with h0 | h0
   ·exact h0
   ·have := Nat.mul_pos h0 hs; omega
  subst this
  exact .inl ⟨rfl, h2, a, c, rfl⟩
 ·simp only [Value.slice.injEq] at hv
  obtain ⟨rfl, -, -⟩ := hv
  exact .inr ⟨b, off, c, l, T, fr, rfl, hb, by rw [← h1, Nat.mul_one], by rw [Nat.mul_one] at h2; exact h2, hc⟩
abbrev Reads (enc : TypeId × Value → H) (P : Program) (W : World) (fuel : Nat) (t : TypeId) (cs : List Value) (x : DataW H × List MemPlace) : Prop := DataW.trod enc P W 0 (fun _ => true) true fuel t cs = some x
theorem dec_int {t : TypeId} {fuel : Nat} {cs : List Value} {x : DataW H × List MemPlace} (ht : P.underlying t = some (.int .i64)) (h : Reads enc P W fuel t cs x) : ∃ n : Int, cs = [vint n] ∧ -9223372036854775808 ≤ n ∧ n ≤ 9223372036854775807 := by
 obtain ⟨n, rfl, -, hwf⟩ := DataW.trod_int ht h
 exact ⟨n, rfl, bounds_i64 hwf⟩
theorem dec_bool {t : TypeId} {fuel : Nat} {cs : List Value} {x : DataW H × List MemPlace} (ht : P.underlying t = some .bool) (h : Reads enc P W fuel t cs x) : ∃ b : Bool, cs = [.bool b] := by
 obtain ⟨b, rfl, -⟩ := DataW.trod_bool ht h
 exact ⟨b, rfl⟩
end
open Go Go.ChangeShapes Go.WideShapes Go.ChangeAt Go.RowKit
theorem bulk_pos {H : Type} (d : DataW H) : 1 ≤ Rows.uptoBulk d := by
 cases d with
 | lit l => cases l <;> simp [Rows.uptoBulk]
 | _ => simp [Rows.uptoBulk]
theorem bulk_part {H : Type} {d : DataW H} : ∀ {l : List (DataW H)}, d ∈ l → Rows.uptoBulk d ≤ Rows.uptoBulkAll l
 | x :: l, h => by
  unfold Rows.uptoBulkAll
  rcases List.mem_cons.1 h with rfl | h
  ·omega
  ·have := bulk_part h; omega
theorem bulk_count {H : Type} : ∀ l : List (DataW H), l.length ≤ Rows.uptoBulkAll l
 | [] => by simp
 | x :: l => by
  have h1 := bulk_pos x
  have h2 := bulk_count l
  unfold Rows.uptoBulkAll
  rw [List.length_cons]; omega
theorem bulk_sum {H : Type} : ∀ l : List (DataW H), (l.map Rows.uptoBulk).sum ≤ Rows.uptoBulkAll l
 | [] => by simp
 | x :: l => by
  have h2 := bulk_sum l
  unfold Rows.uptoBulkAll
  rw [List.map_cons, List.sum_cons]; omega
theorem bulk_small {H : Type} {l : List (DataW H)} (h : Rows.uptoSmall H l = true) {d : DataW H} (hd : d ∈ l) : Rows.uptoBulk d ≤ 1048576 :=
 Nat.le_trans (bulk_part hd) (of_decide_eq_true h)
instance : Inhabited Value := ⟨.bool false⟩
section
variable {H : Type} {enc : TypeId × Value → H} {P : Program} {W : World} {N : Nat}
theorem dec_int' {t : TypeId} {fuel : Nat} {cs : List Value} {x : DataW H × List MemPlace} (ht : P.underlying t = some (.int .i64)) (h : Reads enc P W fuel t cs x) : ∃ n : Int, cs = [vint n] ∧ (-9223372036854775808 ≤ n ∧ n ≤ 9223372036854775807) := by
 obtain ⟨n, h1, h2⟩ := dec_int ht h; exact ⟨n, h1, h2⟩
theorem dec_sliceV {Z : Type} [Inhabited Z] (toC : Z → List Value) (Q : Z → Prop) {t e : TypeId} {sz : Nat} {fuel : Nat} {cs : List Value} {x : DataW H × List MemPlace} (ht : P.underlying t = some (.slice e)) (hc : P.cellsOf e = sz) (hs : 0 < sz)
  (hdec : ∀ (n : Nat) (cs : List Value) (y : DataW H × List MemPlace), Reads enc P W n e cs y → Rows.uptoBulk y.1 ≤ N → ∃ z, cs = toC z ∧ Q z) (h : Reads enc P W fuel t cs x) (hb : Rows.uptoBulk x.1 ≤ N + 1) :
  ∃ z : Value × List Z, cs = [z.1] ∧ (∀ h : Hp, Old W h → rdS sz h z.1 z.2.length (z.2.flatMap toC)) ∧ z.2.length ≤ N ∧ ∀ y ∈ z.2, Q y := by
 subst hc
 rcases Go.Deep.open_slice ht h with ⟨rfl, rfl⟩ | ⟨a, len, cap, m, n, Dd, Pl, rfl, -, hl, hm, hmm, rfl, hx⟩
 ·exact ⟨(_, []), rfl, fun h _ => .inl ⟨rfl, rfl, none, 0, rfl⟩, by simp, by simp⟩
 ·simp only [if_true] at hmm
  subst hmm
  have hbl : len ≤ N := by
   have := bulk_count ((List.range len).map Dd)
   simp only [Rows.uptoBulk] at hb
   rw [List.length_map, List.length_range] at this
   omega
  have hbe : ∀ i, i < len → Rows.uptoBulk (Dd i) ≤ N := fun i hi => by
   have := bulk_part (d := Dd i) (l := (List.range len).map Dd) (List.mem_map_of_mem (by simpa using hi))
   simp only [Rows.uptoBulk] at hb
   omega
  obtain ⟨Zf, hZ⟩ := Go.Deep.choose_lt (α := Z) (p := fun i z => W.cells? 0 (a.add (i * P.cellsOf e)) (P.cellsOf e) = some (toC z) ∧ Q z) (n := len) (fun i hi => by
   obtain ⟨cs', h1, h2⟩ := hx i (by omega)
   obtain ⟨z, rfl, h3⟩ := hdec _ _ _ h2 (hbe i hi)
   exact ⟨z, h1, h3⟩)
  have hlenf : ∀ i, i < len → (toC (Zf i)).length = P.cellsOf e := fun i hi => (World.cells?_some (hZ i hi).1).2.1
  have hflat := flat_at (fun i => toC (Zf i)) len hlenf
  refine ⟨(_, (List.range len).map Zf), rfl, ?_, ?_, ?_⟩
  ·intro h hold
   dsimp only
   rw [List.length_map, List.length_range]
   refine rdS_regroup (c1 := len * P.cellsOf e) ?_ hl hs
   have e1 : ((List.range len).map Zf).flatMap toC = (List.range (len * P.cellsOf e)).map (fun j => ((List.range len).flatMap fun i => toC (Zf i)).getD j (.bool false)) := by
    rw [List.flatMap_map]
    apply List.ext_getElem?
    intro j
    rcases Nat.lt_or_ge j (len * P.cellsOf e) with hj | hj
    ·rw [List.getElem?_map, List.getElem?_range hj]
     have := (hflat j hj).2
     have hjl : j < ((List.range len).flatMap fun i => toC (Zf i)).length := by omega
     simp only [Option.map_some, List.getD_eq_getElem?_getD, List.getElem?_eq_getElem hjl, Option.getD_some]
    ·have : ((List.range len).flatMap fun i => toC (Zf i)).length = len * P.cellsOf e := by
      rcases Nat.eq_zero_or_pos (len * P.cellsOf e) with h0 | h0
      ·have : len = 0 := by
        rcases Nat.eq_zero_or_pos len with h1 | h1
        ·exact h1
        ·have := Nat.mul_pos h1 hs; omega
       subst this; simp
      ·exact (hflat 0 h0).2
     rw [List.getElem?_eq_none (by omega), List.getElem?_eq_none (by simpa using hj)]
   rw [e1]
   refine old_rd (W := W) (fun j hj => ?_) (Nat.le_refl _) h hold
   have hi : j / P.cellsOf e < len := Nat.div_lt_of_lt_mul (by rw [Nat.mul_comm]; exact hj)
   have hcell := (World.cells?_some (hZ (j / P.cellsOf e) hi).1).2.2 (j % P.cellsOf e) (Nat.mod_lt _ hs)
   rw [Addr.add_add, Nat.mul_comm, Nat.div_add_mod] at hcell
   rw [hcell]
   obtain ⟨f1, f2⟩ := hflat j hj
   rw [List.getD_eq_getElem?_getD, f1]
   have : j % P.cellsOf e < (toC (Zf (j / P.cellsOf e))).length := by rw [hlenf _ hi]; exact Nat.mod_lt _ hs
   simp [this]
  ·dsimp only; rw [List.length_map, List.length_range]; exact hbl
  ·intro z hz
   obtain ⟨i, hi, rfl⟩ := List.mem_map.1 hz
   exact (hZ i (by simpa using hi)).2
theorem dec_sliceQV {Z : Type} [Inhabited Z] (toC : Z → List Value) (Q : Nat → Z → Prop) {t e : TypeId} {sz : Nat} {fuel : Nat} {cs : List Value} {x : DataW H × List MemPlace} (ht : P.underlying t = some (.slice e)) (hc : P.cellsOf e = sz) (hs : 0 < sz)
  (hdec : ∀ (n : Nat) (cs : List Value) (y : DataW H × List MemPlace), Reads enc P W n e cs y → ∃ z, cs = toC z ∧ Q (Rows.uptoBulk y.1) z) (h : Reads enc P W fuel t cs x) (hb : Rows.uptoBulk x.1 ≤ N + 1) :
  ∃ (z : Value × List Z) (ws : List Nat), cs = [z.1] ∧ (∀ h : Hp, Old W h → rdS sz h z.1 z.2.length (z.2.flatMap toC)) ∧ z.2.length ≤ N ∧ ws.length = z.2.length ∧ ws.sum ≤ N ∧ (∀ w ∈ ws, 1 ≤ w) ∧ ∀ i (h1 : i < z.2.length) (h2 : i < ws.length), Q ws[i] z.2[i] := by
 subst hc
 rcases Go.Deep.open_slice ht h with ⟨rfl, rfl⟩ | ⟨a, len, cap, m, n, Dd, Pl, rfl, -, hl, hm, hmm, rfl, hx⟩
 ·exact ⟨(_, []), [], rfl, fun h _ => .inl ⟨rfl, rfl, none, 0, rfl⟩, by simp, rfl, by simp, (fun _ h => by cases h), (fun i h1 _ => by simp at h1)⟩
 ·simp only [if_true] at hmm
  subst hmm
  have hbl : len ≤ N := by
   have := bulk_count ((List.range len).map Dd)
   simp only [Rows.uptoBulk] at hb
   rw [List.length_map, List.length_range] at this
   omega
  have hall : ((List.range len).map fun i => Rows.uptoBulk (Dd i)).sum ≤ N := by
   have := bulk_sum ((List.range len).map Dd)
   rw [List.map_map] at this
   simp only [Rows.uptoBulk] at hb
   have e : ((List.range len).map fun i => Rows.uptoBulk (Dd i)) = (List.range len).map (Rows.uptoBulk ∘ Dd) := rfl
   rw [e]; omega
  obtain ⟨Zf, hZ⟩ := Go.Deep.choose_lt (α := Z) (p := fun i z => W.cells? 0 (a.add (i * P.cellsOf e)) (P.cellsOf e) = some (toC z) ∧ Q (Rows.uptoBulk (Dd i)) z) (n := len) (fun i hi => by
   obtain ⟨cs', h1, h2⟩ := hx i (by omega)
   obtain ⟨z, rfl, h3⟩ := hdec _ _ _ h2
   exact ⟨z, h1, h3⟩)
  have hlenf : ∀ i, i < len → (toC (Zf i)).length = P.cellsOf e := fun i hi => (World.cells?_some (hZ i hi).1).2.1
  have hflat := flat_at (fun i => toC (Zf i)) len hlenf
  refine ⟨(_, (List.range len).map Zf), (List.range len).map fun i => Rows.uptoBulk (Dd i), rfl, ?_, ?_, by simp, hall, ?_, ?_⟩
  ·intro h hold
   dsimp only
   rw [List.length_map, List.length_range]
   refine rdS_regroup (c1 := len * P.cellsOf e) ?_ hl hs
   have e1 : ((List.range len).map Zf).flatMap toC = (List.range (len * P.cellsOf e)).map (fun j => ((List.range len).flatMap fun i => toC (Zf i)).getD j (.bool false)) := by
    rw [List.flatMap_map]
    apply List.ext_getElem?
    intro j
    rcases Nat.lt_or_ge j (len * P.cellsOf e) with hj | hj
    ·rw [List.getElem?_map, List.getElem?_range hj]
     have := (hflat j hj).2
     have hjl : j < ((List.range len).flatMap fun i => toC (Zf i)).length := by omega
     simp only [Option.map_some, List.getD_eq_getElem?_getD, List.getElem?_eq_getElem hjl, Option.getD_some]
    ·have : ((List.range len).flatMap fun i => toC (Zf i)).length = len * P.cellsOf e := by
      rcases Nat.eq_zero_or_pos (len * P.cellsOf e) with h0 | h0
      ·have : len = 0 := by
        rcases Nat.eq_zero_or_pos len with h1 | h1
        ·exact h1
        ·have := Nat.mul_pos h1 hs; omega
       subst this; simp
      ·exact (hflat 0 h0).2
     rw [List.getElem?_eq_none (by omega), List.getElem?_eq_none (by simpa using hj)]
   rw [e1]
   refine old_rd (W := W) (fun j hj => ?_) (Nat.le_refl _) h hold
   have hi : j / P.cellsOf e < len := Nat.div_lt_of_lt_mul (by rw [Nat.mul_comm]; exact hj)
   have hcell := (World.cells?_some (hZ (j / P.cellsOf e) hi).1).2.2 (j % P.cellsOf e) (Nat.mod_lt _ hs)
   rw [Addr.add_add, Nat.mul_comm, Nat.div_add_mod] at hcell
   rw [hcell]
   obtain ⟨f1, f2⟩ := hflat j hj
   rw [List.getD_eq_getElem?_getD, f1]
   have : j % P.cellsOf e < (toC (Zf (j / P.cellsOf e))).length := by rw [hlenf _ hi]; exact Nat.mod_lt _ hs
   simp [this]
  ·dsimp only; rw [List.length_map, List.length_range]; exact hbl
  ·intro w hw
   obtain ⟨i, -, rfl⟩ := List.mem_map.1 hw
   exact bulk_pos _
  ·intro i h1 h2
   simp only [List.getElem_map, List.getElem_range]
   exact (hZ i (by simpa using h1)).2
/-! ### With weights: what is read weighs no more than its bulk -/
theorem dec_strW {t : TypeId} {fuel : Nat} {cs : List Value} {x : DataW H × List MemPlace} (ht : P.underlying t = some .string) (h : Reads enc P W fuel t cs x) : ∃ s : List UInt8, cs = [vstr s] ∧ s.length + 1 ≤ Rows.uptoBulk x.1 := by
 obtain ⟨s, rfl, rfl, -⟩ := DataW.trod_string ht h
 exact ⟨s.data.toList, by rw [string_vstr], by simp [Rows.uptoBulk]⟩
theorem dec_intW {t : TypeId} {fuel : Nat} {cs : List Value} {x : DataW H × List MemPlace} (ht : P.underlying t = some (.int .i64)) (h : Reads enc P W fuel t cs x) : ∃ n : Int, cs = [vint n] ∧ (-9223372036854775808 ≤ n ∧ n ≤ 9223372036854775807) ∧ 1 ≤ Rows.uptoBulk x.1 := by
 obtain ⟨n, h1, h2⟩ := dec_int' ht h; exact ⟨n, h1, h2, bulk_pos _⟩
theorem slice_shape {t e : TypeId} {fuel : Nat} {v : Value} {x : DataW H × List MemPlace} (ht : P.underlying t = some (.slice e)) (h : Reads enc P W fuel t [v] x) : ∃ a n c, v = .slice a n c := by
 rcases Go.Deep.open_slice ht h with ⟨hv, -⟩ | ⟨a, len, cap, m, n, Dd, Pl, hv, -⟩
 ·rw [List.cons.injEq] at hv; rw [hv.1]; exact ⟨_, _, _, rfl⟩
 ·rw [List.cons.injEq] at hv; rw [hv.1]; exact ⟨_, _, _, rfl⟩
theorem sum_le {Z : Type} {m : Z → Nat} : ∀ {l : List Z} {ws : List Nat}, ws.length = l.length → (∀ i (h1 : i < l.length) (h2 : i < ws.length), m l[i] ≤ ws[i]) → (l.map m).sum ≤ ws.sum
 | [], _, _, _ => by simp
 | z :: l, [], h, _ => by simp at h
 | z :: l, w :: ws, h, hq => by
  have h0 := hq 0 (by simp) (by simp)
  have h1 := sum_le (l := l) (ws := ws) (m := m) (by simpa using h) (fun i h1 h2 => hq (i + 1) (by simpa using h1) (by simpa using h2))
  rw [List.map_cons, List.sum_cons, List.sum_cons]
  have h0' : m z ≤ w := h0
  omega
theorem dec_sliceW {Z : Type} [Inhabited Z] (toC : Z → List Value) (Q : Z → Prop) (m : Z → Nat) {t e : TypeId} {sz : Nat} {fuel : Nat} {cs : List Value} {x : DataW H × List MemPlace} (ht : P.underlying t = some (.slice e)) (hc : P.cellsOf e = sz) (hs : 0 < sz)
  (hdec : ∀ (n : Nat) (cs : List Value) (y : DataW H × List MemPlace), Reads enc P W n e cs y → ∃ z, cs = toC z ∧ Q z ∧ m z ≤ Rows.uptoBulk y.1) (h : Reads enc P W fuel t cs x) :
  ∃ z : Value × List Z, cs = [z.1] ∧ (∀ h : Hp, Old W h → rdS sz h z.1 z.2.length (z.2.flatMap toC)) ∧ (∀ y ∈ z.2, Q y) ∧ z.2.length + 1 ≤ Rows.uptoBulk x.1 ∧ 1 + (z.2.map m).sum ≤ Rows.uptoBulk x.1 := by
 have hp := bulk_pos x.1
 obtain ⟨z, ws, h1, h2, h3, h4, h5, -, h7⟩ := dec_sliceQV (N := Rows.uptoBulk x.1 - 1) toC (fun B z => Q z ∧ m z ≤ B) ht hc hs hdec h (by omega)
 refine ⟨z, h1, h2, fun y hy => ?_, by omega, ?_⟩
 ·obtain ⟨i, hi, rfl⟩ := List.mem_iff_getElem.1 hy
  exact (h7 i hi (by omega)).1
 ·have := sum_le (m := m) h4 (fun i g1 g2 => (h7 i g1 g2).2)
  omega
theorem rd_shape {sz n : Nat} {v : Value} {ys : List Value} (hr : ∀ h : Hp, Old W h → rdS sz h v n ys) : ∃ a c, v = .slice a n c := by
 have h := hr (fun b => if b < W.heap.size then W.heap[b]? else none) (fun b hb => if_pos hb)
 rcases h with ⟨rfl, -, a, c, rfl⟩ | ⟨b, off, cap, l, T, fr, rfl, -⟩
 ·exact ⟨_, _, rfl⟩
 ·exact ⟨_, _, rfl⟩
end
open Go Go.ChangeShapes Go.WideShapes Go.ChangeAt Go.RowKit
def mAc (a : Ac) : Nat := 3 + a.2.length
theorem sum_mem {α : Type} {m : α → Nat} : ∀ {l : List α} {x : α}, x ∈ l → m x ≤ (l.map m).sum
 | y :: l, x, h => by
  rw [List.map_cons, List.sum_cons]
  rcases List.mem_cons.1 h with rfl | h
  ·omega
  ·have := sum_mem (m := m) h; omega
theorem sum_three {α : Type} {m : α → Nat} (hm : ∀ x, 3 ≤ m x) : ∀ l : List α, 3 * l.length ≤ (l.map m).sum
 | [] => by simp
 | y :: l => by have := sum_three hm l; have := hm y; rw [List.map_cons, List.sum_cons, List.length_cons]; omega
theorem fm_weigh {α : Type} {f : α → Bs} {m : α → Nat} : ∀ {l : List α}, (∀ x ∈ l, (f x).length ≤ 20 * m x) → (l.flatMap f).length ≤ 20 * (l.map m).sum
 | [], _ => by simp
 | y :: l, h => by
  have h1 := h y (List.mem_cons_self ..)
  have h2 := fm_weigh (l := l) (m := m) (f := f) (fun x hx => h x (List.mem_cons_of_mem _ hx))
  rw [List.flatMap_cons, List.length_append, List.map_cons, List.sum_cons]; omega
theorem aclW_of {l : List Ac} (h : ∀ a ∈ l, I64 a.1) (hm : (l.map mAc).sum ≤ 1048576) : AclW l := by
 have hl := sum_three (m := mAc) (fun a => by unfold mAc; omega) l
 have hu : U64 = 18446744073709551616 := rfl
 have hi : ∀ a ∈ l, a.2.length ≤ 1048576 := fun a ha => by
  have h1 := sum_mem (m := mAc) ha
  have h2 : mAc a = 3 + a.2.length := rfl
  omega
 refine ⟨by omega, ?_, fun a ha => ⟨⟨h a ha, by have := hi a ha; omega⟩, hi a ha⟩⟩
 have h3 := fm_weigh (f := acB) (m := mAc) (l := l) (fun a ha => by
  have h1 := numB_len8 (h a ha)
  have h2 := sev_len10 (u := a.2.length) (by have := hi a ha; omega)
  unfold acB txtB cntB mAc
  rw [List.length_append, List.length_append]; omega)
 have h4 := sev_len10 (u := l.length) (by omega)
 unfold aclB cntB
 rw [List.length_append]; omega
instance : Inhabited Pt := ⟨ptS 0 [] [] 0⟩
instance : Inhabited En := ⟨⟨0, 0, 0, ptS 0 [] [] 0, []⟩⟩
instance : Inhabited Rq := ⟨⟨0, 0, [], [], nilV, [], 0, 0, false, nilV, nilV⟩⟩
def mRq (r : Rq) : Nat := 10 + r.path.length + r.data.length + (r.acl.map mAc).sum
structure RqG (p : HP) (r : Rq) : Prop where
 kind : I64 r.kind
 xid : I64 r.xid
 flags : I64 r.flags
 ver : I64 r.ver
 acl : ∀ h : Hp, p h → rdS 2 h r.aclV r.acl.length (r.acl.flatMap acC)
 ash : ∃ a n c, r.aclV = .slice a n c
 each : ∀ a ∈ r.acl, I64 a.1
 sub : ∃ a n c, r.subsV = .slice a n c
 arm : ∃ a n c, r.armV = .slice a n c
structure RqD (p : HP) (r : Rq) (l : List Rq) : Prop where
 own : RqG p r ∧ mRq r ≤ 1048576
 rd : ∀ h : Hp, p h → rdS 10 h r.subsV l.length (l.flatMap rqC)
 each : ∀ x ∈ l, RqG p x ∧ mRq x ≤ 1048576
theorem RqG.w {p : HP} {r : Rq} (h : RqG p r) (hm : mRq r ≤ 1048576) {s : Int} {iv : Value} {ids : List Bs} (hs : I64 s) (hi : Ids p iv ids) (hT : TabP p) : WiA p ⟨s, ids⟩ iv r := by
 unfold mRq at hm
 have h3 := sum_three (m := mAc) (fun a => by unfold mAc; omega) r.acl
 refine ⟨⟨h.kind, h.xid, h.flags, h.ver, by omega, by omega, h.acl, by omega, fun a ha => ⟨h.each a ha, ?_⟩, h.sub, h.arm⟩, hs, hi.1, hi.2.1, hi.2.2, h.ash, hT⟩
 have h1 := sum_mem (m := mAc) ha
 have h2 : mAc a = 3 + a.2.length := rfl
 omega
theorem RqD.wi {p : HP} {r : Rq} {l : List Rq} (h : RqD p r l) {s : Int} {iv : Value} {ids : List Bs} (hs : I64 s) (hi : Ids p iv ids) (hT : TabP p) : WiD p ⟨s, ids⟩ iv r l := by
 have ha : ∀ x : Rq, RqG p x → mRq x ≤ 1048576 → AclW x.acl := fun x hx hm => aclW_of hx.each (by unfold mRq at hm; omega)
 exact ⟨h.own.1.w h.own.2 hs hi hT, ha _ h.own.1 h.own.2, h.rd, fun x hx => (h.each x hx).1.w (h.each x hx).2 hs hi hT, fun x hx => ha _ (h.each x hx).1 (h.each x hx).2⟩
theorem tab_of {W : World} (h : Lib.TabIs Tryz.prog W "internal/strconv.uint64pow10" .u64 Lib.pow10Tab) {g : Nat} (hg : Tryz.prog.globalNamed "internal/strconv.uint64pow10" = some g) : TabP (Old W) := by
 intro hp w hold hle
 unfold Lib.TabIs World.var? at h ⊢
 rw [hg] at h ⊢
 simp only [Option.bind_some] at h ⊢
 cases e : W.heap[g]? with
 | none => rw [e] at h; cases h
 | some o =>
  have hlt : g < W.heap.size := (Array.getElem?_eq_some_iff.1 e).1
  have h2 : w.heap[g]? = some o := hle g o (by rw [hold g hlt, e])
  rw [h2]
  rw [e] at h
  exact h
theorem decAc {H : Type} {enc : TypeId × Value → H} {W : World} (n : Nat) (cs : List Value) (y : DataW H × List MemPlace) (h : Reads enc Tryz.prog W n 75 cs y) : ∃ a : Ac, cs = acC a ∧ I64 a.1 ∧ mAc a ≤ Rows.uptoBulk y.1 := by
 obtain ⟨xs, m, -, rfl, hlen, hxs, hf⟩ := DataW.trod_struct Tryz.underlying75 h
 rw [show Tryz.prog.cellsOf 75 = 2 by kernel_rfl] at hlen
 obtain ⟨a0, a1, rfl⟩ : ∃ a0 a1, cs = [a0, a1] := by
  match cs, hlen with
  | [a0, a1], _ => exact ⟨a0, a1, rfl⟩
 obtain ⟨y0, y1, rfl⟩ : ∃ y0 y1, xs = [y0, y1] := by
  match xs, hxs with
  | [y0, y1], _ => exact ⟨y0, y1, rfl⟩
 try simp only [Rows.uptoBulk, Rows.uptoBulkAll, List.map_cons, List.map_nil]
 have g0 : Reads enc Tryz.prog W m 3 (([a0, a1] : List Value).drop 0 |>.take (Tryz.prog.cellsOf 3)) y0 := hf 0 _ rfl
 rw [show Tryz.prog.cellsOf 3 = 1 by kernel_rfl] at g0
 have p0 := bulk_pos y0.1
 obtain ⟨z0, e0, q0, r0⟩ := dec_intW Tryz.underlying3 g0
 try simp at e0
 have g1 : Reads enc Tryz.prog W m 9 (([a0, a1] : List Value).drop 1 |>.take (Tryz.prog.cellsOf 9)) y1 := hf 1 _ rfl
 rw [show Tryz.prog.cellsOf 9 = 1 by kernel_rfl] at g1
 have p1 := bulk_pos y1.1
 obtain ⟨z1, e1, r1⟩ := dec_strW Tryz.underlying9 g1
 try simp at e1
 subst e0
 subst e1
 exact ⟨(z0, z1), rfl, q0, by unfold mAc; dsimp only; omega⟩
theorem decRq {H : Type} {enc : TypeId × Value → H} {W : World} (n : Nat) (cs : List Value) (y : DataW H × List MemPlace) (h : Reads enc Tryz.prog W n 33 cs y) : ∃ r0 : Rq, cs = rqC r0 ∧ RqG (Old W) r0 ∧ mRq r0 ≤ Rows.uptoBulk y.1 := by
 obtain ⟨xs, m, -, rfl, hlen, hxs, hf⟩ := DataW.trod_struct Tryz.underlying33 h
 rw [show Tryz.prog.cellsOf 33 = 10 by kernel_rfl] at hlen
 obtain ⟨a0, a1, a2, a3, a4, a5, a6, a7, a8, a9, rfl⟩ : ∃ a0 a1 a2 a3 a4 a5 a6 a7 a8 a9, cs = [a0, a1, a2, a3, a4, a5, a6, a7, a8, a9] := by
  match cs, hlen with
  | [a0, a1, a2, a3, a4, a5, a6, a7, a8, a9], _ => exact ⟨a0, a1, a2, a3, a4, a5, a6, a7, a8, a9, rfl⟩
 obtain ⟨y0, y1, y2, y3, y4, y5, y6, y7, y8, y9, rfl⟩ : ∃ y0 y1 y2 y3 y4 y5 y6 y7 y8 y9, xs = [y0, y1, y2, y3, y4, y5, y6, y7, y8, y9] := by
  match xs, hxs with
  | [y0, y1, y2, y3, y4, y5, y6, y7, y8, y9], _ => exact ⟨y0, y1, y2, y3, y4, y5, y6, y7, y8, y9, rfl⟩
 try simp only [Rows.uptoBulk, Rows.uptoBulkAll, List.map_cons, List.map_nil]
 have g0 : Reads enc Tryz.prog W m 3 (([a0, a1, a2, a3, a4, a5, a6, a7, a8, a9] : List Value).drop 0 |>.take (Tryz.prog.cellsOf 3)) y0 := hf 0 _ rfl
 rw [show Tryz.prog.cellsOf 3 = 1 by kernel_rfl] at g0
 have p0 := bulk_pos y0.1
 obtain ⟨z0, e0, q0, r0⟩ := dec_intW Tryz.underlying3 g0
 try simp at e0
 have g1 : Reads enc Tryz.prog W m 3 (([a0, a1, a2, a3, a4, a5, a6, a7, a8, a9] : List Value).drop 1 |>.take (Tryz.prog.cellsOf 3)) y1 := hf 1 _ rfl
 rw [show Tryz.prog.cellsOf 3 = 1 by kernel_rfl] at g1
 have p1 := bulk_pos y1.1
 obtain ⟨z1, e1, q1, r1⟩ := dec_intW Tryz.underlying3 g1
 try simp at e1
 have g2 : Reads enc Tryz.prog W m 9 (([a0, a1, a2, a3, a4, a5, a6, a7, a8, a9] : List Value).drop 2 |>.take (Tryz.prog.cellsOf 9)) y2 := hf 2 _ rfl
 rw [show Tryz.prog.cellsOf 9 = 1 by kernel_rfl] at g2
 have p2 := bulk_pos y2.1
 obtain ⟨z2, e2, r2⟩ := dec_strW Tryz.underlying9 g2
 try simp at e2
 have g3 : Reads enc Tryz.prog W m 9 (([a0, a1, a2, a3, a4, a5, a6, a7, a8, a9] : List Value).drop 3 |>.take (Tryz.prog.cellsOf 9)) y3 := hf 3 _ rfl
 rw [show Tryz.prog.cellsOf 9 = 1 by kernel_rfl] at g3
 have p3 := bulk_pos y3.1
 obtain ⟨z3, e3, r3⟩ := dec_strW Tryz.underlying9 g3
 try simp at e3
 have g4 : Reads enc Tryz.prog W m 30 (([a0, a1, a2, a3, a4, a5, a6, a7, a8, a9] : List Value).drop 4 |>.take (Tryz.prog.cellsOf 30)) y4 := hf 4 _ rfl
 rw [show Tryz.prog.cellsOf 30 = 1 by kernel_rfl] at g4
 have p4 := bulk_pos y4.1
 obtain ⟨⟨v4, l4⟩, e4, k4, q4, c4, r4⟩ := dec_sliceW acC (fun a => I64 a.1) mAc Tryz.underlying30 (show Tryz.prog.cellsOf 75 = 2 by kernel_rfl) (by decide) (fun n cs y h => decAc n cs y h) g4
 dsimp only at e4 k4 q4 c4 r4
 have ck4 : isCell v4 = true := by obtain ⟨sa, sc, hs⟩ := rd_shape k4; rw [hs]; rfl
 have sh4 : ∃ a n c, v4 = .slice a n c := by obtain ⟨sa, sc, hs⟩ := rd_shape k4; exact ⟨_, _, _, hs⟩
 try simp at e4
 have g5 : Reads enc Tryz.prog W m 3 (([a0, a1, a2, a3, a4, a5, a6, a7, a8, a9] : List Value).drop 5 |>.take (Tryz.prog.cellsOf 3)) y5 := hf 5 _ rfl
 rw [show Tryz.prog.cellsOf 3 = 1 by kernel_rfl] at g5
 have p5 := bulk_pos y5.1
 obtain ⟨z5, e5, q5, r5⟩ := dec_intW Tryz.underlying3 g5
 try simp at e5
 have g6 : Reads enc Tryz.prog W m 3 (([a0, a1, a2, a3, a4, a5, a6, a7, a8, a9] : List Value).drop 6 |>.take (Tryz.prog.cellsOf 3)) y6 := hf 6 _ rfl
 rw [show Tryz.prog.cellsOf 3 = 1 by kernel_rfl] at g6
 have p6 := bulk_pos y6.1
 obtain ⟨z6, e6, q6, r6⟩ := dec_intW Tryz.underlying3 g6
 try simp at e6
 have g7 : Reads enc Tryz.prog W m 4 (([a0, a1, a2, a3, a4, a5, a6, a7, a8, a9] : List Value).drop 7 |>.take (Tryz.prog.cellsOf 4)) y7 := hf 7 _ rfl
 rw [show Tryz.prog.cellsOf 4 = 1 by kernel_rfl] at g7
 have p7 := bulk_pos y7.1
 obtain ⟨z7, e7⟩ := dec_bool Tryz.underlying4 g7
 try simp at e7
 have g8 : Reads enc Tryz.prog W m 23 (([a0, a1, a2, a3, a4, a5, a6, a7, a8, a9] : List Value).drop 8 |>.take (Tryz.prog.cellsOf 23)) y8 := hf 8 _ rfl
 rw [show Tryz.prog.cellsOf 23 = 1 by kernel_rfl] at g8
 have p8 := bulk_pos y8.1
 obtain ⟨z8, e8, s8⟩ : ∃ z : Value, a8 = z ∧ ∃ a n c, z = .slice a n c := ⟨_, rfl, slice_shape Tryz.underlying23 g8⟩
 have ck8 : isCell z8 = true := by obtain ⟨sa, sn, sc, hs⟩ := s8; rw [hs]; rfl
 try simp at e8
 have g9 : Reads enc Tryz.prog W m 31 (([a0, a1, a2, a3, a4, a5, a6, a7, a8, a9] : List Value).drop 9 |>.take (Tryz.prog.cellsOf 31)) y9 := hf 9 _ rfl
 rw [show Tryz.prog.cellsOf 31 = 1 by kernel_rfl] at g9
 have p9 := bulk_pos y9.1
 obtain ⟨z9, e9, s9⟩ : ∃ z : Value, a9 = z ∧ ∃ a n c, z = .slice a n c := ⟨_, rfl, slice_shape Tryz.underlying31 g9⟩
 have ck9 : isCell z9 = true := by obtain ⟨sa, sn, sc, hs⟩ := s9; rw [hs]; rfl
 try simp at e9
 subst e0
 subst e1
 subst e2
 subst e3
 subst e4
 subst e5
 subst e6
 subst e7
 subst e8
 subst e9
 exact ⟨⟨z0, z1, z2, z3, a4, l4, z5, z6, z7, a8, a9⟩, rfl, ⟨q0, q1, q5, q6, k4, sh4, q4, s8, s9⟩, by unfold mRq; dsimp only; omega⟩
open Go Go.ChangeShapes Go.WideShapes Go.ChangeAt Go.RowKit
instance : Inhabited Sp13 := ⟨⟨0, 0, 0, ⟨0, 0, [], [], nilV, [], 0, 0, false, nilV, nilV⟩, [], [], false⟩⟩
theorem sum_at13 {l : List Nat} {i : Nat} (h : i < l.length) : l[i] ≤ l.sum := by
 have := sum_mem (m := id) (l := l) (List.getElem_mem h)
 simpa using this
def mArm (a : Arm) : Nat := 5 + a.2.1.length
structure RqV (p : HP) (r : Rq) (l : List Rq) (m : List Arm) : Prop where
 d : RqD p r l
 a : ArmsA p r.armV m
theorem RqV.A {p : HP} {r : Rq} {l : List Rq} {m : List Arm} (h : RqV p r l m) (hT : TabP p) (hZ : TzP p) {s : Int} (hs : I64 s) : CallA p s r l m :=
 ⟨h.d.wi hs ⟨fun _ _ => .inl ⟨rfl, rfl, none, 0, rfl⟩, Nat.zero_le _, none, 0, 0, rfl⟩ hT, hZ, h.a⟩
structure SpQ (p : HP) (x : Sp13) : Prop where
 nums : I64 x.what ∧ I64 x.ses ∧ I64 x.tmo
 r : RqV p x.r x.subs x.arm
structure StQ (p : HP) (v : Value) (l : List Sp13) : Prop where
 cells : ∀ h : Hp, p h → rdS 14 h v l.length (l.flatMap spC)
 len : l.length ≤ 1048576
 each : ∀ x ∈ l, SpQ p x
theorem StQ.A {p : HP} {v : Value} {l : List Sp13} (h : StQ p v l) (hT : TabP p) (hZ : TzP p) : StA p v l := ⟨h.cells, h.len, fun x hx => (h.each x hx).nums, fun x hx _ hs => (h.each x hx).r.A hT hZ hs⟩
theorem tz_of {W : World} (h : Lib.TabIs Tryz.prog W "math/bits.deBruijn64tab" .u8 (Lib.deBruijn64tab.map fun n : Nat => (n : Int))) {g : Nat} (hg : Tryz.prog.globalNamed "math/bits.deBruijn64tab" = some g) : TzP (Old W) := by
 intro hp w hold hle
 unfold Lib.TabIs World.var? at h ⊢
 rw [hg] at h ⊢
 simp only [Option.bind_some] at h ⊢
 cases e : W.heap[g]? with
 | none => rw [e] at h; cases h
 | some o =>
  have hlt : g < W.heap.size := (Array.getElem?_eq_some_iff.1 e).1
  have h2 : w.heap[g]? = some o := hle g o (by rw [hold g hlt, e])
  rw [h2]
  rw [e] at h
  exact h
theorem decArm {H : Type} {enc : TypeId × Value → H} {W : World} (n : Nat) (cs : List Value) (y : DataW H × List MemPlace) (h : Reads enc Tryz.prog W n 186 cs y) : ∃ a : Arm, cs = armC a ∧ True ∧ mArm a ≤ Rows.uptoBulk y.1 := by
 obtain ⟨xs, m, -, rfl, hlen, hxs, hf⟩ := DataW.trod_struct Tryz.underlying186 h
 rw [show Tryz.prog.cellsOf 186 = 5 by kernel_rfl] at hlen
 obtain ⟨a0, a1, a2, a3, a4, rfl⟩ : ∃ a0 a1 a2 a3 a4, cs = [a0, a1, a2, a3, a4] := by
  match cs, hlen with
  | [a0, a1, a2, a3, a4], _ => exact ⟨a0, a1, a2, a3, a4, rfl⟩
 obtain ⟨y0, y1, y2, y3, y4, rfl⟩ : ∃ y0 y1 y2 y3 y4, xs = [y0, y1, y2, y3, y4] := by
  match xs, hxs with
  | [y0, y1, y2, y3, y4], _ => exact ⟨y0, y1, y2, y3, y4, rfl⟩
 try simp only [Rows.uptoBulk, Rows.uptoBulkAll, List.map_cons, List.map_nil]
 have g0 : Reads enc Tryz.prog W m 3 (([a0, a1, a2, a3, a4] : List Value).drop 0 |>.take (Tryz.prog.cellsOf 3)) y0 := hf 0 _ rfl
 rw [show Tryz.prog.cellsOf 3 = 1 by kernel_rfl] at g0
 have p0 := bulk_pos y0.1
 obtain ⟨z0, e0, q0, r0⟩ := dec_intW Tryz.underlying3 g0
 try simp at e0
 have g1 : Reads enc Tryz.prog W m 9 (([a0, a1, a2, a3, a4] : List Value).drop 1 |>.take (Tryz.prog.cellsOf 9)) y1 := hf 1 _ rfl
 rw [show Tryz.prog.cellsOf 9 = 1 by kernel_rfl] at g1
 have p1 := bulk_pos y1.1
 obtain ⟨z1, e1, r1⟩ := dec_strW Tryz.underlying9 g1
 try simp at e1
 have g2 : Reads enc Tryz.prog W m 3 (([a0, a1, a2, a3, a4] : List Value).drop 2 |>.take (Tryz.prog.cellsOf 3)) y2 := hf 2 _ rfl
 rw [show Tryz.prog.cellsOf 3 = 1 by kernel_rfl] at g2
 have p2 := bulk_pos y2.1
 obtain ⟨z2, e2, q2, r2⟩ := dec_intW Tryz.underlying3 g2
 try simp at e2
 have g3 : Reads enc Tryz.prog W m 3 (([a0, a1, a2, a3, a4] : List Value).drop 3 |>.take (Tryz.prog.cellsOf 3)) y3 := hf 3 _ rfl
 rw [show Tryz.prog.cellsOf 3 = 1 by kernel_rfl] at g3
 have p3 := bulk_pos y3.1
 obtain ⟨z3, e3, q3, r3⟩ := dec_intW Tryz.underlying3 g3
 try simp at e3
 have g4 : Reads enc Tryz.prog W m 3 (([a0, a1, a2, a3, a4] : List Value).drop 4 |>.take (Tryz.prog.cellsOf 3)) y4 := hf 4 _ rfl
 rw [show Tryz.prog.cellsOf 3 = 1 by kernel_rfl] at g4
 have p4 := bulk_pos y4.1
 obtain ⟨z4, e4, q4, r4⟩ := dec_intW Tryz.underlying3 g4
 try simp at e4
 subst e0
 subst e1
 subst e2
 subst e3
 subst e4
 exact ⟨(z0, (z1, (z2, (z3, z4)))), rfl, trivial, by unfold mArm; dsimp only; omega⟩
theorem decRqV {H : Type} {enc : TypeId × Value → H} {W : World} (n : Nat) (cs : List Value) (y : DataW H × List MemPlace) (h : Reads enc Tryz.prog W n 33 cs y) : ∃ (r0 : Rq) (l : List Rq) (m : List Arm), cs = rqC r0 ∧ (Rows.uptoBulk y.1 ≤ 1048576 → RqV (Old W) r0 l m) := by
 obtain ⟨xs, m, -, rfl, hlen, hxs, hf⟩ := DataW.trod_struct Tryz.underlying33 h
 rw [show Tryz.prog.cellsOf 33 = 10 by kernel_rfl] at hlen
 obtain ⟨a0, a1, a2, a3, a4, a5, a6, a7, a8, a9, rfl⟩ : ∃ a0 a1 a2 a3 a4 a5 a6 a7 a8 a9, cs = [a0, a1, a2, a3, a4, a5, a6, a7, a8, a9] := by
  match cs, hlen with
  | [a0, a1, a2, a3, a4, a5, a6, a7, a8, a9], _ => exact ⟨a0, a1, a2, a3, a4, a5, a6, a7, a8, a9, rfl⟩
 obtain ⟨y0, y1, y2, y3, y4, y5, y6, y7, y8, y9, rfl⟩ : ∃ y0 y1 y2 y3 y4 y5 y6 y7 y8 y9, xs = [y0, y1, y2, y3, y4, y5, y6, y7, y8, y9] := by
  match xs, hxs with
  | [y0, y1, y2, y3, y4, y5, y6, y7, y8, y9], _ => exact ⟨y0, y1, y2, y3, y4, y5, y6, y7, y8, y9, rfl⟩
 try simp only [Rows.uptoBulk, Rows.uptoBulkAll, List.map_cons, List.map_nil]
 have g0 : Reads enc Tryz.prog W m 3 (([a0, a1, a2, a3, a4, a5, a6, a7, a8, a9] : List Value).drop 0 |>.take (Tryz.prog.cellsOf 3)) y0 := hf 0 _ rfl
 rw [show Tryz.prog.cellsOf 3 = 1 by kernel_rfl] at g0
 have p0 := bulk_pos y0.1
 obtain ⟨z0, e0, q0, r0⟩ := dec_intW Tryz.underlying3 g0
 try simp at e0
 have g1 : Reads enc Tryz.prog W m 3 (([a0, a1, a2, a3, a4, a5, a6, a7, a8, a9] : List Value).drop 1 |>.take (Tryz.prog.cellsOf 3)) y1 := hf 1 _ rfl
 rw [show Tryz.prog.cellsOf 3 = 1 by kernel_rfl] at g1
 have p1 := bulk_pos y1.1
 obtain ⟨z1, e1, q1, r1⟩ := dec_intW Tryz.underlying3 g1
 try simp at e1
 have g2 : Reads enc Tryz.prog W m 9 (([a0, a1, a2, a3, a4, a5, a6, a7, a8, a9] : List Value).drop 2 |>.take (Tryz.prog.cellsOf 9)) y2 := hf 2 _ rfl
 rw [show Tryz.prog.cellsOf 9 = 1 by kernel_rfl] at g2
 have p2 := bulk_pos y2.1
 obtain ⟨z2, e2, r2⟩ := dec_strW Tryz.underlying9 g2
 try simp at e2
 have g3 : Reads enc Tryz.prog W m 9 (([a0, a1, a2, a3, a4, a5, a6, a7, a8, a9] : List Value).drop 3 |>.take (Tryz.prog.cellsOf 9)) y3 := hf 3 _ rfl
 rw [show Tryz.prog.cellsOf 9 = 1 by kernel_rfl] at g3
 have p3 := bulk_pos y3.1
 obtain ⟨z3, e3, r3⟩ := dec_strW Tryz.underlying9 g3
 try simp at e3
 have g4 : Reads enc Tryz.prog W m 30 (([a0, a1, a2, a3, a4, a5, a6, a7, a8, a9] : List Value).drop 4 |>.take (Tryz.prog.cellsOf 30)) y4 := hf 4 _ rfl
 rw [show Tryz.prog.cellsOf 30 = 1 by kernel_rfl] at g4
 have p4 := bulk_pos y4.1
 obtain ⟨⟨v4, l4⟩, e4, k4, q4, c4, r4⟩ := dec_sliceW acC (fun a => I64 a.1) mAc Tryz.underlying30 (show Tryz.prog.cellsOf 75 = 2 by kernel_rfl) (by decide) (fun n cs y h => decAc n cs y h) g4
 dsimp only at e4 k4 q4 c4 r4
 have ck4 : isCell v4 = true := by obtain ⟨sa, sc, hs⟩ := rd_shape k4; rw [hs]; rfl
 have sh4 : ∃ a n c, v4 = .slice a n c := by obtain ⟨sa, sc, hs⟩ := rd_shape k4; exact ⟨_, _, _, hs⟩
 try simp at e4
 have g5 : Reads enc Tryz.prog W m 3 (([a0, a1, a2, a3, a4, a5, a6, a7, a8, a9] : List Value).drop 5 |>.take (Tryz.prog.cellsOf 3)) y5 := hf 5 _ rfl
 rw [show Tryz.prog.cellsOf 3 = 1 by kernel_rfl] at g5
 have p5 := bulk_pos y5.1
 obtain ⟨z5, e5, q5, r5⟩ := dec_intW Tryz.underlying3 g5
 try simp at e5
 have g6 : Reads enc Tryz.prog W m 3 (([a0, a1, a2, a3, a4, a5, a6, a7, a8, a9] : List Value).drop 6 |>.take (Tryz.prog.cellsOf 3)) y6 := hf 6 _ rfl
 rw [show Tryz.prog.cellsOf 3 = 1 by kernel_rfl] at g6
 have p6 := bulk_pos y6.1
 obtain ⟨z6, e6, q6, r6⟩ := dec_intW Tryz.underlying3 g6
 try simp at e6
 have g7 : Reads enc Tryz.prog W m 4 (([a0, a1, a2, a3, a4, a5, a6, a7, a8, a9] : List Value).drop 7 |>.take (Tryz.prog.cellsOf 4)) y7 := hf 7 _ rfl
 rw [show Tryz.prog.cellsOf 4 = 1 by kernel_rfl] at g7
 have p7 := bulk_pos y7.1
 obtain ⟨z7, e7⟩ := dec_bool Tryz.underlying4 g7
 try simp at e7
 have g8 : Reads enc Tryz.prog W m 23 (([a0, a1, a2, a3, a4, a5, a6, a7, a8, a9] : List Value).drop 8 |>.take (Tryz.prog.cellsOf 23)) y8 := hf 8 _ rfl
 rw [show Tryz.prog.cellsOf 23 = 1 by kernel_rfl] at g8
 have p8 := bulk_pos y8.1
 obtain ⟨⟨v8, l8⟩, e8, k8, q8, c8, r8⟩ := dec_sliceW rqC (fun r => RqG (Old W) r) mRq Tryz.underlying23 (show Tryz.prog.cellsOf 33 = 10 by kernel_rfl) (by decide) (fun n cs y h => decRq n cs y h) g8
 dsimp only at e8 k8 q8 c8 r8
 have ck8 : isCell v8 = true := by obtain ⟨sa, sc, hs⟩ := rd_shape k8; rw [hs]; rfl
 have sh8 : ∃ a n c, v8 = .slice a n c := by obtain ⟨sa, sc, hs⟩ := rd_shape k8; exact ⟨_, _, _, hs⟩
 try simp at e8
 have g9 : Reads enc Tryz.prog W m 31 (([a0, a1, a2, a3, a4, a5, a6, a7, a8, a9] : List Value).drop 9 |>.take (Tryz.prog.cellsOf 31)) y9 := hf 9 _ rfl
 rw [show Tryz.prog.cellsOf 31 = 1 by kernel_rfl] at g9
 have p9 := bulk_pos y9.1
 obtain ⟨⟨v9, l9⟩, e9, k9, q9, c9, r9⟩ := dec_sliceW armC (fun _ => True) mArm Tryz.underlying31 (show Tryz.prog.cellsOf 186 = 5 by kernel_rfl) (by decide) (fun n cs y h => decArm n cs y h) g9
 dsimp only at e9 k9 q9 c9 r9
 have ck9 : isCell v9 = true := by obtain ⟨sa, sc, hs⟩ := rd_shape k9; rw [hs]; rfl
 have sh9 : ∃ a n c, v9 = .slice a n c := by obtain ⟨sa, sc, hs⟩ := rd_shape k9; exact ⟨_, _, _, hs⟩
 try simp at e9
 subst e0
 subst e1
 subst e2
 subst e3
 subst e4
 subst e5
 subst e6
 subst e7
 subst e8
 subst e9
 refine ⟨⟨z0, z1, z2, z3, a4, l4, z5, z6, z7, a8, a9⟩, l8, l9, rfl, fun hb => ⟨⟨⟨⟨q0, q1, q5, q6, k4, sh4, q4, sh8, sh9⟩, by unfold mRq; dsimp only; omega⟩, k8, fun x hx => ⟨q8 x hx, ?_⟩⟩, k9, by omega, fun a ha => ?_⟩⟩
 ·have h6 := sum_mem (m := mRq) hx
  omega
 ·have h6 := sum_mem (m := mArm) ha
  have h8 : mArm a = 5 + a.2.1.length := rfl
  omega
theorem decSp {H : Type} {enc : TypeId × Value → H} {W : World} (n : Nat) (cs : List Value) (y : DataW H × List MemPlace) (h : Reads enc Tryz.prog W n 35 cs y) : ∃ x : Sp13, cs = spC x ∧ (Rows.uptoBulk y.1 ≤ 1048576 → SpQ (Old W) x) := by
 obtain ⟨xs, m, -, rfl, hlen, hxs, hf⟩ := DataW.trod_struct Tryz.underlying35 h
 rw [show Tryz.prog.cellsOf 35 = 14 by kernel_rfl] at hlen
 obtain ⟨a0, a1, a2, a3, a4, a5, a6, a7, a8, a9, a10, a11, a12, a13, rfl⟩ : ∃ a0 a1 a2 a3 a4 a5 a6 a7 a8 a9 a10 a11 a12 a13, cs = [a0, a1, a2, a3, a4, a5, a6, a7, a8, a9, a10, a11, a12, a13] := by
  match cs, hlen with
  | [a0, a1, a2, a3, a4, a5, a6, a7, a8, a9, a10, a11, a12, a13], _ => exact ⟨a0, a1, a2, a3, a4, a5, a6, a7, a8, a9, a10, a11, a12, a13, rfl⟩
 obtain ⟨y0, y1, y2, y3, y4, rfl⟩ : ∃ y0 y1 y2 y3 y4, xs = [y0, y1, y2, y3, y4] := by
  match xs, hxs with
  | [y0, y1, y2, y3, y4], _ => exact ⟨y0, y1, y2, y3, y4, rfl⟩
 try simp only [Rows.uptoBulk, Rows.uptoBulkAll, List.map_cons, List.map_nil]
 have g0 : Reads enc Tryz.prog W m 3 (([a0, a1, a2, a3, a4, a5, a6, a7, a8, a9, a10, a11, a12, a13] : List Value).drop 0 |>.take (Tryz.prog.cellsOf 3)) y0 := hf 0 _ rfl
 rw [show Tryz.prog.cellsOf 3 = 1 by kernel_rfl] at g0
 have p0 := bulk_pos y0.1
 obtain ⟨z0, e0, q0, r0⟩ := dec_intW Tryz.underlying3 g0
 try simp at e0
 have g1 : Reads enc Tryz.prog W m 3 (([a0, a1, a2, a3, a4, a5, a6, a7, a8, a9, a10, a11, a12, a13] : List Value).drop 1 |>.take (Tryz.prog.cellsOf 3)) y1 := hf 1 _ rfl
 rw [show Tryz.prog.cellsOf 3 = 1 by kernel_rfl] at g1
 have p1 := bulk_pos y1.1
 obtain ⟨z1, e1, q1, r1⟩ := dec_intW Tryz.underlying3 g1
 try simp at e1
 have g2 : Reads enc Tryz.prog W m 3 (([a0, a1, a2, a3, a4, a5, a6, a7, a8, a9, a10, a11, a12, a13] : List Value).drop 2 |>.take (Tryz.prog.cellsOf 3)) y2 := hf 2 _ rfl
 rw [show Tryz.prog.cellsOf 3 = 1 by kernel_rfl] at g2
 have p2 := bulk_pos y2.1
 obtain ⟨z2, e2, q2, r2⟩ := dec_intW Tryz.underlying3 g2
 try simp at e2
 have g3 : Reads enc Tryz.prog W m 33 (([a0, a1, a2, a3, a4, a5, a6, a7, a8, a9, a10, a11, a12, a13] : List Value).drop 3 |>.take (Tryz.prog.cellsOf 33)) y3 := hf 3 _ rfl
 rw [show Tryz.prog.cellsOf 33 = 10 by kernel_rfl] at g3
 have p3 := bulk_pos y3.1
 obtain ⟨r3, l3, m3, e3, q3⟩ := decRqV _ _ _ g3
 try simp [ptC, enC, rqC] at e3
 have g4 : Reads enc Tryz.prog W m 4 (([a0, a1, a2, a3, a4, a5, a6, a7, a8, a9, a10, a11, a12, a13] : List Value).drop 13 |>.take (Tryz.prog.cellsOf 4)) y4 := hf 4 _ rfl
 rw [show Tryz.prog.cellsOf 4 = 1 by kernel_rfl] at g4
 have p4 := bulk_pos y4.1
 obtain ⟨z4, e4⟩ := dec_bool Tryz.underlying4 g4
 try simp at e4
 subst e0
 subst e1
 subst e2
 obtain ⟨rfl, rfl, rfl, rfl, rfl, rfl, rfl, rfl, rfl, rfl⟩ := e3
 subst e4
 exact ⟨⟨z0, z1, z2, r3, l3, m3, z4⟩, rfl, fun hb => ⟨⟨q0, q1, q2⟩, q3 (by omega)⟩⟩
theorem dec_scr13 {H : Type} {enc : TypeId × Value → H} {W : World} {fuel : Nat} {cs : List Value} {x : DataW H × List MemPlace} (h : Reads enc Tryz.prog W fuel 22 cs x) (hb : Rows.uptoBulk x.1 ≤ 1048576) : ∃ (v : Value) (xs : List Sp13), cs = [v] ∧ StQ (Old W) v xs := by
 obtain ⟨⟨v, xs⟩, ws, h1, h2, h3, h4, h5, -, h7⟩ := dec_sliceQV (N := 1048576) spC (fun B o => B ≤ 1048576 → SpQ (Old W) o) Tryz.underlying22 (show Tryz.prog.cellsOf 35 = 14 by kernel_rfl) (by decide) (fun n cs y h => decSp n cs y h) h (by omega)
 dsimp only at h1 h2 h3 h4 h7
 refine ⟨v, xs, h1, h2, h3, fun o ho => ?_⟩
 obtain ⟨i, hi, rfl⟩ := List.mem_iff_getElem.1 ho
 have hw : i < ws.length := by omega
 exact h7 i hi hw (Nat.le_trans (sum_at13 hw) h5)
end Go.Proofs.YtmbnebafdhpgpaaGreatDoor
