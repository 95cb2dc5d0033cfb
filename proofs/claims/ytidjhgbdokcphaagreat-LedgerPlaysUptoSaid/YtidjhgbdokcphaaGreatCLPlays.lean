/- Own work: ledgerPlays.proved: the given second form, from the walk in the other texts, for arguments of bounded bulk. -/
import Derived.Test.YtidjhgbdokcphaaGreatCLPlaysP4
import Derived.Test.YtidjhgbdokcphaaGreatCLPlaysP0
import Derived.Test.YtidjhgbdokcphaaGreatRows
import Derived.WalkKit
import Derived.ProofKit
import Derived.OpenShut
import Derived.JoinedCond
import Derived.Carry
import Derived.Deep.Grids
import Derived.Handed
import Derived.Deep.Strs
import Derived.Test.YtidjhgbdokcphaaGreatCLPlaysP3
set_option maxRecDepth 100000
namespace Go.Proofs.YtidjhgbdokcphaaGreat
open Go
theorem same_spec  (va vb : Value) (a b : List Int) (p q : HP) (hp : ∀ h : Hp, p h → rdS 1 h va a.length (ints a)) (hq : ∀ h : Hp, q h → rdS 1 h vb b.length (ints b)) (hl : a.length ≤ 4611686018427387904) : Fn Tryz.prog 88 #[va, vb] [p, q] fun v L => v = .bool (decide (a = b)) ∧ L = [p, q] := by
 refine Fn.intro Tryz.func88 rfl rfl fun F W => ?_
 refine .rdAny (p := p) hp (by repeat' constructor) fun aa ca e _ => ?_
 subst e
 refine .rdAny (p := q) hq (by repeat' constructor) fun ab cb e _ => ?_
 subst e
 refine .sr (.an rfl (.seq (.sm rfl (.q (.slen rfl Tryz.underlying31 rfl) rfl (.m rfl (.q (.slen rfl Tryz.underlying31 rfl) rfl (.ui rfl rfl rfl (.nt (.condN rfl (fun h10 => ?_) (fun h10 => ?_))))))))))
 ·refine .sr (.an rfl (.rt ?_))
  exact .dn rfl rfl ⟨by rw [decide_eq_false]; intro h; rw [h] at h10; exact h10 rfl, rfl⟩
 have hlen : a.length = b.length := by omega
 refine .sk (.seq (.sr (.an rfl (.block (.loop (F := F) (ι := Nat) (fun i => [(0, .slice aa a.length ca), (1, .slice ab b.length cb), (5, vint i)]) (fun _ => [p, q]) (fun i => i ≤ a.length ∧ a.take i = b.take i) (fun i => a.length - i) 0 ⟨Nat.zero_le _, rfl⟩ ⟨rfl, rfl, rfl, trivial⟩ (by repeat' constructor) (by repeat' constructor) ?_)))))
 rintro i ⟨hi, ht⟩
 refine .seq (.sm rfl (.m rfl (.q (.slen rfl Tryz.underlying31 rfl) rfl (.ui rfl rfl rfl (.nt (.condD rfl (fun h14 => ?_) (fun h14 => ?_)))))))
 ·have hi2 : i < a.length := by omega
  have hi3 : i < b.length := by omega
  refine .rdShape (p := p) hp (by repeat' constructor) (by omega) fun ba oa e => ?_
  subst e
  refine .rdShape (p := q) hq (by repeat' constructor) (by omega) fun bb ob e => ?_
  subst e
  refine .sk (.seq (.block (.seq (.draw [] [[0, 1, 2, 3, 4, 5, 6, 7, 8]] mixed (by kernel_rfl) (.g0 (.mv rfl rfl (.mv rfl rfl (.kv rfl (.indexAddr rfl rfl el_31 (by omega)) (.kv rfl (.loadEl (p := p) (i := i * 1) (v := vint a[i]) rfl ag_3 (by repeat' constructor) hp (by simp [hi2])) (.mv rfl rfl (.mv rfl rfl (.kv rfl (.indexAddr rfl rfl el_31 (by omega)) (.kv rfl (.loadEl (p := q) (i := i * 1) (v := vint b[i]) rfl ag_3 (by repeat' constructor) hq (by simp [hi3])) (.kv rfl (.int rfl rfl rfl) (.pf (.condN rfl (fun h25 => ?_) (fun h25 => ?_)))))))))))))))))
  ·refine .sr (.an rfl (.ret (.blk_r (.then_r (.then_r (.blk_r (.then_r ?_)))))))
   exact .dn rfl rfl ⟨by rw [decide_eq_false]; intro h; apply h25; congr 1, rfl⟩
  refine .skip (.blk_n (.then_n (.region (.m rfl (.q (.add rfl rfl (by omega)) rfl (.an rfl (.round (i + 1) ⟨by omega, take_same hi2 hi3 ht (by simpa using h25)⟩ (by omega) ⟨rfl, rfl, rfl, trivial⟩ (by repeat' constructor) (by repeat' constructor))))))))
 refine .exit (.then_e (.then_e (.blk_e (.then_n (.sr (.an rfl (.ret ?_)))))))
 exact .dn rfl rfl ⟨by rw [decide_eq_true]; have hi2 : i = a.length := (by omega); rw [hi2, List.take_length, hlen, List.take_length] at ht; exact ht, rfl⟩
theorem alike_spec (d x : Nat) (δ : Dk) (ρ : Rk) (h : Rel δ ρ) : Fn Tryz.prog 42 #[vptr d, vptr x] [dkR d δ, rkR x ρ] fun v L => v = .bool true ∧ L = [dkR d δ, rkR x ρ] := by
 refine Fn.intro Tryz.func42 rfl rfl fun F W => ?_
 have hpe := h.pending
 have hL := h.L
 have hbig := h.ok.big
 have hLb : ρ.L.length ≤ 32768 := by rw [hL]; exact hbig
 have hrp : ρ.pending.length ≤ 32768 := by rw [← hpe, Dk.pend_len]; have := h.ok.oldlen; omega
 refine .sr (.an rfl (.sm rfl (.oq (.c Tryz.func76 [_] (pending_spec d δ)) ?_)))
 rintro v L' ⟨⟨al, cl, rfl⟩, rfl⟩; rw [hpe]
 refine .m rfl (.oq (.c Tryz.func89 [_] (rpend_spec x ρ)) ?_)
 rintro v L' ⟨⟨ax, cx, rfl⟩, rfl⟩
 refine .oq (.c Tryz.func88 [_, _] (same_spec _ _ ρ.pending ρ.pending (intR (.slice al ρ.pending.length cl) ρ.pending) (intR (.slice ax ρ.pending.length cx) ρ.pending) (fun h hp => slR_rd hp) (fun h hp => slR_rd hp) (by omega))) ?_
 rintro v L' ⟨rfl, rfl⟩; rw [decide_eq_true rfl]
 refine .an rfl (.seq (.seq (.rkOpen (x := x) (ρ := ρ) (by repeat' constructor) fun vL vO vP hok => (.slAny (v := vL) (by repeat' constructor) fun aL cL e _ => ?_))))
 subst e
 refine .draw [4, 13, 22] [[0, 1, 2, 3, 5, 6, 7, 8, 4], [9, 10, 11, 12, 14, 15, 16, 17, 13], [18, 19, 20, 21, 23, 24, 25, 26, 27, 22], [28, 29]] mixed (by kernel_rfl) (.go [ptc x _ _] (by repeat' constructor) (.mv rfl rfl (.kv rfl (.not rfl) (.mv rfl rfl (.gv rfl (.move rfl) (.gq (t := 18) rfl rfl rfl (by kernel_rfl) (.move rfl) (.gq (t := 18) rfl rfl rfl (by kernel_rfl) (.nilp rfl) (.gq (t := 18) rfl rfl rfl (by kernel_rfl) (.fieldAddr rfl fo_58_5) (.gq (t := 18) rfl rfl rfl (by kernel_rfl) (.ld rfl ag_4) (.gh (t := 18) rfl rfl rfl (by kernel_rfl) (.c Tryz.func38 [_] (dead_spec d δ)) (by repeat' constructor) ?_))))))))))
 rintro v L' ⟨rfl, rfl⟩
 refine D.ph (.go [ptc x _ _] (by repeat' constructor) (.gv rfl (.as (v' := .bool false) (by rw [h.dead]; simp) (.boolne rfl rfl Tryz.underlying4)) (.kv rfl (.pickF rfl rfl) (.mv rfl rfl (.gv rfl (.move rfl) (.gq (t := 27) rfl rfl rfl (by kernel_rfl) (.move rfl) (.gq (t := 27) rfl rfl rfl (by kernel_rfl) (.nilp rfl) (.gq (t := 27) rfl rfl rfl (by kernel_rfl) (.fieldAddr rfl fo_58_3) (.gq (t := 27) rfl rfl rfl (by kernel_rfl) (.ld rfl ag_3) (.gh (t := 27) rfl rfl rfl (by kernel_rfl) (.c Tryz.func36 [_] (acts_spec d δ)) (by repeat' constructor) ?_))))))))))
 rintro v L' ⟨rfl, rfl⟩
 refine D.ph (.go [ptc x _ _] (by repeat' constructor) (.gv rfl (.as (v' := .bool false) (by rw [h.acts]; simp) (.int rfl rfl rfl)) (.kv rfl (.pickF rfl rfl) (.mv rfl rfl (.gv rfl (.move rfl) (.gq (t := 36) rfl rfl rfl (by kernel_rfl) (.move rfl) (.gq (t := 36) rfl rfl rfl (by kernel_rfl) (.nilp rfl) (.gq (t := 36) rfl rfl rfl (by kernel_rfl) (.fieldAddr rfl fo_58_0) (.gq (t := 36) rfl rfl rfl (by kernel_rfl) (.ld rfl ag_46) (.gq (t := 36) rfl rfl rfl (by kernel_rfl) (.slen rfl Tryz.underlying46 rfl) (.gh (t := 36) rfl rfl rfl (by kernel_rfl) (.c Tryz.func90 [_] (size_spec d δ)) (by repeat' constructor) ?_)))))))))))
 rintro v L' ⟨rfl, rfl⟩
 refine D.ph (.g0 (.gv rfl (.as (v' := .bool false) (by rw [hL]; simp) (.int rfl rfl rfl)) (.kv rfl (.pickF rfl rfl) (.ph (.fin (.rkFold (x := x) (ρ := ρ) (by repeat' constructor) rfl ⟨rfl, rfl⟩ ⟨rfl, rfl⟩ ⟨rfl, rfl⟩ hok (.then_n (.condF rfl (.sk (.seq (.sr (.an rfl (.block (.loopK (ι := Nat) (fun q E => (6, vint q) :: E) (fun q => [dkR d δ, rkR x ρ]) (fun q => q ≤ ρ.L.length) (fun q => ρ.L.length - q) (0) (ts := [0, 1]) (.cons rfl (.cons rfl (.nil))) (Nat.zero_le _) ⟨rfl, rfl, rfl, trivial⟩ (by repeat' constructor) ?_))))))))))))))
 rintro i hi
 refine .seq (.seq (.rkOpen (x := x) (ρ := ρ) (by repeat' constructor) fun vL vO vP hok => (.slAny (v := vL) (by repeat' constructor) fun aL cL e _ => ?_)))
 subst e
 refine .region (.m rfl (.m rfl (.nf rfl fo_58_0 (.u (.ld rfl ag_46) (.q (.slen rfl Tryz.underlying46 rfl) rfl (.ui rfl rfl rfl (.nt (.condD rfl (fun h52 => ?_) (fun h52 => ?_)))))))))
 ·refine .rkFold (x := x) (ρ := ρ) (by repeat' constructor) rfl ⟨rfl, rfl⟩ ⟨rfl, rfl⟩ ⟨rfl, rfl⟩ hok ?_
  have hrd := h.read i
  refine .sk (.seq (.block (.sm rfl (.m rfl (.oq (.c Tryz.func91 [_, _] (read_spec d δ i)) ?_)))))
  rintro v L' ⟨rfl, rfl⟩; rw [hrd]
  refine .m rfl (.u (.extract rfl rfl) (.u (.extract rfl rfl) (.a rfl (.an rfl (.sm rfl (.m rfl (.cv Tryz.func92 [_, _] (rread_spec x ρ i) ?_)))))))
  refine .m rfl (.u (.extract rfl rfl) (.u (.extract rfl rfl) (.a rfl (.an rfl (.sm rfl (.m rfl (.q (.as (v' := .bool false) (by simp) (.strne rfl rfl)) rfl (.m rfl (.grun (t := 70) rfl rfl rfl (.m rfl (.grun (t := 70) rfl rfl rfl (.m rfl (.grun (t := 70) rfl rfl rfl (.q (.as (v' := .bool false) (by simp) (.int rfl rfl rfl)) rfl (.u (.pickF rfl rfl) (.nt (.condF rfl (.skip (.blk_n (.then_n (.region (.m rfl (.q (.add rfl rfl (by omega)) rfl (.an rfl ?_))))))))))))))))))))))))
  exact .rk (i + 1) (by omega) (by omega) ⟨rfl, rfl, rfl, trivial⟩
 refine .rkFold (x := x) (ρ := ρ) (by repeat' constructor) rfl ⟨rfl, rfl⟩ ⟨rfl, rfl⟩ ⟨rfl, rfl⟩ hok (.exit (.then_e (.then_e (.blk_e (.then_n (.sr (.an rfl (.ret ?_))))))))
 exact .vv
theorem Fn.dsUpP {P : Program} {f : FuncId} {args : Array Value} {x : Nat} {δ δ' : Dk} {u : Value} {p : HP} (h : ∀ ρ, Rel δ ρ → 0 ≤ ρ.N → Fn P f args [rkR x ρ, p] fun v L => ∃ ρ', (Rel δ' ρ' ∧ 0 ≤ ρ'.N) ∧ v = u ∧ L = [rkR x ρ', p]) :
  Fn P f args [dsR x δ, p] fun v L => v = u ∧ L = [dsR x δ', p] := by
 intro F w hs
 obtain ⟨h1, h2, hd, a1, a2, ⟨ρ, ⟨hr, hn⟩, hp⟩, hF⟩ := hs
 have hs' : St ([rkR x ρ] ++ (p :: F)) w := sep_flat ⟨h1, h2, hd, a1, a2, hp, hF⟩
 refine (h ρ hr hn F w hs').mono ?_
 rintro e w' ⟨v, L, ⟨ρ', h3, rfl, rfl⟩, he, hs2, hk⟩
 refine ⟨_, _, ⟨rfl, rfl⟩, he, sep_imp (fun hh hq => ⟨ρ', h3, hh, fun _ => none, fun _ => .inr rfl, fun _ _ e => e, fun _ _ e => (by cases e), hq, trivial⟩) hs2, hk⟩
theorem rk_arm_N (ρ : Rk) (n : Int) (h : 0 ≤ ρ.N) : 0 ≤ (ρ.arm n).1.N := by
 unfold Rk.arm
 repeat' split
 all_goals exact h
theorem rk_crash_N (ρ : Rk) (how : List Int) (h : 0 ≤ ρ.N) : 0 ≤ (ρ.crash how).N := by
 have hto : ∀ k, (ρ.crashTo how k).N = ρ.N := by
  intro k
  induction k with
  | zero => rfl
  | succ k ih => exact ih
 show 0 ≤ (ρ.crashTo how ρ.pending.length).N
 rw [hto]; exact h
theorem dsarm_spec (x : Nat) (δ : Dk) (n : Int) (hA : δ.acts < 4611686018427387904) (hn : n ≤ 9223372036854775807) : Fn Tryz.prog 84 #[vptr x, vint n] [dsR x δ] fun v L => v = vint (δ.arm n).2 ∧ L = [dsR x (δ.arm n).1] :=
 Fn.dsUp fun ρ hr hN => (rarm_spec x ρ n ⟨hN, by rw [← hr.acts]; exact hA⟩ hn).mono fun v L ⟨h1, h2⟩ => by
  obtain ⟨q1, q2⟩ := hr.arms n hn
  exact ⟨_, ⟨q2, rk_arm_N ρ n hN⟩, by rw [h1, q1], h2⟩
theorem dscrash_spec (x : Nat) (δ : Dk) (hv : Value) (how : List Int) (p : HP) (hr : ∀ h : Hp, p h → rdS 1 h hv how.length (ints how)) (hb : ∀ z ∈ how, -9223372036854775808 ≤ z ∧ z ≤ 9223372036854775807) : Fn Tryz.prog 85 #[vptr x, hv] [dsR x δ, p] fun v L => v = .tuple #[] ∧ L = [dsR x (δ.crash how), p] :=
 Fn.dsUpP fun ρ hrel hN => (rcrash_spec x ρ hv how p hr hb).mono fun v L ⟨h1, h2⟩ => ⟨_, ⟨hrel.crash how, rk_crash_N ρ how hN⟩, h1, h2⟩
theorem alike9_spec (d x : Nat) (δ : Dk) : Fn Tryz.prog 42 #[vptr d, vptr x] [dkR d δ, dsR x δ] fun v L => v = .bool true ∧ L = [dkR d δ, dsR x δ] := by
 intro F w hs
 obtain ⟨g1, g2, -, b1, b2, p1, h1, h2, hd, a1, a2, ⟨ρ, ⟨hr, hn⟩, hp⟩, hF⟩ := id hs
 have hs2 : St ((fun h => ∃ q : Rk, (Rel δ q ∧ 0 ≤ q.N) ∧ sep [rkR x q] h) :: (dkR d δ :: F)) w := St.picks (ps := [dsR x δ]) hs (by repeat' constructor)
 obtain ⟨q, k1, k2, kd, c1, c2, ⟨kr, kp⟩, kF⟩ := sep_ex hs2
 have hs3 : St ([rkR x q] ++ (dkR d δ :: F)) w := sep_join kd c1 c2 kp kF
 have hs4 : St ([dkR d δ, rkR x q] ++ F) w := hs3.picks (by repeat' constructor)
 refine (alike_spec d x δ q kr.1 F w hs4).mono ?_
 rintro e w' ⟨v, L, ⟨hv, rfl⟩, he, hs5, hk⟩
 have hs6 : St ([rkR x q] ++ (dkR d δ :: F)) w' := hs5.picks (by repeat' constructor)
 have hs7 : St (dsR x δ :: (dkR d δ :: F)) w' := sep_imp (fun hh hq => ⟨q, kr, hq⟩) (sep_fold hs6)
 exact ⟨v, _, ⟨hv, rfl⟩, he, St.picks (ps := [dkR d δ, dsR x δ]) hs7 (by repeat' constructor), hk⟩
set_option maxHeartbeats 1000000 in
theorem asks9_spec (s d g xg x y w : Nat) (Λ : Lg) (hW : LgW Λ) (o : Op9) (k : Int) : Fn Tryz.prog 73 #[vptr s, .agg (op9K o k).toArray] [ptc s [vptr d, vptr g, vptr x, vptr y] 62, lgR g xg Λ, rgR y w Λ] fun v L => v = .bool true ∧ L = [ptc s [vptr d, vptr g, vptr x, vptr y] 62, lgR g xg Λ, rgR y w Λ] := by
 refine Fn.intro Tryz.func73 rfl rfl fun F W => ?_
 have hfew := hW.few
 have hmk : (marksZ Λ).length ≤ 4294967296 := by have h1 := mk_lens (Λ.base :: Λ.zxs) _ (Nat.le_refl _); rw [List.take_length, List.length_cons] at h1; have h2 := hW.rows.len; unfold marksZ; omega
 refine .sr (.oq (.box rfl) ?_)
 rintro v L' ⟨b3, rfl, rfl⟩
 refine .a rfl (.nil (.ptCast (b := b3) (l' := op9K o k) (by repeat' constructor) (by exact rfl) (.then_n (.seq (.sr (.u (.fieldAddr rfl fo_73_0) (.u (.ld rfl ag_3) (.nt (.block (.sr (.ui rfl rfl rfl (.an rfl (.condD rfl (fun h19 => ?_) (fun h19 => ?_))))))))))))))
 ·refine .sm rfl (.nf rfl fo_62_1 (.u (.ld rfl ag_28) (.oq (.c Tryz.func15 [_] (lmarks_spec g xg Λ hW.i)) ?_)))
  rintro v L' ⟨am, cm, rfl, rfl⟩
  refine .an rfl (.seq (.rgOpen (y := y) (by repeat' constructor) fun a c es hE => (.region (.m rfl (.m rfl (.nf rfl fo_62_3 (.u (.ld rfl ag_60) (.oq (.c Tryz.func129 [_] (r9marks_spec y w Λ a c es hE hW)) ?_))))))))
  rintro v L' ⟨a2, c2, rfl, rfl⟩
  refine .oq (.c Tryz.func14 [_, _] (numbers9_spec _ _ (marksZ Λ) (marksZ Λ) (intR (.slice am (marksZ Λ).length cm) (marksZ Λ)) (intR (.slice a2 (marksZ Λ).length c2) (marksZ Λ)) (fun h hp => slR_rd hp) (fun h hp => slR_rd hp) hmk hmk)) ?_
  rintro v L' ⟨rfl, rfl⟩; rw [decide_eq_true rfl]
  refine .an rfl (.seq (.sr (.an rfl (.block ?_))))
  obtain ⟨nm, hnm⟩ : ∃ nm, (marksZ Λ).length = nm := ⟨_, rfl⟩
  rw [hnm]
  refine .slCast (T := 3) (sz := 1) (m' := nm) (xs' := ints (marksZ Λ)) (by repeat' constructor) (by exact hnm) (by exact rfl) (.loopK (ι := Nat × (List Value)) (fun q E => (7, vint q.1) :: E) (fun q => [slR 3 1 (.slice am nm cm) nm q.2]) (fun q => q.1 ≤ nm) (fun q => nm - q.1) (0, ints (marksZ Λ)) (ts := [0, 4, 5, 6]) (.cons rfl (.cons rfl (.cons rfl (.cons rfl (.nil))))) (Nat.zero_le _) ⟨rfl, rfl, rfl, rfl, rfl, trivial⟩ (by repeat' constructor) ?_)
  rintro ⟨i, ys⟩ hi
  dsimp only
  dsimp only at hi
  refine .seq (.sm rfl (.m rfl (.q (.slen rfl Tryz.underlying31 rfl) rfl (.ui rfl rfl rfl (.nt (.condD rfl (fun h36 => ?_) (fun h36 => ?_)))))))
  ·have hi2 : i < nm := by omega
   refine .slShape (T := 3) (sz := 1) (v := .slice am nm cm) (xs := ys) (by repeat' constructor) (by omega) fun bo bo' e0 mbo _ => ?_
   simp only [Value.slice.injEq, true_and] at e0
   obtain ⟨rfl, rfl⟩ := e0
   refine .sk (.seq (.block (.region (.m rfl (.m rfl (.q (.indexAddr rfl rfl el_31 (by omega)) rfl (.oq (.storeRd (sz := 1) (j := i * 1) rfl rfl rfl sz_3 ?ho29 ?hi30) ?_)))))))
   case ho29 => omega
   case hi30 => omega
   rintro v L' rfl
   refine .nil (.blk_n (.then_n (.region (.m rfl (.q (.add rfl rfl (by omega)) rfl (.an rfl ?_))))))
   exact .rk ((i + 1, ys.set (i * 1) (vint (-1)))) (by dsimp only; omega) (by dsimp only; omega) ⟨rfl, rfl, rfl, rfl, rfl, trivial⟩
  refine .exit (.then_e (.then_e (.blk_e (.then_n (.seq (.draw [] [[0, 1, 2, 3, 4, 5, 6, 7, 8, 9, 10, 11, 12, 13, 14, 15, 16, 17, 18, 19, 20, 21, 22, 23, 24, 25, 26, 27, 28, 29, 30, 31, 32, 33, 34, 35, 36, 37, 38, 39, 40, 41, 42, 43, 44, 45, 46, 47, 48, 49, 50, 51, 52, 53, 54, 55, 56, 57, 58, 59, 60, 61, 62, 63, 64, 65, 66, 67, 68, 69, 70, 71, 72, 73, 74, 75, 76, 77, 78]] mixed (by kernel_rfl) (.go [ptc s _ _, lgR g xg Λ, ptc y _ _, slR 38 11 _ es.length _] (by repeat' constructor) (.mv rfl rfl (.mv rfl rfl (.gv rfl (.move rfl) (.gv rfl (.nilp rfl) (.gv rfl (.fieldAddr rfl fo_62_1) (.gv rfl (.ld rfl ag_28) (.gm (t := 43) rfl rfl rfl (by kernel_rfl) (.c Tryz.func17 [_] (llast_spec g xg Λ hW.i)) (by repeat' constructor) ?_))))))))))))))
  refine D.gv rfl (.move rfl) (.gv rfl (.nilp rfl) (.gv rfl (.fieldAddr rfl fo_62_3) (.gv rfl (.ld rfl ag_60) (.gm (t := 43) rfl rfl rfl (by kernel_rfl) (.c Tryz.func130 [_] (r9last_spec y w Λ.base Λ.snap a c Λ.acc Λ.cur Λ.doubt es hE.n)) (by repeat' constructor) ?_))))
  rw [hE.lastF]
  refine D.gv rfl (.as (v' := .bool true) (by simp) (.int rfl rfl rfl)) (.kv rfl (.pickT rfl rfl) (.mv rfl rfl (.gv rfl (.move rfl) (.gv rfl (.nilp rfl) (.gv rfl (.fieldAddr rfl fo_62_1) (.gv rfl (.ld rfl ag_28) (.gm (t := 56) rfl rfl rfl (by kernel_rfl) (.c Tryz.func81 [_] (lbase_spec g xg Λ)) (by repeat' constructor) ?_)))))))
  refine D.gv rfl (.move rfl) (.gv rfl (.nilp rfl) (.gv rfl (.fieldAddr rfl fo_62_3) (.gv rfl (.ld rfl ag_60) (.gv rfl (.nilp rfl) (.gv rfl (.fieldAddr rfl fo_129_1) (.gv rfl (.ld rfl ag_3) (.gv rfl (.as (v' := .bool true) (by simp) (.int rfl rfl rfl)) (.kv rfl (.pickT rfl rfl) (.mv rfl rfl (.gv rfl (.move rfl) (.gv rfl (.nilp rfl) (.gv rfl (.fieldAddr rfl fo_62_1) (.gv rfl (.ld rfl ag_28) (.gm (t := 71) rfl rfl rfl (by kernel_rfl) (.c Tryz.func82 [_] (lsnap_spec g xg Λ)) (by repeat' constructor) ?_))))))))))))))
  refine D.gv rfl (.move rfl) (.gv rfl (.nilp rfl) (.gv rfl (.fieldAddr rfl fo_62_3) (.gv rfl (.ld rfl ag_60) (.gv rfl (.nilp rfl) (.gv rfl (.fieldAddr rfl fo_129_2) (.gv rfl (.ld rfl ag_9) (.gv rfl (.as (v' := .bool true) (by simp) (.streq rfl rfl)) (.kv rfl (.pickT rfl rfl) (.mv rfl rfl (.gv rfl (.move rfl) (.gv rfl (.nilp rfl) (.gv rfl (.fieldAddr rfl fo_62_1) (.gv rfl (.ld rfl ag_28) (.gv rfl (.nilp rfl) (.gv rfl (.fieldAddr rfl fo_79_0) (.gm (t := 86) rfl rfl rfl (by kernel_rfl) (.c Tryz.func33 [_] (lacc_spec g xg Λ)) (by repeat' constructor) ?_))))))))))))))))
  refine D.gv rfl (.move rfl) (.gv rfl (.nilp rfl) (.gv rfl (.fieldAddr rfl fo_62_3) (.gv rfl (.ld rfl ag_60) (.gv rfl (.nilp rfl) (.gv rfl (.fieldAddr rfl fo_129_4) (.gv rfl (.ld rfl ag_3) (.gv rfl (.as (v' := .bool true) (by simp) (.int rfl rfl rfl)) (.kv rfl (.pickT rfl rfl) (.mv rfl rfl (.gv rfl (.move rfl) (.gv rfl (.nilp rfl) (.gv rfl (.fieldAddr rfl fo_62_1) (.gv rfl (.ld rfl ag_28) (.gv rfl (.nilp rfl) (.gv rfl (.fieldAddr rfl fo_79_0) (.gm (t := 103) rfl rfl rfl (by kernel_rfl) (.c Tryz.func34 [_] (lcur_spec g xg Λ)) (by repeat' constructor) ?_))))))))))))))))
  refine D.gv rfl (.move rfl) (.gv rfl (.nilp rfl) (.gv rfl (.fieldAddr rfl fo_62_3) (.gv rfl (.ld rfl ag_60) (.gv rfl (.nilp rfl) (.gv rfl (.fieldAddr rfl fo_129_5) (.gv rfl (.ld rfl ag_3) (.gv rfl (.as (v' := .bool true) (by simp) (.int rfl rfl rfl)) (.kv rfl (.pickT rfl rfl) (.kv rfl (.assign rfl) (.pf (.ret (.blk_r (.then_r (.rg (y := y) (w := w) Λ a c es hE ?_))))))))))))))
  exact .vv
 refine .sr (.ui rfl rfl rfl (.an rfl (.condD rfl (fun h120 => ?_) (fun h120 => ?_))))
 ·refine .seq (.draw [6] [[0, 1, 2, 3, 4, 5, 6], [7, 8, 9, 10, 11]] mixed (by kernel_rfl) (.g0 (.mv rfl rfl (.nf rfl rfl rfl fo_62_1 (.kv rfl (.ld rfl ag_28) (.kv rfl (.fieldAddr rfl fo_73_1) (.kv rfl (.ld rfl ag_3) (.hh rfl (.c Tryz.func16 [_, _] (lent2_spec g xg Λ o.n hW)) ?_))))))))
  rintro v L' ⟨e1, a1, c1, hb1, hn1, hk1, rfl, rfl⟩
  refine D.ph (.g0 (.mv rfl rfl (.kv rfl (.extract rfl rfl) (.kv rfl (.extract rfl rfl) (.kv rfl (.assign rfl) (.kv rfl (.assign rfl) (.pf (.seq (.draw [6] [[0, 1, 2, 3, 4, 5, 6], [7, 8, 9, 10, 11]] mixed (by kernel_rfl) (.g0 (.mv rfl rfl (.nf rfl rfl rfl fo_62_1 (.kv rfl (.ld rfl ag_28) (.kv rfl (.fieldAddr rfl fo_73_1) (.kv rfl (.ld rfl ag_3) (.hh rfl (.c Tryz.func16 [_, _] (lent2_spec g xg Λ o.n hW)) ?_))))))))))))))))
  rintro v L' ⟨e2, a3, c3, hb2, hn2, hk2, rfl, rfl⟩
  refine D.ph (.g0 (.mv rfl rfl (.kv rfl (.extract rfl rfl) (.kv rfl (.extract rfl rfl) (.kv rfl (.assign rfl) (.kv rfl (.assign rfl) (.pf (.seq (.rgOpen (y := y) (by repeat' constructor) fun a c es hE => (.draw [6] [[0, 1, 2, 3, 4, 5, 6], [7, 8, 9, 10, 11]] mixed (by kernel_rfl) (.g0 (.mv rfl rfl (.nf rfl rfl rfl fo_62_3 (.kv rfl (.ld rfl ag_60) (.kv rfl (.fieldAddr rfl fo_73_1) (.kv rfl (.ld rfl ag_3) (.hh rfl (.c Tryz.func131 [_, _] (r9ent2_spec y w Λ a c es o.n hE)) ?_)))))))))))))))))
  rintro v L' ⟨fs, a2, c2, hfs, hmem, hfn, rfl, rfl⟩
  refine D.ph (.g0 (.mv rfl rfl (.kv rfl (.extract rfl rfl) (.kv rfl (.extract rfl rfl) (.kv rfl (.assign rfl) (.kv rfl (.assign rfl) (.pf (.sm rfl (.m rfl (.oq (.c Tryz.func30 [_, _] (same9_spec _ _ e1 fs (es9 (.slice a1 e1.length c1) e1) (bigR entR e1) (es9 (.slice a2 fs.length c2) fs) (bigR entR es) (fun h hp => slR_rd hp) (fun e he => entL he (hk1 e he).1 (hk1 e he).2) (fun h hp => slR_rd hp) (fun e he => entL (hmem e he) (hE.k e (hmem e he)).1 (hE.k e (hmem e he)).2) (by omega) (by omega))) ?_))))))))))
  rintro v L' ⟨rfl, rfl⟩; rw [decide_eq_true (hb1.trans hfs.symm)]
  refine .an rfl (.seq (.sr (.an rfl (.block ?_))))
  have hsl : (e1.flatMap enC).length = e1.length * 11 := flatMap_len (sz := 11) (fun _ _ => rfl)
  rw [show bigR entR e1 = bigR entR (e1.drop 0) from rfl]
  refine .loopK (ι := Nat × (List Value)) (fun q E => (15, vint q.1) :: E) (fun q => [slR 38 11 (.slice a1 e1.length c1) e1.length q.2, bigR entR (e1.drop q.1)]) (fun q => q.1 ≤ e1.length ∧ q.2.length = e1.length * 11 ∧ ∀ k (hk : k < e1.length), q.1 ≤ k → ((q.2.drop (k * 11)).take 11) = enC e1[k]) (fun q => e1.length - q.1) (0, e1.flatMap enC) (ts := [4, 8, 9, 10, 11, 12, 13, 14]) (.cons rfl (.cons rfl (.cons rfl (.cons rfl (.cons rfl (.cons rfl (.cons rfl (.cons rfl (.nil))))))))) (⟨Nat.zero_le _, hsl, fun k hk _ => flatMap_at (f := enC) (sz := 11) (fun _ _ => rfl) hk⟩) ⟨rfl, rfl, rfl, rfl, rfl, rfl, rfl, rfl, rfl, trivial⟩ (by repeat' constructor) ?_
  rintro ⟨i, zs⟩ ⟨hi, hzl, hzk⟩
  dsimp only
  dsimp only at hi hzl hzk
  refine .seq (.sm rfl (.m rfl (.q (.slen rfl Tryz.underlying22 rfl) rfl (.ui rfl rfl rfl (.nt (.condD rfl (fun h158 => ?_) (fun h158 => ?_)))))))
  ·have hi2 : i < e1.length := by omega
   refine .slShape (T := 38) (sz := 11) (v := .slice a1 e1.length c1) (xs := zs) (by repeat' constructor) (by omega) fun bo bo' e0 mbo _ => ?_
   simp only [Value.slice.injEq, true_and] at e0
   obtain ⟨rfl, rfl⟩ := e0
   refine .bigHead (f := entR) (x := e1[i]) (l := e1.drop (i + 1)) (List.drop_eq_getElem_cons hi2) (by repeat' constructor) (.sk (.seq (.block (.sm rfl (.m rfl (.q (.indexAddr rfl rfl el_22 (by omega)) rfl (.q (.loadRdA (sz := 11) (j := i * 11) (k := 11) (p := slR 38 11 (.slice (some ⟨bo, 0, none⟩) e1.length c1) e1.length zs) (vs := enC e1[i]) rfl ag_38 (by repeat' constructor) (fun h hp => slR_rd hp) (by simp) (by omega) (by omega) (hzk i hi2 (Nat.le_refl _))) rfl (.cv Tryz.func132 [_] (over9_spec e1[i] (hk1 _ (List.getElem_mem hi2)).2) ?_))))))))
   refine .nt (.region (.m rfl (.m rfl (.q (.to (v' := .agg (enC (⟨-1, 0, 0, pt0, []⟩ : En)).toArray) (.buildN (pl := [(0, 1), (1, 1), (2, 1), (3, 8)]) (us := [(0, _)]) (cells := enC (⟨-1, 0, 0, pt0, []⟩ : En)) Tryz.underlying38 (by kernel_rfl) ze_38 rfl rfl) rfl) rfl (.q (.indexAddr rfl rfl el_22 (by omega)) rfl (.oq (.storeRdA (sz := 11) (j := i * 11) (k := 11) (vs := enC (⟨-1, 0, 0, pt0, []⟩ : En)) rfl rfl (by decide) sz_38 rfl ?ho156 ?hi157) ?_))))))
   case ho156 => omega
   case hi157 => omega
   rintro v L' rfl
   refine .nil (.blk_n (.then_n (.region (.m rfl (.q (.add rfl rfl (by omega)) rfl (.an rfl ?_))))))
   exact .rk ((i + 1, spl zs (i * 11) (enC (⟨-1, 0, 0, pt0, []⟩ : En)))) (⟨by dsimp only; omega, by dsimp only; rw [spl_length (by show i * 11 + 11 ≤ _; omega)]; exact hzl, fun k hk hik => by dsimp only; rw [spl_drop' (by show i * 11 + 11 ≤ _; omega) (by show i * 11 + 11 ≤ k * 11; dsimp only at hik; omega)]; exact hzk k hk (by dsimp only at hik; omega)⟩) (by dsimp only; omega) ⟨rfl, rfl, rfl, rfl, rfl, rfl, rfl, rfl, rfl, trivial⟩
  refine .exit (.then_e (.then_e (.blk_e (.then_n (.sm rfl (.m rfl (.oq (.c Tryz.func30 [_, _] (same9_spec _ _ e2 fs (es9 (.slice a3 e2.length c3) e2) (bigR entR e2) (es9 (.slice a2 fs.length c2) fs) (bigR entR es) (fun h hp => slR_rd hp) (fun e he => entL he (hk2 e he).1 (hk2 e he).2) (fun h hp => slR_rd hp) (fun e he => entL (hmem e he) (hE.k e (hmem e he)).1 (hE.k e (hmem e he)).2) (by omega) (by omega))) ?_)))))))
  rintro v L' ⟨rfl, rfl⟩; rw [decide_eq_true (hb2.trans hfs.symm)]
  refine .an rfl (.sm rfl (.m rfl (.grun (t := 174) rfl rfl rfl (.m rfl (.u (.pickT rfl rfl) (.m rfl (.grun (t := 177) rfl rfl rfl (.m rfl (.grun (t := 177) rfl rfl rfl (.m rfl (.grun (t := 177) rfl rfl rfl (.q (.as (v' := .bool true) (by simp) (.int rfl rfl rfl)) rfl (.u (.pickT rfl rfl) (.m rfl (.grun (t := 182) rfl rfl rfl (.m rfl (.grun (t := 182) rfl rfl rfl (.m rfl (.grun (t := 182) rfl rfl rfl (.q (.as (v' := .bool true) (by simp) (.int rfl rfl rfl)) rfl (.u (.pickT rfl rfl) (.an rfl (.ret (.blk_r (.then_r (.rg (y := y) (w := w) (sl := .slice a es.length c) Λ a c es hE ?_))))))))))))))))))))))))))
  exact .vv
 refine .skip (.blk_n (.then_n (.sr (.an rfl (.ret ?_)))))
 exact .vv
theorem fill_op (n : Int) : Instr.fill (fun i => [(0, 1), (1, 1), (2, 1), (3, 11), (14, 1), (15, 1), (16, 1)].toArray[i]?) ([.int .i64 0, .int .i64 0, .int .i64 0, .int .i64 0, .int .i64 0, .int .i64 0, .int .i64 0, .string (bs []), .string (bs []), .slice none 0 0, .int .i64 0, .int .i64 0, .int .i64 0, .slice none 0 0, .slice none 0 0, .string (bs []), .slice none 0 0] : List Value).toArray [(0, .int .i64 9), (1, vint n)] = some (op9K (⟨0, n, 0, en0, nilV, [], [], nilV, []⟩ : Op9) 9).toArray := by kernel_rfl
theorem whole9_spec (s d g xg x y w : Nat) (Λ : Lg) (hW : LgW Λ) : Fn Tryz.prog 25 #[vptr s] [ptc s [vptr d, vptr g, vptr x, vptr y] 62, lgR g xg Λ, rgR y w Λ] fun v L => v = .bool true ∧ L = [ptc s [vptr d, vptr g, vptr x, vptr y] 62, lgR g xg Λ, rgR y w Λ] := by
 refine Fn.intro Tryz.func25 rfl rfl fun F W => ?_
 have hbs := hW.base
 refine .sr (.an rfl (.seq (.sm rfl (.nf rfl fo_62_1 (.u (.ld rfl ag_28) (.q (.ptreq rfl rfl Tryz.underlying28) rfl (.m rfl (.grun (t := 11) rfl rfl rfl (.m rfl (.grun (t := 11) rfl rfl rfl (.u (.nilp rfl) (.grun (t := 11) rfl rfl rfl (.u (.fieldAddr rfl fo_62_3) (.grun (t := 11) rfl rfl rfl (.u (.ld rfl ag_60) (.grun (t := 11) rfl rfl rfl (.q (.ptreq rfl rfl Tryz.underlying60) rfl (.u (.pickF rfl rfl) (.nt (.condF rfl (.sk (.sm rfl (.q (.to (v' := .agg (op9K (⟨0, 0, 0, en0, nilV, [], [], nilV, []⟩ : Op9) 8).toArray) (.buildN (pl := [(0, 1), (1, 1), (2, 1), (3, 11), (14, 1), (15, 1), (16, 1)]) (us := [(0, _)]) (cells := op9K (⟨0, 0, 0, en0, nilV, [], [], nilV, []⟩ : Op9) 8) Tryz.underlying73 (by kernel_rfl) ze_73 rfl rfl) rfl) rfl (.cv Tryz.func73 [_, _] (asks9_spec s d g xg x y w Λ hW (⟨0, 0, 0, en0, nilV, [], [], nilV, []⟩ : Op9) 8) ?_))))))))))))))))))))))))
 refine .an rfl (.seq (.rgOpen (y := y) (by repeat' constructor) fun a c es hE => (.region (.m rfl (.m rfl (.nf rfl fo_62_3 (.u (.ld rfl ag_60) (.nf rfl fo_129_1 (.u (.ld rfl ag_3) (.q (.to (v' := .agg (op9K (⟨0, Λ.base, 0, en0, nilV, [], [], nilV, []⟩ : Op9) 9).toArray) (.buildN (pl := [(0, 1), (1, 1), (2, 1), (3, 11), (14, 1), (15, 1), (16, 1)]) (us := [(0, _), (1, vint (Λ.base))]) (cells := op9K (⟨0, Λ.base, 0, en0, nilV, [], [], nilV, []⟩ : Op9) 9) Tryz.underlying73 (by kernel_rfl) ze_73 rfl (fill_op _)) rfl) rfl (.rg (y := y) (w := w) Λ a c es hE ?_)))))))))))
 refine .cv Tryz.func73 [_, _] (asks9_spec s d g xg x y w Λ hW (⟨0, Λ.base, 0, en0, nilV, [], [], nilV, []⟩ : Op9) 9) ?_
 refine .an rfl (.seq (.rgOpen (y := y) (by repeat' constructor) fun a c es hE => (.region (.m rfl (.m rfl (.nf rfl fo_62_3 (.u (.ld rfl ag_60) (.nf rfl fo_129_1 (.u (.ld rfl ag_3) (.q (.sub rfl rfl (by omega)) rfl (.q (.to (v' := .agg (op9K (⟨0, Λ.base - 1, 0, en0, nilV, [], [], nilV, []⟩ : Op9) 9).toArray) (.buildN (pl := [(0, 1), (1, 1), (2, 1), (3, 11), (14, 1), (15, 1), (16, 1)]) (us := [(0, _), (1, vint (Λ.base - 1))]) (cells := op9K (⟨0, Λ.base - 1, 0, en0, nilV, [], [], nilV, []⟩ : Op9) 9) Tryz.underlying73 (by kernel_rfl) ze_73 rfl (fill_op _)) rfl) rfl (.rg (y := y) (w := w) Λ a c es hE ?_))))))))))))
 refine .cv Tryz.func73 [_, _] (asks9_spec s d g xg x y w Λ hW (⟨0, (Λ.base - 1), 0, en0, nilV, [], [], nilV, []⟩ : Op9) 9) ?_
 refine .an rfl (.sm rfl (.m rfl (.grun (t := 43) rfl rfl rfl (.m rfl (.u (.pickT rfl rfl) (.m rfl (.grun (t := 46) rfl rfl rfl (.m rfl (.u (.pickT rfl rfl) (.an rfl (.ret ?_)))))))))))
 exact .vv
theorem wholeN_spec (s d x : Nat) : Fn Tryz.prog 25 #[vptr s] [ptc s [vptr d, .pointer none, vptr x, .pointer none] 62] fun v L => v = .bool true ∧ L = [ptc s [vptr d, .pointer none, vptr x, .pointer none] 62] := by
 refine Fn.intro Tryz.func25 rfl rfl fun F W => ?_
 refine .sr (.an rfl (.seq (.sm rfl (.nf rfl fo_62_1 (.u (.ld rfl ag_28) (.q (.ptreq rfl rfl Tryz.underlying28) rfl (.m rfl (.gk (.gk (.gk (.gk (.gk (.u (.pickT rfl rfl) (.nt (.condT rfl (.sr (.an rfl (.rt ?_))))))))))))))))))
 exact .vv
theorem sopensD_spec (s d x : Nat) (l0 y0 : Value) (δ : Dk)  (hn : 2 ≤ δ.now.length ∧ δ.now.length ≤ 32768) (hok : δ.Ok) (hac : δ.acts + 10000000 < 4611686018427387904) : Fn Tryz.prog 24 #[vptr s, .bool false] [ptc s [vptr d, l0, vptr x, y0] 62, dkR d δ, dsR x δ] fun v L => ((δ.dead = true ∨ openZ δ = none ∨ ∃ ω, openZ δ = some ω ∧ openLZ ω = none) ∧ v = .bool true ∧ L = [ptc s [vptr d, .pointer none, vptr x, .pointer none] 62, dkR d δ, dsR x δ]) ∨ (δ.dead = false ∧ ∃ ω Λ g xg y w, openZ δ = some ω ∧ openLZ ω = some Λ ∧ v = .bool true ∧ L = [ptc s [vptr d, vptr g, vptr x, vptr y] 62, lgR g xg Λ, wlR xg d ω, dkR d δ, rgR y w Λ, rlR w x ω, dsR x δ]) := by
 refine Fn.intro Tryz.func24 rfl rfl fun F W => ?_
 have hI := fun ω h => open_I (ω := ω) hok hn hac h
 have hrsP : ∀ ω, openZ δ = some ω → ω.doubt = false ∧ ω.recs.length ≤ 1048576 ∧ ∀ s ∈ ω.recs, s.length ≤ 1073741824 := fun ω h => ⟨(hI ω h).2.1, (hI ω h).2.2.2.1, fun s hs => by have := (hI ω h).2.2.1 s hs; omega⟩
 have hrsR : ∀ ω, openZ δ = some ω → (ω.recs.length ≤ 1048576 ∧ ∀ s ∈ ω.recs, s.length ≤ 1073741824) ∧ I64 ω.a ∧ I64 ω.b := fun ω h => ⟨(hrsP ω h).2, ⟨by have := (hI ω h).2.2.2.2.1; omega, (hI ω h).2.2.2.2.1.2⟩, ⟨by have := (hI ω h).2.2.2.2.2; omega, (hI ω h).2.2.2.2.2.2⟩⟩
 refine .sr (.an rfl (.sr (.an rfl (.sr (.an rfl (.seq (.sm rfl (.nt (.condF rfl (.sm rfl (.m rfl (.nf rfl fo_62_0 (.u (.ld rfl ag_24) (.oq (.c Tryz.func18 [_] (lopen_spec d δ hn hok hrsP)) ?_))))))))))))))
 rintro v L' (⟨hdd, rfl, rfl⟩ | ⟨hdd, hop, rfl, rfl⟩ | ⟨hdd, ω, hop, ⟨hol, rfl, rfl⟩ | ⟨Λ, g, xg, hol, rfl, rfl⟩⟩)
 ·refine .m rfl (.u (.extract rfl rfl) (.u (.extract rfl rfl) (.nf rfl fo_62_1 (.oq (.store rfl rfl rfl sz_28 ?c16 (nfz0 _ _)) ?_))))
  case c16 => simp
  rintro v L' rfl
  refine .a rfl (.nil (.ptCast (b := s) (l' := [vptr d, .pointer none, vptr x, y0]) (by repeat' constructor) (by exact rfl) (.then_n (.region (.m rfl (.m rfl (.nf rfl fo_62_2 (.u (.ld rfl ag_47) (.oq (.c Tryz.func72 [_] (r9open_spec x δ hn hrsR)) ?_)))))))))
  rintro v L' (⟨hdd2, rfl, rfl⟩ | ⟨hdd2, hop2, rfl, rfl⟩ | ⟨hdd2, ω2, hop2, ⟨hol2, rfl, rfl⟩ | ⟨Λ2, y, w, hol2, rfl, rfl⟩⟩)
  ·refine .m rfl (.u (.extract rfl rfl) (.u (.extract rfl rfl) (.nf rfl fo_62_3 (.oq (.store rfl rfl rfl sz_60 ?c30 (nfz0 _ _)) ?_))))
   case c30 => simp
   rintro v L' rfl
   refine .a rfl (.nil (.ptCast (b := s) (l' := [vptr d, .pointer none, vptr x, .pointer none]) (by repeat' constructor) (by exact rfl) (.then_n (.seq (.draw [] [[0, 1, 2, 3, 4, 5, 6, 7, 8, 9, 10, 11, 12, 13, 14, 15, 16]] mixed (by kernel_rfl) (.g0 (.mv rfl rfl (.mv rfl rfl (.kv rfl (.as (v' := .bool true) (by rfl) (.int rfl rfl rfl)) (.mv rfl rfl (.gv rfl (.move rfl) (.gv rfl (.nilp rfl) (.gv rfl (.fieldAddr rfl fo_62_1) (.gv rfl (.ld rfl ag_28) (.gv rfl (.ptreq rfl rfl Tryz.underlying28) (.gv rfl (.move rfl) (.gv rfl (.nilp rfl) (.gv rfl (.fieldAddr rfl fo_62_3) (.gv rfl (.ld rfl ag_60) (.gv rfl (.ptreq rfl rfl Tryz.underlying60) (.gv rfl (.as (v' := .bool true) (by rfl) (.booleq rfl rfl Tryz.underlying4)) (.kv rfl (.pickT rfl rfl) (.kv rfl (.assign rfl) (.pf (.ret ?_)))))))))))))))))))))))))
   exact .dn rfl rfl (.inl ⟨.inl hdd, rfl, rfl⟩)
  · rw [hdd] at hdd2; cases hdd2
  · rw [hdd] at hdd2; cases hdd2
  rw [hdd] at hdd2; cases hdd2
 ·refine .m rfl (.u (.extract rfl rfl) (.u (.extract rfl rfl) (.nf rfl fo_62_1 (.oq (.store rfl rfl rfl sz_28 ?c53 (nfz0 _ _)) ?_))))
  case c53 => simp
  rintro v L' rfl
  refine .a rfl (.nil (.ptCast (b := s) (l' := [vptr d, .pointer none, vptr x, y0]) (by repeat' constructor) (by exact rfl) (.then_n (.region (.m rfl (.m rfl (.nf rfl fo_62_2 (.u (.ld rfl ag_47) (.oq (.c Tryz.func72 [_] (r9open_spec x δ hn hrsR)) ?_)))))))))
  rintro v L' (⟨hdd2, rfl, rfl⟩ | ⟨hdd2, hop2, rfl, rfl⟩ | ⟨hdd2, ω2, hop2, ⟨hol2, rfl, rfl⟩ | ⟨Λ2, y, w, hol2, rfl, rfl⟩⟩)
  · rw [hdd] at hdd2; cases hdd2
  ·refine .m rfl (.u (.extract rfl rfl) (.u (.extract rfl rfl) (.nf rfl fo_62_3 (.oq (.store rfl rfl rfl sz_60 ?c68 (nfz0 _ _)) ?_))))
   case c68 => simp
   rintro v L' rfl
   refine .a rfl (.nil (.ptCast (b := s) (l' := [vptr d, .pointer none, vptr x, .pointer none]) (by repeat' constructor) (by exact rfl) (.then_n (.seq (.draw [] [[0, 1, 2, 3, 4, 5, 6, 7, 8, 9, 10, 11, 12, 13, 14, 15, 16]] mixed (by kernel_rfl) (.g0 (.mv rfl rfl (.mv rfl rfl (.kv rfl (.as (v' := .bool true) (by rfl) (.int rfl rfl rfl)) (.mv rfl rfl (.gv rfl (.move rfl) (.gv rfl (.nilp rfl) (.gv rfl (.fieldAddr rfl fo_62_1) (.gv rfl (.ld rfl ag_28) (.gv rfl (.ptreq rfl rfl Tryz.underlying28) (.gv rfl (.move rfl) (.gv rfl (.nilp rfl) (.gv rfl (.fieldAddr rfl fo_62_3) (.gv rfl (.ld rfl ag_60) (.gv rfl (.ptreq rfl rfl Tryz.underlying60) (.gv rfl (.as (v' := .bool true) (by rfl) (.booleq rfl rfl Tryz.underlying4)) (.kv rfl (.pickT rfl rfl) (.kv rfl (.assign rfl) (.pf (.ret ?_)))))))))))))))))))))))))
   exact .dn rfl rfl (.inl ⟨.inr (.inl hop), rfl, rfl⟩)
  · rw [hop] at hop2; cases hop2
  rw [hop] at hop2; cases hop2
 ·refine .m rfl (.u (.extract rfl rfl) (.u (.extract rfl rfl) (.nf rfl fo_62_1 (.oq (.store rfl rfl rfl sz_28 ?c90 (nfz0 _ _)) ?_))))
  case c90 => simp
  rintro v L' rfl
  refine .a rfl (.nil (.ptCast (b := s) (l' := [vptr d, .pointer none, vptr x, y0]) (by repeat' constructor) (by exact rfl) (.then_n (.region (.m rfl (.m rfl (.nf rfl fo_62_2 (.u (.ld rfl ag_47) (.oq (.c Tryz.func72 [_] (r9open_spec x δ hn hrsR)) ?_)))))))))
  rintro v L' (⟨hdd2, rfl, rfl⟩ | ⟨hdd2, hop2, rfl, rfl⟩ | ⟨hdd2, ω2, hop2, ⟨hol2, rfl, rfl⟩ | ⟨Λ2, y, w, hol2, rfl, rfl⟩⟩)
  · rw [hdd] at hdd2; cases hdd2
  · rw [hop] at hop2; cases hop2
  ·refine .m rfl (.u (.extract rfl rfl) (.u (.extract rfl rfl) (.nf rfl fo_62_3 (.oq (.store rfl rfl rfl sz_60 ?c106 (nfz0 _ _)) ?_))))
   case c106 => simp
   rintro v L' rfl
   refine .a rfl (.nil (.ptCast (b := s) (l' := [vptr d, .pointer none, vptr x, .pointer none]) (by repeat' constructor) (by exact rfl) (.then_n (.seq (.draw [] [[0, 1, 2, 3, 4, 5, 6, 7, 8, 9, 10, 11, 12, 13, 14, 15, 16]] mixed (by kernel_rfl) (.g0 (.mv rfl rfl (.mv rfl rfl (.kv rfl (.as (v' := .bool true) (by rfl) (.int rfl rfl rfl)) (.mv rfl rfl (.gv rfl (.move rfl) (.gv rfl (.nilp rfl) (.gv rfl (.fieldAddr rfl fo_62_1) (.gv rfl (.ld rfl ag_28) (.gv rfl (.ptreq rfl rfl Tryz.underlying28) (.gv rfl (.move rfl) (.gv rfl (.nilp rfl) (.gv rfl (.fieldAddr rfl fo_62_3) (.gv rfl (.ld rfl ag_60) (.gv rfl (.ptreq rfl rfl Tryz.underlying60) (.gv rfl (.as (v' := .bool true) (by rfl) (.booleq rfl rfl Tryz.underlying4)) (.kv rfl (.pickT rfl rfl) (.kv rfl (.assign rfl) (.pf (.ret ?_)))))))))))))))))))))))))
   exact .dn rfl rfl (.inl ⟨.inr (.inr ⟨ω, hop, hol⟩), rfl, rfl⟩)
  rw [hop] at hop2; cases hop2; rw [hol] at hol2; cases hol2
 refine .m rfl (.u (.extract rfl rfl) (.u (.extract rfl rfl) (.nf rfl fo_62_1 (.oq (.store rfl rfl rfl sz_28 ?c127 (nfz0 _ _)) ?_))))
 case c127 => simp
 rintro v L' rfl
 refine .a rfl (.nil (.ptCast (b := s) (l' := [vptr d, vptr g, vptr x, y0]) (by repeat' constructor) (by exact rfl) (.then_n (.region (.m rfl (.m rfl (.nf rfl fo_62_2 (.u (.ld rfl ag_47) (.oq (.c Tryz.func72 [_] (r9open_spec x δ hn hrsR)) ?_)))))))))
 rintro v L' (⟨hdd2, rfl, rfl⟩ | ⟨hdd2, hop2, rfl, rfl⟩ | ⟨hdd2, ω2, hop2, ⟨hol2, rfl, rfl⟩ | ⟨Λ2, y, w, hol2, rfl, rfl⟩⟩)
 · rw [hdd] at hdd2; cases hdd2
 · rw [hop] at hop2; cases hop2
 · rw [hop] at hop2; cases hop2; rw [hol] at hol2; cases hol2
 refine .m rfl (.u (.extract rfl rfl) (.u (.extract rfl rfl) (.nf rfl fo_62_3 (.oq (.store rfl rfl rfl sz_60 ?c144 (nfz0 _ _)) ?_))))
 case c144 => simp
 rintro v L' rfl
 refine .a rfl (.nil (.ptCast (b := s) (l' := [vptr d, vptr g, vptr x, vptr y]) (by repeat' constructor) (by exact rfl) ?_))
 rw [hop] at hop2; cases hop2
 rw [hol] at hol2; cases hol2
 refine .then_n (.seq (.draw [] [[0, 1, 2, 3, 4, 5, 6, 7, 8, 9, 10, 11, 12, 13, 14, 15, 16]] mixed (by kernel_rfl) (.g0 (.mv rfl rfl (.mv rfl rfl (.kv rfl (.as (v' := .bool true) (by rfl) (.int rfl rfl rfl)) (.mv rfl rfl (.gv rfl (.move rfl) (.gv rfl (.nilp rfl) (.gv rfl (.fieldAddr rfl fo_62_1) (.gv rfl (.ld rfl ag_28) (.gv rfl (.ptreq rfl rfl Tryz.underlying28) (.gv rfl (.move rfl) (.gv rfl (.nilp rfl) (.gv rfl (.fieldAddr rfl fo_62_3) (.gv rfl (.ld rfl ag_60) (.gv rfl (.ptreq rfl rfl Tryz.underlying60) (.gv rfl (.as (v' := .bool true) (by rfl) (.booleq rfl rfl Tryz.underlying4)) (.kv rfl (.pickT rfl rfl) (.kv rfl (.assign rfl) (.pf (.ret ?_))))))))))))))))))))))
 exact .dn rfl rfl (.inr ⟨hdd, ω, Λ, g, xg, y, w, hop, hol, rfl, rfl⟩)
theorem sformat_spec (s d x : Nat) (l0 y0 : Value) (δ : Dk) (hA : δ.acts + 10 < 4611686018427387904) (hI : WlI (formatZ δ).1 newW) (hI1 : WlI (lgF1 δ).1 (lgF1 δ).2.1) (hab : (0 ≤ (lgF1 δ).2.1.a ∧ (lgF1 δ).2.1.a ≤ 9223372036854775807) ∧ (0 ≤ (lgF1 δ).2.1.b ∧ (lgF1 δ).2.1.b ≤ 9223372036854775807)) : Fn Tryz.prog 24 #[vptr s, .bool true] [ptc s [vptr d, l0, vptr x, y0] 62, dkR d δ, dsR x δ] fun v L => ((lgFormat δ).2 = none ∧ v = .bool true ∧ L = [ptc s [vptr d, .pointer none, vptr x, .pointer none] 62, dkR d (lgFormat δ).1, dsR x (lgFormat δ).1]) ∨ (∃ ω g xg y w, (lgFormat δ).2 = some ω ∧ v = .bool true ∧ L = [ptc s [vptr d, vptr g, vptr x, vptr y] 62, lgR g xg lg0, wlR xg d ω, dkR d (lgFormat δ).1, rgR y w lg0, rlR w x ω, dsR x (lgFormat δ).1]) := by
 refine Fn.intro Tryz.func24 rfl rfl fun F W => ?_
 refine .sr (.an rfl (.sr (.an rfl (.sr (.an rfl (.seq (.sm rfl (.nt (.condT rfl (.sm rfl (.m rfl (.nf rfl fo_62_0 (.u (.ld rfl ag_24) (.oq (.c Tryz.func12 [_] (lformat_spec d δ hA hI hI1)) ?_))))))))))))))
 rintro v L' (⟨hf, rfl, rfl⟩ | ⟨ω1, g, xg, hf, rfl, rfl⟩)
 ·refine .m rfl (.u (.extract rfl rfl) (.u (.extract rfl rfl) (.nf rfl fo_62_1 (.oq (.store rfl rfl rfl sz_28 ?c16 (nfz0 _ _)) ?_))))
  case c16 => simp
  rintro v L' rfl
  refine .a rfl (.nil (.ptCast (b := s) (l' := [vptr d, .pointer none, vptr x, y0]) (by repeat' constructor) (by exact rfl) (.then_n (.region (.m rfl (.m rfl (.nf rfl fo_62_2 (.u (.ld rfl ag_47) (.oq (.c Tryz.func71 [_] (r9format_spec x δ hA hI hI1 hab)) ?_)))))))))
  rintro v L' (⟨hf2, rfl, rfl⟩ | ⟨ω2, y, w, hf2, rfl, rfl⟩)
  ·refine .m rfl (.u (.extract rfl rfl) (.u (.extract rfl rfl) (.nf rfl fo_62_3 (.oq (.store rfl rfl rfl sz_60 ?c30 (nfz0 _ _)) ?_))))
   case c30 => simp
   rintro v L' rfl
   refine .a rfl (.nil (.ptCast (b := s) (l' := [vptr d, .pointer none, vptr x, .pointer none]) (by repeat' constructor) (by exact rfl) (.then_n (.seq (.draw [] [[0, 1, 2, 3, 4, 5, 6, 7, 8, 9, 10, 11, 12, 13, 14, 15, 16]] mixed (by kernel_rfl) (.g0 (.mv rfl rfl (.mv rfl rfl (.kv rfl (.as (v' := .bool true) (by rfl) (.int rfl rfl rfl)) (.mv rfl rfl (.gv rfl (.move rfl) (.gv rfl (.nilp rfl) (.gv rfl (.fieldAddr rfl fo_62_1) (.gv rfl (.ld rfl ag_28) (.gv rfl (.ptreq rfl rfl Tryz.underlying28) (.gv rfl (.move rfl) (.gv rfl (.nilp rfl) (.gv rfl (.fieldAddr rfl fo_62_3) (.gv rfl (.ld rfl ag_60) (.gv rfl (.ptreq rfl rfl Tryz.underlying60) (.gv rfl (.as (v' := .bool true) (by rfl) (.booleq rfl rfl Tryz.underlying4)) (.kv rfl (.pickT rfl rfl) (.kv rfl (.assign rfl) (.pf (.ret ?_)))))))))))))))))))))))))
   exact .dn rfl rfl (.inl ⟨hf, rfl, rfl⟩)
  rw [hf] at hf2; cases hf2
 refine .m rfl (.u (.extract rfl rfl) (.u (.extract rfl rfl) (.nf rfl fo_62_1 (.oq (.store rfl rfl rfl sz_28 ?c51 (nfz0 _ _)) ?_))))
 case c51 => simp
 rintro v L' rfl
 refine .a rfl (.nil (.ptCast (b := s) (l' := [vptr d, vptr g, vptr x, y0]) (by repeat' constructor) (by exact rfl) (.then_n (.region (.m rfl (.m rfl (.nf rfl fo_62_2 (.u (.ld rfl ag_47) (.oq (.c Tryz.func71 [_] (r9format_spec x δ hA hI hI1 hab)) ?_)))))))))
 rintro v L' (⟨hf2, rfl, rfl⟩ | ⟨ω2, y, w, hf2, rfl, rfl⟩)
 · rw [hf] at hf2; cases hf2
 refine .m rfl (.u (.extract rfl rfl) (.u (.extract rfl rfl) (.nf rfl fo_62_3 (.oq (.store rfl rfl rfl sz_60 ?c66 (nfz0 _ _)) ?_))))
 case c66 => simp
 rintro v L' rfl
 refine .a rfl (.nil (.ptCast (b := s) (l' := [vptr d, vptr g, vptr x, vptr y]) (by repeat' constructor) (by exact rfl) ?_))
 rw [hf] at hf2; cases hf2
 refine .then_n (.seq (.draw [] [[0, 1, 2, 3, 4, 5, 6, 7, 8, 9, 10, 11, 12, 13, 14, 15, 16]] mixed (by kernel_rfl) (.g0 (.mv rfl rfl (.mv rfl rfl (.kv rfl (.as (v' := .bool true) (by rfl) (.int rfl rfl rfl)) (.mv rfl rfl (.gv rfl (.move rfl) (.gv rfl (.nilp rfl) (.gv rfl (.fieldAddr rfl fo_62_1) (.gv rfl (.ld rfl ag_28) (.gv rfl (.ptreq rfl rfl Tryz.underlying28) (.gv rfl (.move rfl) (.gv rfl (.nilp rfl) (.gv rfl (.fieldAddr rfl fo_62_3) (.gv rfl (.ld rfl ag_60) (.gv rfl (.ptreq rfl rfl Tryz.underlying60) (.gv rfl (.as (v' := .bool true) (by rfl) (.booleq rfl rfl Tryz.underlying4)) (.kv rfl (.pickT rfl rfl) (.kv rfl (.assign rfl) (.pf (.ret ?_))))))))))))))))))))))
 exact .dn rfl rfl (.inr ⟨ω1, g, xg, y, w, hf, rfl, rfl⟩)
def OwnOf : List En → List En → Prop
 | [], [] => True
 | o :: os, e :: es => (∃ av sv, (isCell av = true ∧ isCell sv = true) ∧ o = own9 e av sv) ∧ OwnOf os es
 | _, _ => False
theorem OwnOf.len : ∀ {os es : List En}, OwnOf os es → os.length = es.length
 | [], [], _ => rfl
 | _ :: _, _ :: _, h => congrArg (· + 1) (OwnOf.len h.2)
 | [], _ :: _, h => h.elim
 | _ :: _, [], h => h.elim
theorem OwnOf.snoc {e : En} {av sv : Value} (h1 : isCell av = true) (h2 : isCell sv = true) : ∀ {os es : List En}, OwnOf os es → OwnOf (os ++ [own9 e av sv]) (es ++ [e])
 | [], [], _ => ⟨⟨av, sv, ⟨h1, h2⟩, rfl⟩, trivial⟩
 | _ :: _, _ :: _, h => ⟨h.1, OwnOf.snoc h1 h2 h.2⟩
 | [], _ :: _, h => h.elim
 | _ :: _, [], h => h.elim
theorem OwnOf.at : ∀ {os es : List En}, OwnOf os es → ∀ {j : Nat} (hj : j < os.length) (hk : j < es.length), ∃ av sv, (isCell av = true ∧ isCell sv = true) ∧ os[j] = own9 es[j] av sv
 | _ :: _, _ :: _, h, 0, _, _ => h.1
 | _ :: _, _ :: _, h, j + 1, hj, hk => OwnOf.at h.2 (by simpa using hj) (by simpa using hk)
 | [], _, _, _, hj, _ => by simp at hj
 | _ :: _, [], h, _, _, _ => h.elim
theorem OwnOf.b : ∀ {os es : List En}, OwnOf os es → os.map enB = es.map enB
 | [], [], _ => rfl
 | _ :: _, _ :: _, h => by
  obtain ⟨⟨av, sv, -, rfl⟩, h2⟩ := h
  rw [List.map_cons, List.map_cons, OwnOf.b h2]; rfl
 | [], _ :: _, h => h.elim
 | _ :: _, [], h => h.elim
theorem OwnOf.z : ∀ {os es : List En}, OwnOf os es → os.map (·.zx) = es.map (·.zx)
 | [], [], _ => rfl
 | _ :: _, _ :: _, h => by
  obtain ⟨⟨av, sv, -, rfl⟩, h2⟩ := h
  rw [List.map_cons, List.map_cons, OwnOf.z h2]; rfl
 | [], _ :: _, h => h.elim
 | _ :: _, [], h => h.elim
theorem OwnOf.f : ∀ {os es : List En}, OwnOf os es → os.all fitsE = es.all fitsE
 | [], [], _ => rfl
 | _ :: _, _ :: _, h => by
  obtain ⟨⟨av, sv, -, rfl⟩, h2⟩ := h
  rw [List.all_cons, List.all_cons, OwnOf.f h2]; rfl
 | [], _ :: _, h => h.elim
 | _ :: _, [], h => h.elim
theorem install_own {os es : List En} (h : OwnOf os es) (s : Ld) (z : Int) (t : Bs) : lgInstall s z t os = lgInstall s z t es := by
 unfold lgInstall; rw [h.b, h.z, h.f]
theorem OwnOf.X {p : HP} {os es : List En} (h : OwnOf os es) (hx : ∀ e ∈ es, EnX p e) {q : HP} : ∀ o ∈ os, EnX (sep [q, bigR len9 os, p]) o := by
 intro o ho
 obtain ⟨j, hj, rfl⟩ := List.mem_iff_getElem.1 ho
 have hk : j < es.length := by rw [← h.len]; exact hj
 obtain ⟨av, sv, ⟨h1, h2⟩, e⟩ := h.at hj hk
 rw [e]
 refine own_L (hx _ (List.getElem_mem hk)) h1 h2 fun w hw => ?_
 obtain ⟨g1, g2, -, a1, a2, q1, q2⟩ := hw
 obtain ⟨g3, g4, -, a3, a4, q3, q4⟩ := q2
 obtain ⟨g5, -, -, a5, -, q5, -⟩ := q4
 obtain ⟨g6, a6, q6⟩ := big_get (List.getElem_mem hj) q3
 rw [e] at q6
 obtain ⟨g7, g8, -, a7, a8, q7, q8⟩ := q6
 obtain ⟨g9, -, -, a9, -, q9, -⟩ := q8
 exact ⟨⟨rdS_mono (lentA_rd (y := (own9 es[j] av sv).x) q7) fun b o g => a2 _ _ (a3 _ _ (a6 _ _ (a7 _ _ g))), rdS_mono (lentS_rd (e := own9 es[j] av sv) q9) fun b o g => a2 _ _ (a3 _ _ (a6 _ _ (a8 _ _ (a9 _ _ g))))⟩, g5, fun b o g => a2 _ _ (a4 _ _ (a5 _ _ g)), q5⟩
def lgCh (s : Ld) (o : Op9) : Ld := if 1 ≤ o.k ∧ o.k ≤ 7 then (lgDoes s o o.k).1 else s
theorem lps_ch {p : HP} {s : Ld} {N : Int} (h : LPs s N) {o : Op9} (ho : Op9A p o) : LPs (lgCh s o) (N + 4000000) := by
 unfold lgCh
 split
 ·exact lps_does h ho _
 ·exact h.more (by omega)
theorem newW_k {δ : Dk} (hs : 2 ≤ δ.now.length ∧ δ.now.length ≤ 32768) {N : Int} (ha : δ.acts ≤ N) : WK (formatZ δ).1 newW (N + 100) := by
 have hk : (formatZ δ).1.now.length = δ.now.length ∧ (formatZ δ).1.acts ≤ δ.acts + 100 := by
  unfold formatZ
  repeat' split
  all_goals first
   | exact ⟨(fmtZ_keeps δ 3).1, by have := (fmtZ_keeps δ 3).2; dsimp only; omega⟩
   | exact ⟨(fmtZ_keeps δ 2).1, by have := (fmtZ_keeps δ 2).2; dsimp only; omega⟩
   | exact ⟨(fmtZ_keeps δ 1).1, by have := (fmtZ_keeps δ 1).2; dsimp only; omega⟩
   | exact ⟨(fmtZ_keeps δ 0).1, by have := (fmtZ_keeps δ 0).2; dsimp only; omega⟩
 have hh := half_le (δ := (formatZ δ).1) (by rw [hk.1]; exact hs)
 exact ⟨by rw [hk.1]; exact hs, by omega, ⟨by decide, by decide⟩, ⟨by decide, by decide⟩, ⟨by decide, by decide⟩, by show (0 : Int) ≤ _; omega⟩
theorem format_k {δ : Dk} (hs : 2 ≤ δ.now.length ∧ δ.now.length ≤ 32768) {N : Int} (ha : δ.acts ≤ N) : WK (lgF1 δ).1 (lgF1 δ).2.1 (N + 2000100) ∧ ((lgF1 δ).2.1.a = 0 ∧ (lgF1 δ).2.1.b = 0) ∧ (∀ ω, (lgFormat δ).2 = some ω → LPs ⟨(lgFormat δ).1, ω, lg0⟩ (N + 5000000)) ∧ (2 ≤ (lgFormat δ).1.now.length ∧ (lgFormat δ).1.now.length ≤ 32768) ∧ (lgFormat δ).1.acts ≤ N + 5000000 := by
 have h0 := newW_k hs ha
 obtain ⟨q1, ⟨q2, q3⟩, -⟩ := wk_append h0 (headB 0 0)
 have q1 : WK (lgF1 δ).1 (lgF1 δ).2.1 (N + 2000100) := q1.more (by omega)
 have q2 : (lgF1 δ).2.1.a = 0 := q2
 have q3 : (lgF1 δ).2.1.b = 0 := q3
 obtain ⟨r1, r2, r3⟩ := wk_sync q1
 have r1 : WK (lgF2 δ).1 (lgF2 δ).2.1 (N + 5000000) := WK.more r1 (by omega)
 have r2 : (lgF2 δ).2.1.a = 0 := r2.trans q2
 have r3 : (lgF2 δ).2.1.b = 0 := r3.trans q3
 have hW : LgW lg0 := ⟨Nat.zero_le _, fun s hs => (by cases hs), ⟨by decide, by decide⟩, Nat.zero_le _, trivial, ⟨by decide, by decide, by decide⟩⟩
 refine ⟨q1, ⟨q2, q3⟩, ?_⟩
 unfold lgFormat
 split
 ·exact ⟨fun ω h => (by cases h), h0.size, by have := h0.acts; dsimp only; omega⟩
 split
 ·exact ⟨fun ω h => (by cases h), q1.size, by have := q1.acts; dsimp only; omega⟩
 split
 ·exact ⟨fun ω h => (by cases h), r1.size, r1.acts⟩
 ·exact ⟨fun ω h => by cases h; exact ⟨r1, hW, r2, r3⟩, r1.size, r1.acts⟩
set_option maxHeartbeats 2000000 in
theorem changes9_spec (s d g xg x y w : Nat) (δ : Dk) (ω : Wl) (Λ : Lg) (N : Int) (h : LPs ⟨δ, ω, Λ⟩ N) (hN : N + 20000000 < 4611686018427387904) (o : Op9) (p : HP) (ho : Op9A p o) : Fn Tryz.prog 87 #[vptr s, .agg (op9K o o.k).toArray] [ptc s [vptr d, vptr g, vptr x, vptr y] 62, lgR g xg Λ, wlR xg d ω, dkR d δ, rgR y w Λ, rlR w x ω, dsR x δ, p] fun v L => v = .bool true ∧ L = [ptc s [vptr d, vptr g, vptr x, vptr y] 62, lgR g xg (lgCh ⟨δ, ω, Λ⟩ o).Λ, wlR xg d (lgCh ⟨δ, ω, Λ⟩ o).ω, dkR d (lgCh ⟨δ, ω, Λ⟩ o).δ, rgR y w (lgCh ⟨δ, ω, Λ⟩ o).Λ, rlR w x (lgCh ⟨δ, ω, Λ⟩ o).ω, dsR x (lgCh ⟨δ, ω, Λ⟩ o).δ, p] := by
 refine Fn.intro Tryz.func87 rfl rfl fun F W => ?_
 have hI : WlI δ ω := h.wk.i (by omega)
 have hLI : LgI Λ := h.w.i
 have hup : Λ.zxs.Pairwise (· < ·) := (List.pairwise_cons.1 h.w.rows.up).2
 have hsn : Λ.snap.length ≤ 65536 := h.w.snap
 have hab : (0 ≤ ω.a ∧ ω.a ≤ 9223372036854775807) ∧ (0 ≤ ω.b ∧ ω.b ≤ 9223372036854775807) := h.hab
 have hI1 : WlI (lgSync ⟨δ, ω, Λ⟩).1.δ (lgSync ⟨δ, ω, Λ⟩).1.ω := (lps_sync h).wk.i (by omega)
 have hep : 0 ≤ Λ.cur ∧ Λ.cur ≤ Λ.acc ∧ Λ.acc ≤ 1073741824 := h.w.eps
 have hfew : Λ.ents.length ≤ 200 := h.w.few
 have hbs : 0 ≤ Λ.base ∧ Λ.base ≤ 9223372036854775807 := h.w.base
 have hoe := ho.e
 have hlen := ho.len
 have hbI : I64 Λ.base := by unfold I64; omega
 have hha : ω.a = Λ.acc := h.a
 have hhb : ω.b = Λ.cur := h.b
 refine .rdAny (p := p) ho.l (by repeat' constructor) fun al cl hlv _ => ?_
 have hrl : ∀ h : Hp, p h → rdS 11 h (.slice al o.l.length cl) o.l.length (o.l.flatMap enC) := fun h hp => by have q := ho.l h hp; rw [hlv] at q; exact q
 refine .sr (.oq (.box rfl) ?_)
 rintro v L' ⟨b3, rfl, rfl⟩
 refine .a rfl (.nil (.ptCast (b := b3) (l' := op9K o o.k) (by repeat' constructor) (by exact rfl) (.then_n (.seq (.sr (.u (.fieldAddr rfl fo_73_0) (.u (.ld rfl ag_3) (.nt (.block (.sr (.ui rfl rfl rfl (.an rfl (.condD rfl (fun h19 => ?_) (fun h19 => ?_))))))))))))))
 ·refine .sr (.u (.fieldAddr rfl fo_73_3) (.q (.loadAs (vs := enC o.e) rfl ag_38 (by repeat' constructor) (by simp [op9K, op9C, enC, ptC]) rfl) rfl (.oq (.c Tryz.func141 [_] (lent9_spec o.e p ho.e)) ?_)))
  rintro v L' ⟨av, sv, hca, hcs, rfl, rfl⟩
  refine .oq (.allocA ze_38) ?_
  rintro v L' ⟨b5, rfl, rfl⟩
  refine .oq (.storeA rfl rfl ?c13 sz_38 ?c16 ?c14 (nfz0 _ _)) ?_
  case c13 => exact (own_X hoe hca hcs).l.cells
  case c16 => rfl
  case c14 => simp [enC, ptC]
  rintro v L' rfl
  refine .nil (.ptCast (b := b5) (l' := enC (own9 o.e av sv)) (by repeat' constructor) (by exact rfl) (.fold (p := sep [len9 (own9 o.e av sv), p]) (q := [len9 (own9 o.e av sv), p]) (by repeat' constructor) (fun _ hp => hp) (.then_n (.seq (.draw [5] [[0, 1, 2, 3, 4, 5], [6]] mixed (by kernel_rfl) (.g0 (.mv rfl rfl (.nf rfl rfl rfl fo_62_1 (.kv rfl (.ld rfl ag_28) (.kv rfl (.loadAs (vs := enC (own9 o.e av sv)) rfl ag_38 (by repeat' constructor) (by simp [enC, ptC]) rfl) (.hh rfl (.c Tryz.func13 [_, _] (lappend_spec g xg d δ ω Λ (own9 o.e av sv) (sep [len9 (own9 o.e av sv), p]) (own_X hoe hca hcs) hI hLI)) ?_)))))))))))
  rintro v L' ⟨rfl, rfl⟩; rw [append_own]
  refine D.ph (.g0 (.kv rfl (.assign rfl) (.pf (.seq (.focus (p := sep [len9 (own9 o.e av sv), p]) (by repeat' constructor) (.unfold (q := [len9 (own9 o.e av sv), p]) (fun _ hp => hp) ?_))))))
  simp only [List.cons_append, List.nil_append]
  refine .region (.q (.loadAs (vs := enC (own9 o.e av sv)) rfl ag_38 (by repeat' constructor) (by simp [enC, ptC]) rfl) rfl (.u (.fieldAddr rfl fo_73_3) (.q (.loadAs (vs := enC o.e) rfl ag_38 (by repeat' constructor) (by simp [op9K, op9C, enC, ptC]) rfl) rfl (.cv Tryz.func142 [_, _] (kept9_spec o.e p ho.e av sv) ?_))))
  refine .an rfl (.seq (.draw [9] [[0, 1, 2, 3, 4, 5, 6, 7, 8, 9], [10, 11, 12]] mixed (by kernel_rfl) (.go [ptc s _ _, ptc b3 _ _] (by repeat' constructor) (.mv rfl rfl (.mv rfl rfl (.gq (t := 35) rfl rfl rfl (by kernel_rfl) (.move rfl) (.gv rfl (.move rfl) (.gv rfl (.nilp rfl) (.gv rfl (.fieldAddr rfl fo_62_3) (.gv rfl (.ld rfl ag_60) (.gv rfl (.fieldAddr rfl fo_73_3) (.gv rfl (.loadAs (vs := enC o.e) rfl ag_38 (by repeat' constructor) (by simp [op9K, op9C, enC, ptC]) rfl) (.gh (t := 35) rfl rfl rfl (by kernel_rfl) (.c Tryz.func143 [_, _] (r9append_spec y w x δ ω Λ o.e p ho.e hoe.l.w.i.zx hI hfew)) (by repeat' constructor) ?_)))))))))))))
  rintro v L' ⟨rfl, rfl⟩
  refine D.ph (.g0 (.gv rfl (.as (v' := .bool true) (by simp) (.int rfl rfl rfl)) (.kv rfl (.pickT rfl rfl) (.kv rfl (.assign rfl) (.pf (.ret (.blk_r (.then_r ?_))))))))
  have hr : lgCh ⟨δ, ω, Λ⟩ o = (lgAppend ⟨δ, ω, Λ⟩ o.e).1 := by unfold lgCh lgDoes; rw [if_pos (by omega), if_pos h19]
  rw [hr]
  exact .vv
 refine .sr (.ui rfl rfl rfl (.an rfl (.condD rfl (fun h46 => ?_) (fun h46 => ?_))))
 ·refine .seq (.draw [4, 9] [[0, 1, 2, 3, 5, 6, 7, 8, 4], [9], [10, 11]] mixed (by kernel_rfl) (.go [ptc s _ _] (by repeat' constructor) (.mv rfl rfl (.nf rfl rfl rfl fo_62_1 (.kv rfl (.ld rfl ag_28) (.k rfl (.move rfl) (.k rfl (.nilp rfl) (.k rfl (.fieldAddr rfl fo_62_3) (.k rfl (.ld rfl ag_60) (.hh rfl (.c Tryz.func28 [_] (lsync_spec g xg d δ ω Λ hI)) ?_))))))))))
  rintro v L' ⟨rfl, rfl⟩
  refine D.ph (.g0 (.hh rfl (.c Tryz.func144 [_] (r9sync_spec y w x δ ω Λ hI hab)) ?_))
  rintro v L' ⟨rfl, rfl⟩
  refine D.ph (.g0 (.kv rfl (.as (v' := .bool true) (by simp) (.int rfl rfl rfl)) (.kv rfl (.assign rfl) (.pf (.ret (.blk_r (.then_r ?_)))))))
  have hr : lgCh ⟨δ, ω, Λ⟩ o = (lgSync ⟨δ, ω, Λ⟩).1 := by unfold lgCh lgDoes; rw [if_pos (by omega), if_neg h19, if_pos h46]
  rw [hr]
  exact .vv
 refine .sr (.ui rfl rfl rfl (.an rfl (.condD rfl (fun h59 => ?_) (fun h59 => ?_))))
 ·refine .seq (.draw [6, 13] [[0, 1, 2, 3, 4, 5, 7, 8, 9, 10, 11, 12, 6], [13], [14, 15]] mixed (by kernel_rfl) (.go [ptc s _ _, ptc b3 _ _] (by repeat' constructor) (.mv rfl rfl (.nf rfl rfl rfl fo_62_1 (.kv rfl (.ld rfl ag_28) (.kv rfl (.fieldAddr rfl fo_73_1) (.kv rfl (.ld rfl ag_3) (.k rfl (.move rfl) (.k rfl (.nilp rfl) (.k rfl (.fieldAddr rfl fo_62_3) (.k rfl (.ld rfl ag_60) (.k rfl (.fieldAddr rfl fo_73_1) (.k rfl (.ld rfl ag_3) (.hh rfl (.c Tryz.func39 [_, _] (laccept_spec g xg d δ ω Λ o.n hI)) ?_))))))))))))))
  rintro v L' ⟨rfl, rfl⟩
  refine D.ph (.g0 (.hh rfl (.c Tryz.func145 [_, _] (r9accept_spec y w x δ ω Λ o.n hI (by omega))) ?_))
  rintro v L' ⟨rfl, rfl⟩
  refine D.ph (.g0 (.kv rfl (.as (v' := .bool true) (by simp) (.int rfl rfl rfl)) (.kv rfl (.assign rfl) (.pf (.ret (.blk_r (.then_r ?_)))))))
  have hr : lgCh ⟨δ, ω, Λ⟩ o = (lgAccept ⟨δ, ω, Λ⟩ o.n).1 := by unfold lgCh lgDoes; rw [if_pos (by omega), if_neg h19, if_neg h46, if_pos h59]
  rw [hr]
  exact .vv
 refine .sr (.ui rfl rfl rfl (.an rfl (.condD rfl (fun h76 => ?_) (fun h76 => ?_))))
 ·refine .seq (.draw [6, 13] [[0, 1, 2, 3, 4, 5, 7, 8, 9, 10, 11, 12, 6], [13], [14, 15]] mixed (by kernel_rfl) (.go [ptc s _ _, ptc b3 _ _] (by repeat' constructor) (.mv rfl rfl (.nf rfl rfl rfl fo_62_1 (.kv rfl (.ld rfl ag_28) (.kv rfl (.fieldAddr rfl fo_73_1) (.kv rfl (.ld rfl ag_3) (.k rfl (.move rfl) (.k rfl (.nilp rfl) (.k rfl (.fieldAddr rfl fo_62_3) (.k rfl (.ld rfl ag_60) (.k rfl (.fieldAddr rfl fo_73_1) (.k rfl (.ld rfl ag_3) (.hh rfl (.c Tryz.func43 [_, _] (ladopt_spec g xg d δ ω Λ o.n hI hI1)) ?_))))))))))))))
  rintro v L' ⟨rfl, rfl⟩
  refine D.ph (.g0 (.hh rfl (.c Tryz.func146 [_, _] (r9adopt_spec y w x δ ω Λ o.n hI hab hI1 (by omega))) ?_))
  rintro v L' ⟨rfl, rfl⟩
  refine D.ph (.g0 (.kv rfl (.as (v' := .bool true) (by simp) (.int rfl rfl rfl)) (.kv rfl (.assign rfl) (.pf (.ret (.blk_r (.then_r ?_)))))))
  have hr : lgCh ⟨δ, ω, Λ⟩ o = (lgAdopt ⟨δ, ω, Λ⟩ o.n).1 := by unfold lgCh lgDoes; rw [if_pos (by omega), if_neg h19, if_neg h46, if_neg h59, if_pos h76]
  rw [hr]
  exact .vv
 refine .sr (.ui rfl rfl rfl (.an rfl (.condD rfl (fun h93 => ?_) (fun h93 => ?_))))
 ·refine .seq (.draw [6, 13] [[0, 1, 2, 3, 4, 5, 7, 8, 9, 10, 11, 12, 6], [13], [14, 15]] mixed (by kernel_rfl) (.go [ptc s _ _, ptc b3 _ _] (by repeat' constructor) (.mv rfl rfl (.nf rfl rfl rfl fo_62_1 (.kv rfl (.ld rfl ag_28) (.kv rfl (.fieldAddr rfl fo_73_1) (.kv rfl (.ld rfl ag_3) (.k rfl (.move rfl) (.k rfl (.nilp rfl) (.k rfl (.fieldAddr rfl fo_62_3) (.k rfl (.ld rfl ag_60) (.k rfl (.fieldAddr rfl fo_73_1) (.k rfl (.ld rfl ag_3) (.hh rfl (.c Tryz.func27 [_, _] (lcut_spec g xg d δ ω Λ o.n hI hLI hup hsn)) ?_))))))))))))))
  rintro v L' ⟨rfl, rfl⟩
  refine D.ph (.g0 (.hh rfl (.c Tryz.func147 [_, _] (r9cut_spec y w x δ ω Λ o.n hI hab hbI hsn hfew)) ?_))
  rintro v L' ⟨rfl, rfl⟩
  refine D.ph (.g0 (.kv rfl (.as (v' := .bool true) (by simp) (.int rfl rfl rfl)) (.kv rfl (.assign rfl) (.pf (.ret (.blk_r (.then_r ?_)))))))
  have hr : lgCh ⟨δ, ω, Λ⟩ o = (lgCut ⟨δ, ω, Λ⟩ o.n).1 := by unfold lgCh lgDoes; rw [if_pos (by omega), if_neg h19, if_neg h46, if_neg h59, if_neg h76, if_pos h93]
  rw [hr]
  exact .vv
 refine .sr (.ui rfl rfl rfl (.an rfl (.condD rfl (fun h110 => ?_) (fun h110 => ?_))))
 ·refine .sr (.q (.loadAs (vs := op9K o o.k) rfl ag_73 (by repeat' constructor) (by simp [op9K, op9C, enC, ptC]) rfl) rfl (.cv Tryz.func79 [_] (text9_spec o o.k ho.text) ?_))
  refine .an rfl (.seq (.add (slR_nil 38 11) (.add (p := bigR len9 []) (fun h => big_nil h) (.region (.an rfl (.seq (.sr (.an rfl (.block (.loopK (ι := Nat × Value × (List En)) (fun q E => (10, vint q.1) :: (9, q.2.1) :: E) (fun q => [slR 38 11 q.2.1 q.2.2.length (q.2.2.flatMap enC), bigR len9 q.2.2]) (fun q => q.1 ≤ o.l.length ∧ OwnOf q.2.2 (o.l.take q.1) ∧ ∃ a c, q.2.1 = .slice a q.2.2.length c) (fun q => o.l.length - q.1) (0, .slice none 0 0, []) (ts := [0, 3, 4, 8]) (.cons rfl (.cons rfl (.cons rfl (.cons rfl (.nil))))) (⟨Nat.zero_le _, trivial, none, 0, rfl⟩) ⟨rfl, rfl, rfl, rfl, rfl, rfl, trivial⟩ (by repeat' constructor) ?_))))))))))
  rintro ⟨i, u, os⟩ ⟨hi, hown, au, cu, hu⟩
  dsimp only
  dsimp only at hi hown hu
  subst hu
  have hosl : os.length = i := by have := hown.len; rw [List.length_take] at this; omega
  refine .seq (.sm rfl (.u (.fieldAddr rfl fo_73_4) (.q (.to (v' := (.slice al o.l.length cl)) (.load rfl ag_22 (by repeat' constructor) rfl) hlv) rfl (.q (.slen rfl Tryz.underlying22 rfl) rfl (.ui rfl rfl rfl (.nt (.condD rfl (fun h118 => ?_) (fun h118 => ?_))))))))
  ·have hi2 : i < o.l.length := by omega
   refine .rdShape (p := p) hrl (by repeat' constructor) (by omega) fun ba oa e1 => ?_
   subst e1
   refine .sk (.seq (.block (.sr (.u (.fieldAddr rfl fo_73_4) (.q (.to (v' := (.slice (some ⟨ba, oa, none⟩) o.l.length cl)) (.load rfl ag_22 (by repeat' constructor) rfl) hlv) rfl (.m rfl (.q (.indexAddr rfl rfl el_22 (by omega)) rfl (.q (.loadRdA (sz := 11) (j := i * 11) (k := 11) (p := p) (vs := enC o.l[i]) rfl ag_38 (by repeat' constructor) hrl (by simp) (by omega) (by omega) (flatMap_at (f := enC) (sz := 11) (fun _ _ => rfl) (by omega))) rfl (.oq (.c Tryz.func141 [_] (lent9_spec o.l[i] p (ho.x _ (List.getElem_mem hi2)))) ?_)))))))))
   rintro v L' ⟨av, sv, hca, hcs, rfl, rfl⟩
   refine .oq (.allocA ze_38) ?_
   rintro v L' ⟨b11, rfl, rfl⟩
   refine .oq (.storeA rfl rfl ?c127 sz_38 ?c130 ?c128 (nfz0 _ _)) ?_
   case c127 => exact (own_X (ho.x _ (List.getElem_mem hi2)) hca hcs).l.cells
   case c130 => rfl
   case c128 => simp [enC, ptC]
   rintro v L' rfl
   refine .nil (.ptCast (b := b11) (l' := enC (own9 o.l[i] av sv)) (by repeat' constructor) (by exact rfl) (.then_n (.region (.m rfl (.q (.loadAs (vs := enC (own9 o.l[i] av sv)) rfl ag_38 (by repeat' constructor) (by simp [enC, ptC]) rfl) rfl (.oq (.buildSlice (vs := [_]) el_22 ze_38 rfl rfl rfl rfl (by first | (simp [Value.cells]; done) | (intro v hv; simp only [List.mem_cons, List.not_mem_nil, or_false] at hv; (repeat (first | (subst hv; rfl) | (rcases hv with hv | hv; (subst hv; rfl)))))) (by decide)) ?_))))))
   rintro v L' ⟨b22, rfl, rfl⟩
   refine .oq (.append1 rfl rfl rfl el_22 ze_38 rfl rfl ?c136 ?c137 (Nat.le_refl _) ?c138 (by decide)) ?_
   case c136 => simp only [List.map_cons, List.map_nil, List.flatten_cons, List.flatten_nil, List.append_nil]; simp only [Value.cells]; intro q hq; exact (own_X (ho.x _ (List.getElem_mem hi2)) hca hcs).l.cells q (by simpa using hq)
   case c137 => rfl
   case c138 => omega
   rintro v L' ⟨⟨a22, c22, rfl⟩, rfl⟩
   refine .a rfl (.nil (.blk_n (.then_n (.region (.m rfl (.q (.add rfl rfl (by omega)) rfl (.an rfl (.bigAdd (f := len9) (l := os) (p := len9 (own9 o.l[i] av sv)) (own9 o.l[i] av sv) rfl (by repeat' constructor) (.slCast (T := 38) (sz := 11) (m' := (os ++ [(own9 o.l[i] av sv)]).length) (xs' := (os ++ [(own9 o.l[i] av sv)]).flatMap enC) (by repeat' constructor) (by simp) (by rw [List.flatMap_append]; simp [Value.cells]) ?_)))))))))
   exact .rk ((i + 1, .slice a22 (os.length + 1) c22, os ++ [(own9 o.l[i] av sv)])) (⟨by dsimp only; omega, by dsimp only; rw [List.take_succ_eq_append_getElem hi2]; exact hown.snoc hca hcs, a22, c22, by simp⟩) (by dsimp only; omega) ⟨rfl, rfl, rfl, rfl, rfl, rfl, trivial⟩
  have hie : i = o.l.length := by omega
  rw [hie, List.take_length] at hown
  refine .exit (.then_e (.then_e (.blk_e (.then_n (.seq (.fold (p := sep [slR 38 11 (.slice au os.length cu) os.length (os.flatMap enC), bigR len9 os, p]) (q := [slR 38 11 (.slice au os.length cu) os.length (os.flatMap enC), bigR len9 os, p]) (by repeat' constructor) (fun _ hp => hp) (.draw [8] [[0, 1, 2, 3, 4, 5, 6, 7, 8], [9]] mixed (by kernel_rfl) (.g0 (.mv rfl rfl (.nf rfl rfl rfl fo_62_1 (.kv rfl (.ld rfl ag_28) (.kv rfl (.fieldAddr rfl fo_73_1) (.kv rfl (.ld rfl ag_3) (.mv rfl rfl (.mv rfl rfl (.hh rfl (.c Tryz.func78 [_, _, _, _] (linstall_spec g xg d δ ω Λ o.n (textZ o) (.slice au os.length cu) os (sep [slR 38 11 (.slice au os.length cu) os.length (os.flatMap enC), bigR len9 os, p]) hI ho.n ?hc151 ?hll152 (hown.X ho.x))) ?_))))))))))))))))
  case hc151 => exact fun h hp => by obtain ⟨g1, g2, -, le1, le2, q1, q2⟩ := hp; exact rdS_mono (slR_rd q1) le1
  case hll152 => omega
  rintro v L' ⟨rfl, rfl⟩; rw [install_own hown]
  refine D.ph (.g0 (.kv rfl (.assign rfl) (.pf (.seq (.focus (p := sep [slR 38 11 (.slice au os.length cu) os.length (os.flatMap enC), bigR len9 os, p]) (by repeat' constructor) (.unfold (q := [slR 38 11 (.slice au os.length cu) os.length (os.flatMap enC), bigR len9 os, p]) (fun _ hp => hp) ?_))))))
  simp only [List.cons_append, List.nil_append]
  refine .region (.an rfl (.seq (.sr (.an rfl (.block ?_)))))
  have hsl : (os.flatMap enC).length = os.length * 11 := flatMap_len (sz := 11) (fun _ _ => rfl)
  rw [show bigR len9 os = bigR len9 (os.drop 0) from rfl]
  refine .loopK (ι := Nat × (List Value)) (fun q E => (13, .bool true) :: (14, vint q.1) :: E) (fun q => [slR 38 11 (.slice au os.length cu) os.length q.2, bigR len9 (os.drop q.1)]) (fun q => q.1 ≤ o.l.length ∧ q.2.length = os.length * 11 ∧ ∀ k (hk : k < os.length), q.1 ≤ k → ((q.2.drop (k * 11)).take 11) = enC os[k]) (fun q => o.l.length - q.1) (0, os.flatMap enC) (ts := [0, 3, 4, 8, 9, 12]) (.cons rfl (.cons rfl (.cons rfl (.cons rfl (.cons rfl (.cons rfl (.nil))))))) (⟨Nat.zero_le _, hsl, fun k hk _ => flatMap_at (f := enC) (sz := 11) (fun _ _ => rfl) hk⟩) ⟨rfl, rfl, rfl, rfl, rfl, rfl, rfl, rfl, trivial⟩ (by repeat' constructor) ?_
  rintro ⟨j, zs⟩ ⟨hj, hzl, hzk⟩
  dsimp only
  dsimp only at hj hzl hzk
  refine .seq (.sm rfl (.u (.fieldAddr rfl fo_73_4) (.q (.to (v' := (.slice al o.l.length cl)) (.load rfl ag_22 (by repeat' constructor) rfl) hlv) rfl (.q (.slen rfl Tryz.underlying22 rfl) rfl (.ui rfl rfl rfl (.nt (.condD rfl (fun h144 => ?_) (fun h144 => ?_))))))))
  ·have hj2 : j < o.l.length := by omega
   have hj3 : j < os.length := by omega
   refine .rdShape (p := p) hrl (by repeat' constructor) (by omega) fun ba oa e1 => ?_
   subst e1
   refine .slShape (T := 38) (sz := 11) (v := .slice au os.length cu) (xs := zs) (by repeat' constructor) (by omega) fun bo bo' e0 mbo _ => ?_
   simp only [Value.slice.injEq, true_and] at e0
   obtain ⟨rfl, rfl⟩ := e0
   obtain ⟨av, sv, ⟨hca, hcs⟩, hoj⟩ := hown.at hj3 hj2
   refine .bigHead (f := len9) (x := os[j]) (l := os.drop (j + 1)) (List.drop_eq_getElem_cons hj3) (by repeat' constructor) ?_
   rw [hoj]
   refine .sk (.seq (.block (.seq (.draw [9] [[0, 1, 2, 3, 4, 5, 6, 7, 8, 9], [10]] mixed (by kernel_rfl) (.g0 (.mv rfl rfl (.mv rfl rfl (.kv rfl (.indexAddr rfl rfl el_22 (by omega)) (.kv rfl (.loadRdA (sz := 11) (j := j * 11) (k := 11) (p := slR 38 11 (.slice (some ⟨bo, 0, none⟩) os.length cu) os.length zs) (vs := enC (own9 o.l[j] av sv)) rfl ag_38 (by repeat' constructor) (fun h hp => slR_rd hp) (by simp) (by omega) (by omega) (by rw [← hoj]; exact hzk j hj3 (Nat.le_refl _))) (.kv rfl (.fieldAddr rfl fo_73_4) (.kv rfl (.to (v' := (.slice (some ⟨ba, oa, none⟩) o.l.length cl)) (.load rfl ag_22 (by repeat' constructor) rfl) hlv) (.mv rfl rfl (.kv rfl (.indexAddr rfl rfl el_22 (by omega)) (.kv rfl (.loadRdA (sz := 11) (j := j * 11) (k := 11) (p := p) (vs := enC o.l[j]) rfl ag_38 (by repeat' constructor) hrl (by simp) (by omega) (by omega) (flatMap_at (f := enC) (sz := 11) (fun _ _ => rfl) (by omega))) ?_))))))))))))))
   refine D.hh rfl (.c Tryz.func142 [_, _] (kept9_spec o.l[j] p (ho.x _ (List.getElem_mem hj2)) av sv)) ?_
   rintro v L' ⟨rfl, rfl⟩
   refine D.ph (.g0 (.kv rfl (.assign rfl) (.pf (.sm rfl (.m rfl (.grun (t := 158) rfl rfl rfl (.m rfl (.u (.pickT rfl rfl) (.an rfl (.region (.m rfl (.m rfl (.q (.to (v' := .agg (enC (⟨-1, 0, 0, pt0, []⟩ : En)).toArray) (.buildN (pl := [(0, 1), (1, 1), (2, 1), (3, 8)]) (us := [(0, _)]) (cells := enC (⟨-1, 0, 0, pt0, []⟩ : En)) Tryz.underlying38 (by kernel_rfl) ze_38 rfl rfl) rfl) rfl (.q (.indexAddr rfl rfl el_22 (by omega)) rfl (.oq (.storeRdA (sz := 11) (j := j * 11) (k := 11) (vs := enC (⟨-1, 0, 0, pt0, []⟩ : En)) rfl rfl (by decide) sz_38 rfl ?ho178 ?hi179) ?_)))))))))))))))
   case ho178 => omega
   case hi179 => omega
   rintro v L' rfl
   refine .nil (.blk_n (.then_n (.region (.m rfl (.q (.add rfl rfl (by omega)) rfl (.an rfl ?_))))))
   exact .rk ((j + 1, spl zs (j * 11) (enC (⟨-1, 0, 0, pt0, []⟩ : En)))) (⟨by dsimp only; omega, by dsimp only; rw [spl_length (by show j * 11 + 11 ≤ _; omega)]; exact hzl, fun k hk hik => by dsimp only; rw [spl_drop' (by show j * 11 + 11 ≤ _; omega) (by show j * 11 + 11 ≤ k * 11; dsimp only at hik; omega)]; exact hzk k hk (by dsimp only at hik; omega)⟩) (by dsimp only; omega) ⟨rfl, rfl, rfl, rfl, rfl, rfl, rfl, rfl, trivial⟩
  refine .exit (.then_e (.then_e (.blk_e (.then_n (.seq (.draw [12] [[0, 1, 2, 3, 4, 5, 6, 7, 8, 9, 10, 11, 12], [13, 14, 15]] mixed (by kernel_rfl) (.go [ptc s _ _, ptc b3 _ _] (by repeat' constructor) (.mv rfl rfl (.mv rfl rfl (.gq (t := 166) rfl rfl rfl (by kernel_rfl) (.move rfl) (.gv rfl (.move rfl) (.gv rfl (.nilp rfl) (.gv rfl (.fieldAddr rfl fo_62_3) (.gv rfl (.ld rfl ag_60) (.gv rfl (.fieldAddr rfl fo_73_1) (.gv rfl (.ld rfl ag_3) (.gv rfl (.move rfl) (.gv rfl (.fieldAddr rfl fo_73_4) (.gv rfl (.ld rfl ag_22) (.gh (t := 166) rfl rfl rfl (by kernel_rfl) (.c Tryz.func148 [_, _, _, _] (r9install_spec y w x δ ω Λ o.n (textZ o) o.lv o.l p hI hab h.w hha hhb ho.n ho.l (by omega) ho.x)) (by repeat' constructor) ?_))))))))))))))))))))
  rintro v L' ⟨rfl, rfl⟩
  refine D.ph (.g0 (.gv rfl (.as (v' := .bool true) (by simp) (.int rfl rfl rfl)) (.kv rfl (.pickT rfl rfl) (.kv rfl (.assign rfl) (.pf (.ret (.blk_r (.then_r ?_))))))))
  have hr : lgCh ⟨δ, ω, Λ⟩ o = (lgInstall ⟨δ, ω, Λ⟩ o.n (textZ o) o.l).1 := by unfold lgCh lgDoes; rw [if_pos (by omega), if_neg h19, if_neg h46, if_neg h59, if_neg h76, if_neg h93, if_pos h110]
  rw [hr]
  exact .vv
 refine .sr (.ui rfl rfl rfl (.an rfl (.condD rfl (fun h180 => ?_) (fun h180 => ?_))))
 ·refine .sr (.q (.loadAs (vs := op9K o o.k) rfl ag_73 (by repeat' constructor) (by simp [op9K, op9C, enC, ptC]) rfl) rfl (.cv Tryz.func79 [_] (text9_spec o o.k ho.text) ?_))
  refine .an rfl (.seq (.draw [7, 15] [[0, 1, 2, 3, 4, 5, 6, 8, 9, 10, 11, 12, 13, 14, 7], [15], [16, 17]] mixed (by kernel_rfl) (.go [ptc s _ _, ptc b3 _ _] (by repeat' constructor) (.mv rfl rfl (.nf rfl rfl rfl fo_62_1 (.kv rfl (.ld rfl ag_28) (.kv rfl (.fieldAddr rfl fo_73_1) (.kv rfl (.ld rfl ag_3) (.mv rfl rfl (.k rfl (.move rfl) (.k rfl (.nilp rfl) (.k rfl (.fieldAddr rfl fo_62_3) (.k rfl (.ld rfl ag_60) (.k rfl (.fieldAddr rfl fo_73_1) (.k rfl (.ld rfl ag_3) (.k rfl (.move rfl) (.hh rfl (.c Tryz.func80 [_, _, _] (lcompact_spec g xg d δ ω Λ o.n (textZ o) hI hLI hup ho.n)) ?_)))))))))))))))))
  rintro v L' ⟨rfl, rfl⟩
  refine D.ph (.g0 (.hh rfl (.c Tryz.func149 [_, _, _] (r9compact_spec y w x δ ω Λ o.n (textZ o) hI hab h.w hha hhb)) ?_))
  rintro v L' ⟨rfl, rfl⟩
  refine D.ph (.g0 (.kv rfl (.as (v' := .bool true) (by simp) (.int rfl rfl rfl)) (.kv rfl (.assign rfl) (.pf (.ret (.blk_r (.then_r ?_)))))))
  have hr : lgCh ⟨δ, ω, Λ⟩ o = (lgCompact ⟨δ, ω, Λ⟩ o.n (textZ o)).1 := by unfold lgCh lgDoes; rw [if_pos (by omega), if_neg h19, if_neg h46, if_neg h59, if_neg h76, if_neg h93, if_neg h110]
  rw [hr]
  exact .vv
 refine .skip (.blk_n (.then_n (.sr (.an rfl (.ret ?_)))))
 have hr : lgCh ⟨δ, ω, Λ⟩ o = ⟨δ, ω, Λ⟩ := by unfold lgCh; rw [if_neg (by omega)]
 rw [hr]
 exact .vv
theorem textF_len : ∀ (f : Nat) (s : Bs) (n : Int), s.length ≤ 1048576 → n ≤ 66000 → (textF f s n).length ≤ 1048576
 | 0, s, n, h, _ => h
 | f + 1, s, n, h, hn => by
  unfold textF
  split
  ·exact textF_len f (s ++ s) n (by rw [List.length_append]; omega) hn
  ·exact h
theorem textZ_len {o : Op9} (h : o.text.length ≤ 1048576) : (textZ o).length ≤ 1048576 := by
 have h1 := textF_len 66001 o.text (min o.size 66000) h (by omega)
 unfold textZ cutT
 split
 ·rw [List.length_take]; omega
 ·exact h1
theorem arm_k (δ : Dk) (n : Int) : (δ.arm n).1.now.length = δ.now.length ∧ (δ.arm n).1.acts = δ.acts := by
 unfold Dk.arm
 repeat' split
 all_goals exact ⟨rfl, rfl⟩
theorem crash_k (δ : Dk) (how : List Int) : (δ.crash how).now.length = δ.now.length ∧ (δ.crash how).acts = δ.acts := by
 have h := δ.crashTo_same how δ.pend.length
 exact ⟨h.2.2.2.2, h.2.1⟩
theorem raw_k (δ : Dk) (n : Int) (t : Bs) : (δ.write n t).1.sync.1.now.length = δ.now.length ∧ (δ.write n t).1.acts ≤ δ.acts + 1 ∧ (δ.write n t).1.sync.1.acts ≤ δ.acts + 2 := by
 have h1 := write_keeps δ n t
 have h2 := sync_keeps (δ.write n t).1
 exact ⟨by rw [h2.1, h1.1], h1.2, by omega⟩
theorem LPs.mv {δ δ' : Dk} {ω : Wl} {Λ : Lg} {N M : Int} (h : LPs ⟨δ, ω, Λ⟩ N) (hl : δ'.now.length = δ.now.length) (ha : δ'.acts ≤ M) : LPs ⟨δ', ω, Λ⟩ M := ⟨h.wk.mv hl ha, h.w, h.a, h.b⟩
abbrev scR (s d : Nat) (l : Value) (x : Nat) (y : Value) : HP := ptc s [vptr d, l, vptr x, y] 62
def sdN (s d x : Nat) (N : Int) : HP := fun h => ∃ δ : Dk, ((2 ≤ δ.now.length ∧ δ.now.length ≤ 32768) ∧ δ.acts ≤ N) ∧ sep [scR s d (.pointer none) x (.pointer none), dkR d δ, dsR x δ] h
def sdS (s d x : Nat) (N : Int) : HP := fun h => ∃ q : (Dk × Wl × Lg) × (Nat × Nat × Nat × Nat), LPs ⟨q.1.1, q.1.2.1, q.1.2.2⟩ N ∧ sep [scR s d (vptr q.2.1) x (vptr q.2.2.2.1), lgR q.2.1 q.2.2.1 q.1.2.2, wlR q.2.2.1 d q.1.2.1, dkR d q.1.1, rgR q.2.2.2.1 q.2.2.2.2 q.1.2.2, rlR q.2.2.2.2 x q.1.2.1, dsR x q.1.1] h
def sdR (s d x : Nat) (N : Int) : HP := fun h => sdN s d x N h ∨ sdS s d x N h
section
variable {W : World} {n : Nat} {ds : List Deferred} {E : Env} {L R : List HP} {X : Act → World → Prop}
theorem G.or {p q : HP} (hN : G W n ds E (p :: R) X) (hS : G W n ds E (q :: R) X) : G W n ds E ((fun h => p h ∨ q h) :: R) X := by
 intro a w he hk hs
 obtain ⟨h1, h2, hd, a1, a2, hp, hR⟩ := hs
 rcases hp with hp | hp
 ·exact hN a w he hk ⟨h1, h2, hd, a1, a2, hp, hR⟩
 ·exact hS a w he hk ⟨h1, h2, hd, a1, a2, hp, hR⟩
theorem G.sdOpen {s d x : Nat} {N : Int} (hL : Pick (sdR s d x N) L R)
  (hN : ∀ δ : Dk, (2 ≤ δ.now.length ∧ δ.now.length ≤ 32768) → δ.acts ≤ N → G W n ds E (scR s d (.pointer none) x (.pointer none) :: dkR d δ :: dsR x δ :: R) X)
  (hS : ∀ δ ω Λ (g xg y w : Nat), LPs ⟨δ, ω, Λ⟩ N → G W n ds E (scR s d (vptr g) x (vptr y) :: lgR g xg Λ :: wlR xg d ω :: dkR d δ :: rgR y w Λ :: rlR w x ω :: dsR x δ :: R) X) : G W n ds E L X := by
 refine G.focus hL (G.or (p := sdN s d x N) (q := sdS s d x N) ?_ ?_)
 ·exact G.open (q := fun δ : Dk => [scR s d (.pointer none) x (.pointer none), dkR d δ, dsR x δ]) (φ := fun δ : Dk => (2 ≤ δ.now.length ∧ δ.now.length ≤ 32768) ∧ δ.acts ≤ N) (fun _ hp => hp) fun δ h => hN δ h.1 h.2
 ·exact G.open (q := fun q : (Dk × Wl × Lg) × (Nat × Nat × Nat × Nat) => [scR s d (vptr q.2.1) x (vptr q.2.2.2.1), lgR q.2.1 q.2.2.1 q.1.2.2, wlR q.2.2.1 d q.1.2.1, dkR d q.1.1, rgR q.2.2.2.1 q.2.2.2.2 q.1.2.2, rlR q.2.2.2.2 x q.1.2.1, dsR x q.1.1]) (φ := fun q : (Dk × Wl × Lg) × (Nat × Nat × Nat × Nat) => LPs ⟨q.1.1, q.1.2.1, q.1.2.2⟩ N) (fun _ hp => hp) fun q h => hS q.1.1 q.1.2.1 q.1.2.2 q.2.1 q.2.2.1 q.2.2.2.1 q.2.2.2.2 h
theorem G.sdFoldN {s d x : Nat} {N : Int} {δ : Dk} (hL : Picks [scR s d (.pointer none) x (.pointer none), dkR d δ, dsR x δ] L R) (hs : 2 ≤ δ.now.length ∧ δ.now.length ≤ 32768) (ha : δ.acts ≤ N) (h : G W n ds E (sdR s d x N :: R) X) : G W n ds E L X :=
 G.fold hL (fun _ hp => .inl ⟨δ, ⟨hs, ha⟩, hp⟩) h
theorem G.sdFoldS {s d x : Nat} {N : Int} {δ : Dk} {ω : Wl} {Λ : Lg} {g xg y w : Nat} (hL : Picks [scR s d (vptr g) x (vptr y), lgR g xg Λ, wlR xg d ω, dkR d δ, rgR y w Λ, rlR w x ω, dsR x δ] L R) (hp : LPs ⟨δ, ω, Λ⟩ N) (h : G W n ds E (sdR s d x N :: R) X) : G W n ds E L X :=
 G.fold hL (fun _ hq => .inr ⟨((δ, ω, Λ), (g, xg, y, w)), hp, hq⟩) h
end
set_option maxHeartbeats 2000000 in
theorem step9_spec (s d x : Nat) (N : Int) (h0 : 0 ≤ N) (hN : N + 50000000 < 4611686018427387904) (o : Op9) (p : HP) (ho : Op9A p o) : Fn Tryz.prog 41 #[vptr s, .agg (op9K o o.k).toArray] [sdR s d x N, p] fun v L => v = .bool true ∧ L = [sdR s d x (N + 10000000), p] := by
 refine Fn.intro Tryz.func41 rfl rfl fun F W => ?_
 have htl := textZ_len ho.text
 have hzl : zs.length = 64 := rfl
 refine .sr (.oq (.box rfl) ?_)
 rintro v L' ⟨b3, rfl, rfl⟩
 refine .a rfl (.nil (.ptCast (b := b3) (l' := op9K o o.k) (by repeat' constructor) (by exact rfl) (.then_n (.sr (.an rfl (.seq (.joinK (ι := Unit) (fun q E => (5, .bool true) :: E) (fun q => [sdR s d x (N + 5000000)]) (fun q => True) (pre := [sdR s d x N]) (ts := [0, 3, 4]) (.cons rfl (.cons rfl (.cons rfl (.nil)))) (by repeat' constructor) ?_ ?_)))))))
 ·refine .sr (.u (.fieldAddr rfl fo_73_0) (.u (.ld rfl ag_3) (.nt (.block (.sr (.sdOpen (by repeat' constructor) (fun δ hs ha => ?_) (fun δ ω Λ g xg y w h => ?_)))))))
  ·refine .ui rfl rfl rfl (.an rfl (.condD rfl (fun h14 => ?_) (fun h14 => ?_)))
   ·refine .draw [6, 13] [[0, 1, 2, 3, 4, 5, 7, 8, 9, 10, 11, 12, 6], [13], [14, 15]] mixed (by kernel_rfl) (.go [ptc s _ _, ptc b3 _ _] (by repeat' constructor) (.mv rfl rfl (.nf rfl rfl rfl fo_62_0 (.kv rfl (.ld rfl ag_24) (.kv rfl (.fieldAddr rfl fo_73_1) (.kv rfl (.ld rfl ag_3) (.k rfl (.move rfl) (.k rfl (.nilp rfl) (.k rfl (.fieldAddr rfl fo_62_2) (.k rfl (.ld rfl ag_47) (.k rfl (.fieldAddr rfl fo_73_1) (.k rfl (.ld rfl ag_3) (.hh rfl (.c Tryz.func31 [_, _] (arm_spec d δ o.n ho.n.2)) ?_)))))))))))))
    rintro v L' ⟨rfl, rfl⟩
    refine D.ph (.g0 (.hh rfl (.c Tryz.func84 [_, _] (dsarm_spec x δ o.n (by omega) ho.n.2)) ?_))
    rintro v L' ⟨rfl, rfl⟩
    refine D.ph (.g0 (.kv rfl (.as (v' := .bool true) (by simp) (.int rfl rfl rfl)) (.kv rfl (.assign rfl) (.ph (.fin (.blk_n (.then_n ?_)))))))
    have hk9 := arm_k δ o.n
    have hs9 : 2 ≤ (δ.arm o.n).1.now.length ∧ (δ.arm o.n).1.now.length ≤ 32768 := by rw [hk9.1]; exact hs
    have ha9 : (δ.arm o.n).1.acts ≤ (N + 5000000) := by rw [hk9.2]; omega
    refine .sdFoldN (s := s) (d := d) (x := x) (N := (N + 5000000)) (by repeat' constructor) hs9 ha9 ?_
    exact .mk (()) (trivial) ⟨rfl, rfl, rfl, rfl, trivial⟩
   refine .sr (.ui rfl rfl rfl (.an rfl (.condD rfl (fun h31 => ?_) (fun h31 => ?_))))
   ·refine .seq (.draw [6] [[0, 1, 2, 3, 4, 5, 6]] mixed (by kernel_rfl) (.g0 (.mv rfl rfl (.nf rfl rfl rfl fo_62_0 (.kv rfl (.ld rfl ag_24) (.kv rfl (.fieldAddr rfl fo_73_6) (.kv rfl (.ld rfl ag_31) (.hh rfl (.c Tryz.func29 [_, _] (crash_spec d δ o.hv o.how p ho.how ho.hows)) ?_))))))))
    rintro v L' ⟨rfl, rfl⟩
    refine D.pf (.seq (.draw [6] [[0, 1, 2, 3, 4, 5, 6]] mixed (by kernel_rfl) (.g0 (.mv rfl rfl (.nf rfl rfl rfl fo_62_2 (.kv rfl (.ld rfl ag_47) (.kv rfl (.fieldAddr rfl fo_73_6) (.kv rfl (.ld rfl ag_31) (.hh rfl (.c Tryz.func85 [_, _] (dscrash_spec x δ o.hv o.how p ho.how ho.hows)) ?_)))))))))
    rintro v L' ⟨rfl, rfl⟩
    refine D.pf ?_
    have hcr := crash_k δ o.how
    refine .dkOk (d := d) (by repeat' constructor) fun hok9 => ?_
    have hsC : 2 ≤ (δ.crash o.how).now.length ∧ (δ.crash o.how).now.length ≤ 32768 := by rw [hcr.1]; exact hs
    refine .region (.m rfl (.oq (.c Tryz.func24 [_, _] (sopensD_spec s d x (.pointer none) (.pointer none) (δ.crash o.how) hsC hok9 (by omega))) ?_))
    rintro v L' (⟨-, rfl, rfl⟩ | ⟨-, ω1, Λ1, g1, xg1, y1, w1, hop1, hol1, rfl, rfl⟩)
    ·refine .a rfl (.nil (.blk_n (.then_n ?_)))
     have hs9 := hsC
     have ha9 : (δ.crash o.how).acts ≤ (N + 5000000) := by omega
     refine .sdFoldN (s := s) (d := d) (x := x) (N := (N + 5000000)) (by repeat' constructor) hs9 ha9 ?_
     exact .mk (()) (trivial) ⟨rfl, rfl, rfl, rfl, trivial⟩
    refine .a rfl (.nil (.blk_n (.then_n ?_)))
    have hs9 := hsC
    have ha9 : (δ.crash o.how).acts ≤ (N + 5000000) := by omega
    have hL : LPs ⟨(δ.crash o.how), ω1, Λ1⟩ (N + 5000000) := (lps_open hok9 hs9 ha9 (by omega) hop1 hol1).1
    refine .sdFoldS (s := s) (d := d) (x := x) (N := (N + 5000000)) (by repeat' constructor) hL ?_
    exact .mk (()) (trivial) ⟨rfl, rfl, rfl, rfl, trivial⟩
   refine .sr (.ui rfl rfl rfl (.an rfl (.condD rfl (fun h49 => ?_) (fun h49 => ?_))))
   ·refine .seq (.draw [2] [[0, 1, 2, 3], [4, 5, 6]] mixed (by kernel_rfl) (.go [ptc b3 _ _] (by repeat' constructor) (.k rfl (.loadAs (vs := op9K o o.k) rfl ag_73 (by repeat' constructor) (by simp [op9K, op9C, enC, ptC]) rfl) (.m rfl (by kernel_rfl) (.c Tryz.func79 [_] (text9_spec o o.k ho.text)) (by repeat' constructor) ?_))))
    refine D.hh rfl (.make rfl rfl el_125 ze_5 rfl ⟨by simp, by simp; rfl⟩ ?c50) ?_
    case c50 => omega
    rintro v L' ⟨b10, rfl, rfl⟩
    refine D.kv rfl (.bytesPt (cs := zs) rfl Tryz.underlying125 Tryz.underlying5 Tryz.underlying9 (by repeat' constructor) (by show (List.drop 0 (List.replicate (64 * 1) _)).take 64 = _; rw [List.drop_zero]; rfl) (by simp) (by decide)) (.ph (.g0 (.kv rfl (.concat rfl rfl (by omega)) (.kv rfl (.to (v' := vstr ((textZ o ++ zs).take 64)) (.strTo (j := (64 : Int)) rfl rfl Tryz.underlying9 (by rw [List.length_append, show zs.length = 64 from rfl]; omega)) rfl) (.kv rfl (.assign rfl) (.pf (.seq (.draw [7, 15] [[0, 1, 2, 3, 4, 5, 6, 8, 9, 10, 11, 12, 13, 14, 7], [15], [16, 17]] mixed (by kernel_rfl) (.go [ptc s _ _, ptc b3 _ _] (by repeat' constructor) (.mv rfl rfl (.nf rfl rfl rfl fo_62_0 (.kv rfl (.ld rfl ag_24) (.kv rfl (.fieldAddr rfl fo_73_1) (.kv rfl (.ld rfl ag_3) (.mv rfl rfl (.k rfl (.move rfl) (.k rfl (.nilp rfl) (.k rfl (.fieldAddr rfl fo_62_2) (.k rfl (.ld rfl ag_47) (.k rfl (.fieldAddr rfl fo_73_1) (.k rfl (.ld rfl ag_3) ?_)))))))))))))))))))))
    refine D.k rfl (.move rfl) (.hh rfl (.c Tryz.func23 [_, _, _] (write_spec d δ o.n ((textZ o ++ zs).take 64) (by omega))) ?_)
    rintro v L' ⟨rfl, rfl⟩
    refine D.ph (.g0 (.hh rfl (.c Tryz.func59 [_, _, _] (dswrite_spec x δ o.n ((textZ o ++ zs).take 64) (by omega))) ?_))
    rintro v L' ⟨rfl, rfl⟩
    refine D.ph (.g0 (.kv rfl (.as (v' := .bool true) (by simp) (.int rfl rfl rfl)) (.kv rfl (.assign rfl) (.pf (.seq ?_)))))
    have hrw := raw_k δ o.n ((textZ o ++ zs).take 64)
    refine .draw [4, 9] [[0, 1, 2, 3, 5, 6, 7, 8, 4], [9], [10, 11]] mixed (by kernel_rfl) (.go [ptc s _ _] (by repeat' constructor) (.mv rfl rfl (.nf rfl rfl rfl fo_62_0 (.kv rfl (.ld rfl ag_24) (.k rfl (.move rfl) (.k rfl (.nilp rfl) (.k rfl (.fieldAddr rfl fo_62_2) (.k rfl (.ld rfl ag_47) (.hh rfl (.c Tryz.func86 [_] (sync_spec d (δ.write o.n ((textZ o ++ zs).take 64)).1 (by omega))) ?_)))))))))
    rintro v L' ⟨rfl, rfl⟩
    refine D.ph (.g0 (.hh rfl (.c Tryz.func61 [_] (dssync_spec x (δ.write o.n ((textZ o ++ zs).take 64)).1 (by omega))) ?_))
    rintro v L' ⟨rfl, rfl⟩
    refine D.ph (.g0 (.kv rfl (.as (v' := .bool true) (by simp) (.int rfl rfl rfl)) (.kv rfl (.assign rfl) (.pf (.seq (.dkOk (d := d) (by repeat' constructor) fun hok9 => ?_))))))
    have hsC : 2 ≤ (δ.write o.n ((textZ o ++ zs).take 64)).1.sync.1.now.length ∧ (δ.write o.n ((textZ o ++ zs).take 64)).1.sync.1.now.length ≤ 32768 := by rw [hrw.1]; exact hs
    refine .region (.m rfl (.oq (.c Tryz.func24 [_, _] (sopensD_spec s d x (.pointer none) (.pointer none) (δ.write o.n ((textZ o ++ zs).take 64)).1.sync.1 hsC hok9 (by omega))) ?_))
    rintro v L' (⟨-, rfl, rfl⟩ | ⟨-, ω1, Λ1, g1, xg1, y1, w1, hop1, hol1, rfl, rfl⟩)
    ·refine .an rfl (.region (.m rfl (.m rfl (.grun (t := 88) rfl rfl rfl (.m rfl (.u (.pickT rfl rfl) (.m rfl (.grun (t := 91) rfl rfl rfl (.m rfl (.u (.pickT rfl rfl) (.a rfl (.nil (.blk_n (.then_n ?_))))))))))))))
     have hs9 := hsC
     have ha9 : (δ.write o.n ((textZ o ++ zs).take 64)).1.sync.1.acts ≤ (N + 5000000) := by omega
     refine .sdFoldN (s := s) (d := d) (x := x) (N := (N + 5000000)) (by repeat' constructor) hs9 ha9 ?_
     exact .mk (()) (trivial) ⟨rfl, rfl, rfl, rfl, trivial⟩
    refine .an rfl (.region (.m rfl (.m rfl (.grun (t := 88) rfl rfl rfl (.m rfl (.u (.pickT rfl rfl) (.m rfl (.grun (t := 91) rfl rfl rfl (.m rfl (.u (.pickT rfl rfl) (.a rfl (.nil (.blk_n (.then_n ?_))))))))))))))
    have hs9 := hsC
    have ha9 : (δ.write o.n ((textZ o ++ zs).take 64)).1.sync.1.acts ≤ (N + 5000000) := by omega
    have hL : LPs ⟨(δ.write o.n ((textZ o ++ zs).take 64)).1.sync.1, ω1, Λ1⟩ (N + 5000000) := (lps_open hok9 hs9 ha9 (by omega) hop1 hol1).1
    refine .sdFoldS (s := s) (d := d) (x := x) (N := (N + 5000000)) (by repeat' constructor) hL ?_
    exact .mk (()) (trivial) ⟨rfl, rfl, rfl, rfl, trivial⟩
   refine .sr (.ui rfl rfl rfl (.an rfl (.condD rfl (fun h94 => ?_) (fun h94 => ?_))))
   ·obtain ⟨hf1, ⟨hf2a, hf2b⟩, hf3, hf4, hf5⟩ := format_k hs ha
    have hf0 := newW_k hs ha
    refine .region (.m rfl (.oq (.c Tryz.func24 [_, _] (sformat_spec s d x (.pointer none) (.pointer none) δ (by omega) (hf0.i (by omega)) (hf1.i (by omega)) (by rw [hf2a, hf2b]; omega))) ?_))
    rintro v L' (⟨hfo, rfl, rfl⟩ | ⟨ω1, g1, xg1, y1, w1, hfo, rfl, rfl⟩)
    ·refine .a rfl (.nil (.blk_n (.then_n ?_)))
     have hs9 := hf4
     have ha9 : (lgFormat δ).1.acts ≤ (N + 5000000) := hf5
     refine .sdFoldN (s := s) (d := d) (x := x) (N := (N + 5000000)) (by repeat' constructor) hs9 ha9 ?_
     exact .mk (()) (trivial) ⟨rfl, rfl, rfl, rfl, trivial⟩
    refine .a rfl (.nil (.blk_n (.then_n ?_)))
    have hs9 := hf4
    have ha9 : (lgFormat δ).1.acts ≤ (N + 5000000) := hf5
    have hL : LPs ⟨(lgFormat δ).1, ω1, lg0⟩ (N + 5000000) := hf3 ω1 hfo
    refine .sdFoldS (s := s) (d := d) (x := x) (N := (N + 5000000)) (by repeat' constructor) hL ?_
    exact .mk (()) (trivial) ⟨rfl, rfl, rfl, rfl, trivial⟩
   refine .skip (.blk_n (.then_n ?_))
   have hs9 := hs
   have ha9 : δ.acts ≤ (N + 5000000) := by omega
   refine .sdFoldN (s := s) (d := d) (x := x) (N := (N + 5000000)) (by repeat' constructor) hs9 ha9 ?_
   exact .mk (()) (trivial) ⟨rfl, rfl, rfl, rfl, trivial⟩
  have hs : 2 ≤ δ.now.length ∧ δ.now.length ≤ 32768 := h.wk.size
  have ha : δ.acts ≤ N := h.wk.acts
  refine .ui rfl rfl rfl (.an rfl (.condD rfl (fun h14 => ?_) (fun h14 => ?_)))
  ·refine .draw [6, 13] [[0, 1, 2, 3, 4, 5, 7, 8, 9, 10, 11, 12, 6], [13], [14, 15]] mixed (by kernel_rfl) (.go [ptc s _ _, ptc b3 _ _] (by repeat' constructor) (.mv rfl rfl (.nf rfl rfl rfl fo_62_0 (.kv rfl (.ld rfl ag_24) (.kv rfl (.fieldAddr rfl fo_73_1) (.kv rfl (.ld rfl ag_3) (.k rfl (.move rfl) (.k rfl (.nilp rfl) (.k rfl (.fieldAddr rfl fo_62_2) (.k rfl (.ld rfl ag_47) (.k rfl (.fieldAddr rfl fo_73_1) (.k rfl (.ld rfl ag_3) (.hh rfl (.c Tryz.func31 [_, _] (arm_spec d δ o.n ho.n.2)) ?_)))))))))))))
   rintro v L' ⟨rfl, rfl⟩
   refine D.ph (.g0 (.hh rfl (.c Tryz.func84 [_, _] (dsarm_spec x δ o.n (by omega) ho.n.2)) ?_))
   rintro v L' ⟨rfl, rfl⟩
   refine D.ph (.g0 (.kv rfl (.as (v' := .bool true) (by simp) (.int rfl rfl rfl)) (.kv rfl (.assign rfl) (.ph (.fin (.blk_n (.then_n ?_)))))))
   have hk9 := arm_k δ o.n
   have hs9 : 2 ≤ (δ.arm o.n).1.now.length ∧ (δ.arm o.n).1.now.length ≤ 32768 := by rw [hk9.1]; exact hs
   have ha9 : (δ.arm o.n).1.acts ≤ (N + 5000000) := by rw [hk9.2]; omega
   have hL : LPs ⟨(δ.arm o.n).1, ω, Λ⟩ (N + 5000000) := h.mv hk9.1 ha9
   refine .sdFoldS (s := s) (d := d) (x := x) (N := (N + 5000000)) (by repeat' constructor) hL ?_
   exact .mk (()) (trivial) ⟨rfl, rfl, rfl, rfl, trivial⟩
  refine .sr (.ui rfl rfl rfl (.an rfl (.condD rfl (fun h31 => ?_) (fun h31 => ?_))))
  ·refine .seq (.draw [6] [[0, 1, 2, 3, 4, 5, 6]] mixed (by kernel_rfl) (.g0 (.mv rfl rfl (.nf rfl rfl rfl fo_62_0 (.kv rfl (.ld rfl ag_24) (.kv rfl (.fieldAddr rfl fo_73_6) (.kv rfl (.ld rfl ag_31) (.hh rfl (.c Tryz.func29 [_, _] (crash_spec d δ o.hv o.how p ho.how ho.hows)) ?_))))))))
   rintro v L' ⟨rfl, rfl⟩
   refine D.pf (.seq (.draw [6] [[0, 1, 2, 3, 4, 5, 6]] mixed (by kernel_rfl) (.g0 (.mv rfl rfl (.nf rfl rfl rfl fo_62_2 (.kv rfl (.ld rfl ag_47) (.kv rfl (.fieldAddr rfl fo_73_6) (.kv rfl (.ld rfl ag_31) (.hh rfl (.c Tryz.func85 [_, _] (dscrash_spec x δ o.hv o.how p ho.how ho.hows)) ?_)))))))))
   rintro v L' ⟨rfl, rfl⟩
   refine D.pf ?_
   have hcr := crash_k δ o.how
   refine .dkOk (d := d) (by repeat' constructor) fun hok9 => ?_
   have hsC : 2 ≤ (δ.crash o.how).now.length ∧ (δ.crash o.how).now.length ≤ 32768 := by rw [hcr.1]; exact hs
   refine .region (.m rfl (.oq (.c Tryz.func24 [_, _] (sopensD_spec s d x (vptr g) (vptr y) (δ.crash o.how) hsC hok9 (by omega))) ?_))
   rintro v L' (⟨-, rfl, rfl⟩ | ⟨-, ω1, Λ1, g1, xg1, y1, w1, hop1, hol1, rfl, rfl⟩)
   ·refine .a rfl (.nil (.blk_n (.then_n ?_)))
    have hs9 := hsC
    have ha9 : (δ.crash o.how).acts ≤ (N + 5000000) := by omega
    refine .sdFoldN (s := s) (d := d) (x := x) (N := (N + 5000000)) (by repeat' constructor) hs9 ha9 ?_
    exact .mk (()) (trivial) ⟨rfl, rfl, rfl, rfl, trivial⟩
   refine .a rfl (.nil (.blk_n (.then_n ?_)))
   have hs9 := hsC
   have ha9 : (δ.crash o.how).acts ≤ (N + 5000000) := by omega
   have hL : LPs ⟨(δ.crash o.how), ω1, Λ1⟩ (N + 5000000) := (lps_open hok9 hs9 ha9 (by omega) hop1 hol1).1
   refine .sdFoldS (s := s) (d := d) (x := x) (N := (N + 5000000)) (by repeat' constructor) hL ?_
   exact .mk (()) (trivial) ⟨rfl, rfl, rfl, rfl, trivial⟩
  refine .sr (.ui rfl rfl rfl (.an rfl (.condD rfl (fun h49 => ?_) (fun h49 => ?_))))
  ·refine .seq (.draw [2] [[0, 1, 2, 3], [4, 5, 6]] mixed (by kernel_rfl) (.go [ptc b3 _ _] (by repeat' constructor) (.k rfl (.loadAs (vs := op9K o o.k) rfl ag_73 (by repeat' constructor) (by simp [op9K, op9C, enC, ptC]) rfl) (.m rfl (by kernel_rfl) (.c Tryz.func79 [_] (text9_spec o o.k ho.text)) (by repeat' constructor) ?_))))
   refine D.hh rfl (.make rfl rfl el_125 ze_5 rfl ⟨by simp, by simp; rfl⟩ ?c138) ?_
   case c138 => omega
   rintro v L' ⟨b10, rfl, rfl⟩
   refine D.kv rfl (.bytesPt (cs := zs) rfl Tryz.underlying125 Tryz.underlying5 Tryz.underlying9 (by repeat' constructor) (by show (List.drop 0 (List.replicate (64 * 1) _)).take 64 = _; rw [List.drop_zero]; rfl) (by simp) (by decide)) (.ph (.g0 (.kv rfl (.concat rfl rfl (by omega)) (.kv rfl (.to (v' := vstr ((textZ o ++ zs).take 64)) (.strTo (j := (64 : Int)) rfl rfl Tryz.underlying9 (by rw [List.length_append, show zs.length = 64 from rfl]; omega)) rfl) (.kv rfl (.assign rfl) (.pf (.seq (.draw [7, 15] [[0, 1, 2, 3, 4, 5, 6, 8, 9, 10, 11, 12, 13, 14, 7], [15], [16, 17]] mixed (by kernel_rfl) (.go [ptc s _ _, ptc b3 _ _] (by repeat' constructor) (.mv rfl rfl (.nf rfl rfl rfl fo_62_0 (.kv rfl (.ld rfl ag_24) (.kv rfl (.fieldAddr rfl fo_73_1) (.kv rfl (.ld rfl ag_3) (.mv rfl rfl (.k rfl (.move rfl) (.k rfl (.nilp rfl) (.k rfl (.fieldAddr rfl fo_62_2) (.k rfl (.ld rfl ag_47) (.k rfl (.fieldAddr rfl fo_73_1) (.k rfl (.ld rfl ag_3) ?_)))))))))))))))))))))
   refine D.k rfl (.move rfl) (.hh rfl (.c Tryz.func23 [_, _, _] (write_spec d δ o.n ((textZ o ++ zs).take 64) (by omega))) ?_)
   rintro v L' ⟨rfl, rfl⟩
   refine D.ph (.g0 (.hh rfl (.c Tryz.func59 [_, _, _] (dswrite_spec x δ o.n ((textZ o ++ zs).take 64) (by omega))) ?_))
   rintro v L' ⟨rfl, rfl⟩
   refine D.ph (.g0 (.kv rfl (.as (v' := .bool true) (by simp) (.int rfl rfl rfl)) (.kv rfl (.assign rfl) (.pf (.seq ?_)))))
   have hrw := raw_k δ o.n ((textZ o ++ zs).take 64)
   refine .draw [4, 9] [[0, 1, 2, 3, 5, 6, 7, 8, 4], [9], [10, 11]] mixed (by kernel_rfl) (.go [ptc s _ _] (by repeat' constructor) (.mv rfl rfl (.nf rfl rfl rfl fo_62_0 (.kv rfl (.ld rfl ag_24) (.k rfl (.move rfl) (.k rfl (.nilp rfl) (.k rfl (.fieldAddr rfl fo_62_2) (.k rfl (.ld rfl ag_47) (.hh rfl (.c Tryz.func86 [_] (sync_spec d (δ.write o.n ((textZ o ++ zs).take 64)).1 (by omega))) ?_)))))))))
   rintro v L' ⟨rfl, rfl⟩
   refine D.ph (.g0 (.hh rfl (.c Tryz.func61 [_] (dssync_spec x (δ.write o.n ((textZ o ++ zs).take 64)).1 (by omega))) ?_))
   rintro v L' ⟨rfl, rfl⟩
   refine D.ph (.g0 (.kv rfl (.as (v' := .bool true) (by simp) (.int rfl rfl rfl)) (.kv rfl (.assign rfl) (.pf (.seq (.dkOk (d := d) (by repeat' constructor) fun hok9 => ?_))))))
   have hsC : 2 ≤ (δ.write o.n ((textZ o ++ zs).take 64)).1.sync.1.now.length ∧ (δ.write o.n ((textZ o ++ zs).take 64)).1.sync.1.now.length ≤ 32768 := by rw [hrw.1]; exact hs
   refine .region (.m rfl (.oq (.c Tryz.func24 [_, _] (sopensD_spec s d x (vptr g) (vptr y) (δ.write o.n ((textZ o ++ zs).take 64)).1.sync.1 hsC hok9 (by omega))) ?_))
   rintro v L' (⟨-, rfl, rfl⟩ | ⟨-, ω1, Λ1, g1, xg1, y1, w1, hop1, hol1, rfl, rfl⟩)
   ·refine .an rfl (.region (.m rfl (.m rfl (.grun (t := 88) rfl rfl rfl (.m rfl (.u (.pickT rfl rfl) (.m rfl (.grun (t := 91) rfl rfl rfl (.m rfl (.u (.pickT rfl rfl) (.a rfl (.nil (.blk_n (.then_n ?_))))))))))))))
    have hs9 := hsC
    have ha9 : (δ.write o.n ((textZ o ++ zs).take 64)).1.sync.1.acts ≤ (N + 5000000) := by omega
    refine .sdFoldN (s := s) (d := d) (x := x) (N := (N + 5000000)) (by repeat' constructor) hs9 ha9 ?_
    exact .mk (()) (trivial) ⟨rfl, rfl, rfl, rfl, trivial⟩
   refine .an rfl (.region (.m rfl (.m rfl (.grun (t := 88) rfl rfl rfl (.m rfl (.u (.pickT rfl rfl) (.m rfl (.grun (t := 91) rfl rfl rfl (.m rfl (.u (.pickT rfl rfl) (.a rfl (.nil (.blk_n (.then_n ?_))))))))))))))
   have hs9 := hsC
   have ha9 : (δ.write o.n ((textZ o ++ zs).take 64)).1.sync.1.acts ≤ (N + 5000000) := by omega
   have hL : LPs ⟨(δ.write o.n ((textZ o ++ zs).take 64)).1.sync.1, ω1, Λ1⟩ (N + 5000000) := (lps_open hok9 hs9 ha9 (by omega) hop1 hol1).1
   refine .sdFoldS (s := s) (d := d) (x := x) (N := (N + 5000000)) (by repeat' constructor) hL ?_
   exact .mk (()) (trivial) ⟨rfl, rfl, rfl, rfl, trivial⟩
  refine .sr (.ui rfl rfl rfl (.an rfl (.condD rfl (fun h94 => ?_) (fun h94 => ?_))))
  ·obtain ⟨hf1, ⟨hf2a, hf2b⟩, hf3, hf4, hf5⟩ := format_k hs ha
   have hf0 := newW_k hs ha
   refine .region (.m rfl (.oq (.c Tryz.func24 [_, _] (sformat_spec s d x (vptr g) (vptr y) δ (by omega) (hf0.i (by omega)) (hf1.i (by omega)) (by rw [hf2a, hf2b]; omega))) ?_))
   rintro v L' (⟨hfo, rfl, rfl⟩ | ⟨ω1, g1, xg1, y1, w1, hfo, rfl, rfl⟩)
   ·refine .a rfl (.nil (.blk_n (.then_n ?_)))
    have hs9 := hf4
    have ha9 : (lgFormat δ).1.acts ≤ (N + 5000000) := hf5
    refine .sdFoldN (s := s) (d := d) (x := x) (N := (N + 5000000)) (by repeat' constructor) hs9 ha9 ?_
    exact .mk (()) (trivial) ⟨rfl, rfl, rfl, rfl, trivial⟩
   refine .a rfl (.nil (.blk_n (.then_n ?_)))
   have hs9 := hf4
   have ha9 : (lgFormat δ).1.acts ≤ (N + 5000000) := hf5
   have hL : LPs ⟨(lgFormat δ).1, ω1, lg0⟩ (N + 5000000) := hf3 ω1 hfo
   refine .sdFoldS (s := s) (d := d) (x := x) (N := (N + 5000000)) (by repeat' constructor) hL ?_
   exact .mk (()) (trivial) ⟨rfl, rfl, rfl, rfl, trivial⟩
  refine .skip (.blk_n (.then_n ?_))
  have hs9 := hs
  have ha9 : δ.acts ≤ (N + 5000000) := by omega
  have hL : LPs ⟨δ, ω, Λ⟩ (N + 5000000) := h.more (by omega)
  refine .sdFoldS (s := s) (d := d) (x := x) (N := (N + 5000000)) (by repeat' constructor) hL ?_
  exact .mk (()) (trivial) ⟨rfl, rfl, rfl, rfl, trivial⟩
 rintro _u _
 refine .seq (.sr (.sdOpen (by repeat' constructor) (fun δ hs ha => ?_) (fun δ ω Λ g xg y w h => ?_)))
 ·refine .m rfl (.nf rfl fo_62_1 (.u (.ld rfl ag_28) (.q (.as (v' := .bool false) (by rfl) (.ptrne rfl rfl Tryz.underlying28)) rfl (.m rfl (.gk (.gk (.gk (.gk (.gk (.u (.pickF rfl rfl) (.nt (.condF rfl (.sk (.seq (.dsOpen (x := x) (by repeat' constructor) fun ρ hrel hN9 => (.rkOpen (x := x) (ρ := ρ) (by repeat' constructor) fun vL vO vP hrk => (.draw [] [[0, 1, 2, 3, 4, 5, 6, 7, 8, 9, 10, 11, 12, 13, 14, 15, 16, 17, 18, 19, 20, 21, 22, 23, 24, 25, 26, 27, 28, 29, 30, 31]] mixed (by kernel_rfl) (.go [ptc s _ _, ptc x _ _, dkR d _] (by repeat' constructor) (.mv rfl rfl (.mv rfl rfl (.gv rfl (.move rfl) (.gv rfl (.nilp rfl) (.gv rfl (.fieldAddr rfl fo_62_0) (.gv rfl (.ld rfl ag_24) (.gm (t := 124) rfl rfl rfl (by kernel_rfl) (.c Tryz.func36 [_] (acts_spec d δ)) (by repeat' constructor) ?_)))))))))))))))))))))))))
  refine D.gv rfl (.move rfl) (.gv rfl (.nilp rfl) (.gv rfl (.fieldAddr rfl fo_62_2) (.gv rfl (.ld rfl ag_47) (.gv rfl (.nilp rfl) (.gv rfl (.fieldAddr rfl fo_58_3) (.gv rfl (.ld rfl ag_3) (.gv rfl (.as (v' := .bool true) (by rw [hrel.acts]; simp) (.int rfl rfl rfl)) (.kv rfl (.pickT rfl rfl) (.mv rfl rfl (.gv rfl (.move rfl) (.gv rfl (.nilp rfl) (.gv rfl (.fieldAddr rfl fo_62_0) (.gv rfl (.ld rfl ag_24) (.gm (t := 139) rfl rfl rfl (by kernel_rfl) (.c Tryz.func38 [_] (dead_spec d δ)) (by repeat' constructor) ?_))))))))))))))
  refine D.gv rfl (.move rfl) (.gv rfl (.nilp rfl) (.gv rfl (.fieldAddr rfl fo_62_2) (.gv rfl (.ld rfl ag_47) (.gv rfl (.nilp rfl) (.gv rfl (.fieldAddr rfl fo_58_5) (.gv rfl (.ld rfl ag_4) (.gv rfl (.as (v' := .bool true) (by rw [hrel.dead]; simp) (.booleq rfl rfl Tryz.underlying4)) (.kv rfl (.pickT rfl rfl) (.kv rfl (.assign rfl) (.ph (.fin (.rkFold (x := x) (ρ := ρ) (by repeat' constructor) rfl ⟨rfl, rfl⟩ ⟨rfl, rfl⟩ ⟨rfl, rfl⟩ hrk (.dsFold (x := x) (δ := δ) (by repeat' constructor) hrel hN9 (.then_n (.ret (.sdFoldN (s := s) (d := d) (x := x) (N := N + 10000000) (by repeat' constructor) hs (by omega) ?_))))))))))))))))
  exact .vv
 refine .m rfl (.nf rfl fo_62_1 (.u (.ld rfl ag_28) (.q (.as (v' := .bool true) (by rfl) (.ptrne rfl rfl Tryz.underlying28)) rfl (.m rfl (.grun (t := 103) rfl rfl rfl (.m rfl (.grun (t := 103) rfl rfl rfl (.u (.nilp rfl) (.grun (t := 103) rfl rfl rfl (.u (.fieldAddr rfl fo_62_3) (.grun (t := 103) rfl rfl rfl (.u (.ld rfl ag_60) (.grun (t := 103) rfl rfl rfl (.q (.as (v' := .bool true) (by rfl) (.ptrne rfl rfl Tryz.underlying60)) rfl (.u (.pickT rfl rfl) (.nt (.condT rfl (.sm rfl (.q (.loadAs (vs := op9K o o.k) rfl ag_73 (by repeat' constructor) (by simp [op9K, op9C, enC, ptC]) rfl) rfl (.oq (.c Tryz.func87 [_, _] (changes9_spec s d g xg x y w δ ω Λ (N + 5000000) h (by omega) o p ho)) ?_))))))))))))))))))))
 rintro v L' ⟨rfl, rfl⟩; have hL2 := lps_ch h ho; obtain ⟨⟨σ2, ω2, Λ2⟩, hq⟩ : ∃ q, lgCh ⟨δ, ω, Λ⟩ o = q := ⟨_, rfl⟩; rw [hq] at hL2 ⊢; dsimp only
 refine .an rfl (.sm rfl (.q (.loadAs (vs := op9K o o.k) rfl ag_73 (by repeat' constructor) (by simp [op9K, op9C, enC, ptC]) rfl) rfl (.cv Tryz.func73 [_, _] (asks9_spec s d g xg x y w Λ2 hL2.w o o.k) ?_)))
 refine .an rfl (.region (.m rfl (.m rfl (.grun (t := 117) rfl rfl rfl (.m rfl (.u (.pickT rfl rfl) (.m rfl (.grun (t := 120) rfl rfl rfl (.m rfl (.u (.pickT rfl rfl) (.an rfl (.seq (.dsOpen (x := x) (by repeat' constructor) fun ρ hrel hN9 => (.rkOpen (x := x) (ρ := ρ) (by repeat' constructor) fun vL vO vP hrk => (.draw [] [[0, 1, 2, 3, 4, 5, 6, 7, 8, 9, 10, 11, 12, 13, 14, 15, 16, 17, 18, 19, 20, 21, 22, 23, 24, 25, 26, 27, 28, 29, 30, 31]] mixed (by kernel_rfl) (.go [ptc s _ _, ptc x _ _, dkR d _] (by repeat' constructor) (.mv rfl rfl (.mv rfl rfl (.gv rfl (.move rfl) (.gv rfl (.nilp rfl) (.gv rfl (.fieldAddr rfl fo_62_0) (.gv rfl (.ld rfl ag_24) (.gm (t := 124) rfl rfl rfl (by kernel_rfl) (.c Tryz.func36 [_] (acts_spec d σ2)) (by repeat' constructor) ?_)))))))))))))))))))))))
 refine D.gv rfl (.move rfl) (.gv rfl (.nilp rfl) (.gv rfl (.fieldAddr rfl fo_62_2) (.gv rfl (.ld rfl ag_47) (.gv rfl (.nilp rfl) (.gv rfl (.fieldAddr rfl fo_58_3) (.gv rfl (.ld rfl ag_3) (.gv rfl (.as (v' := .bool true) (by rw [hrel.acts]; simp) (.int rfl rfl rfl)) (.kv rfl (.pickT rfl rfl) (.mv rfl rfl (.gv rfl (.move rfl) (.gv rfl (.nilp rfl) (.gv rfl (.fieldAddr rfl fo_62_0) (.gv rfl (.ld rfl ag_24) (.gm (t := 139) rfl rfl rfl (by kernel_rfl) (.c Tryz.func38 [_] (dead_spec d σ2)) (by repeat' constructor) ?_))))))))))))))
 refine D.gv rfl (.move rfl) (.gv rfl (.nilp rfl) (.gv rfl (.fieldAddr rfl fo_62_2) (.gv rfl (.ld rfl ag_47) (.gv rfl (.nilp rfl) (.gv rfl (.fieldAddr rfl fo_58_5) (.gv rfl (.ld rfl ag_4) (.gv rfl (.as (v' := .bool true) (by rw [hrel.dead]; simp) (.booleq rfl rfl Tryz.underlying4)) (.kv rfl (.pickT rfl rfl) (.kv rfl (.assign rfl) (.ph (.fin (.rkFold (x := x) (ρ := ρ) (by repeat' constructor) rfl ⟨rfl, rfl⟩ ⟨rfl, rfl⟩ ⟨rfl, rfl⟩ hrk (.dsFold (x := x) (δ := σ2) (by repeat' constructor) hrel hN9 (.then_n (.ret (.sdFoldS (s := s) (d := d) (x := x) (N := N + 10000000) (by repeat' constructor) (hL2.more (by omega)) ?_))))))))))))))))
 exact .vv
theorem made9_spec (n : Int) (hn : 16 ≤ n ∧ n ≤ 32768) : Fn Tryz.prog 40 #[vint n] [] fun v L => ∃ s d x, v = vptr s ∧ L = [sdR s d x 6000000] := by
 refine Fn.intro Tryz.func40 rfl rfl fun F W => ?_
 have hnl : (Dk.new n).now.length = n.toNat := by simp [Dk.new]
 have hs : 2 ≤ (Dk.new n).now.length ∧ (Dk.new n).now.length ≤ 32768 := by rw [hnl]; omega
 have hac : (Dk.new n).acts = 0 := rfl
 have hrn : Rel (Dk.new n) (Rk.new n.toNat) := by have h := Rel.new n.toNat (by omega); rwa [Int.toNat_of_nonneg (by omega)] at h
 obtain ⟨ωf, hfo, -⟩ := format_lwell (n := n) hn
 obtain ⟨hf1, ⟨hf2a, hf2b⟩, hf3, hf4, hf5⟩ := format_k (N := 0) hs (by omega)
 have hf0 := newW_k (N := 0) hs (by omega)
 refine .sr (.an rfl (.sm rfl (.oq (.c Tryz.func11 [_] (new_spec n)) ?_)))
 rintro v L' (⟨h, -, -⟩ | ⟨-, d, rfl, rfl⟩); · omega
 refine .m rfl (.u (.extract rfl rfl) (.u (.extract rfl rfl) (.a rfl (.an rfl (.sm rfl (.oq (.c Tryz.func19 [_] (rnew_spec n)) ?_))))))
 rintro v L' (⟨h, -, -⟩ | ⟨-, x, rfl, rfl⟩); · omega
 refine .m rfl (.u (.extract rfl rfl) (.u (.extract rfl rfl) (.a rfl (.a rfl (.nil (.dsFold (x := x) (δ := (Dk.new n)) (by repeat' constructor) hrn (by show (0 : Int) ≤ 0; decide) (.then_n (.seq (.sm rfl (.q (.as (v' := .bool false) (by rfl) (.ptreq rfl rfl Tryz.underlying24)) rfl (.m rfl (.grun (t := 21) rfl rfl rfl (.m rfl (.grun (t := 21) rfl rfl rfl (.q (.as (v' := .bool false) (by rfl) (.ptreq rfl rfl Tryz.underlying47)) rfl (.u (.pickF rfl rfl) (.m rfl (.grun (t := 25) rfl rfl rfl (.m rfl (.grun (t := 25) rfl rfl rfl (.q (.as (v' := .bool false) (by rfl) (.int rfl rfl rfl)) rfl (.u (.pickF rfl rfl) (.m rfl (.grun (t := 29) rfl rfl rfl (.m rfl (.grun (t := 29) rfl rfl rfl (.q (.as (v' := .bool false) (by rfl) (.int rfl rfl rfl)) rfl ?_)))))))))))))))))))))))))))
 refine .u (.pickF rfl rfl) (.nt (.condF rfl (.sk (.sm rfl (.m rfl (.q (.to (v' := .agg [vptr d, .pointer none, vptr x, .pointer none].toArray) (.build (us := [(0, _), (2, _)]) fl_62 ze_62 rfl rfl (by simp [isCell])) rfl) rfl (.oq (.box rfl) ?_)))))))
 rintro v L' ⟨s, rfl, rfl⟩
 refine .an rfl (.sm rfl (.oq (.c Tryz.func24 [_, _] (sformat_spec s d x (.pointer none) (.pointer none) (Dk.new n) (by omega) (hf0.i (by decide)) (hf1.i (by decide)) (by rw [hf2a, hf2b]; omega))) ?_))
 rintro v L' (⟨h, -, -⟩ | ⟨ω1, g, xg, y, w, hfo1, rfl, rfl⟩); · rw [hfo] at h; cases h
 refine .an rfl (.seq (.sm rfl (.u (.not rfl) (.m rfl (.grun (t := 41) rfl rfl rfl (.m rfl (.grun (t := 41) rfl rfl rfl (.u (.nilp rfl) (.grun (t := 41) rfl rfl rfl (.u (.fieldAddr rfl fo_62_1) (.grun (t := 41) rfl rfl rfl (.u (.ld rfl ag_28) (.grun (t := 41) rfl rfl rfl (.q (.as (v' := .bool false) (by rfl) (.ptreq rfl rfl Tryz.underlying28)) rfl (.u (.pickF rfl rfl) (.nt (.condF rfl (.sk (.sm rfl (.an rfl (.ret (.sdFoldS (s := s) (d := d) (x := x) (N := 6000000) (by repeat' constructor) ((hf3 ω1 hfo1).more (by omega)) ?_))))))))))))))))))))))
 exact .dn rfl rfl ⟨s, d, x, rfl, rfl⟩
theorem ledgerPlays_spec (n : Int) (v1 : Value) (xs : List Op9) (p : HP) (hn : I64 n) (hx : Ops9 p v1 xs) : Fn Tryz.prog 9 #[vint n, v1] [p] fun v L => v = .bool true ∧ L = [p] := by
 refine Fn.intro Tryz.func9 rfl rfl fun F W => ?_
 have hpk := pickZ_range n (n := 2033) (by decide)
 have hcells := hx.cells
 have hel := hx.len
 refine .rdAny (p := p) hcells (by repeat' constructor) fun a0 c0 e _ => ?_
 subst e
 refine .sr (.an rfl (.sr (.cv Tryz.func10 [] (awake9_spec) ?_)))
 refine .an rfl (.sm rfl (.cv Tryz.func26 [_, _] (pick9_spec n 2033 hn (by decide)) ?_))
 refine .q (.add rfl rfl (by omega)) rfl (.oq (.c Tryz.func40 [_] (made9_spec (16 + pickZ n 2033) (by omega))) ?_)
 rintro v L' ⟨s, d, x, rfl, rfl⟩
 refine .an rfl (.seq (.sm rfl (.u (.not rfl) (.m rfl (.grun (t := 17) rfl rfl rfl (.m rfl (.grun (t := 17) rfl rfl rfl (.q (.as (v' := .bool false) (by rfl) (.ptreq rfl rfl Tryz.underlying59)) rfl (.u (.pickF rfl rfl) (.nt (.condF rfl (.sk (.seq (.sr (.an rfl (.block ?_))))))))))))))))
 rw [show (6000000 : Int) = 6000000 + ((0 : Nat) : Int) * 10000000 by decide]
 refine .loopK (ι := Nat) (fun q E => (7, vint q) :: E) (fun q => [sdR s d x (6000000 + (q : Int) * 10000000)]) (fun q => q ≤ xs.length) (fun q => xs.length - q) (0) (ts := [1, 6]) (.cons rfl (.cons rfl (.nil))) (Nat.zero_le _) ⟨rfl, rfl, rfl, trivial⟩ (by repeat' constructor) ?_
 rintro i hi
 refine .seq (.sm rfl (.m rfl (.q (.slen rfl Tryz.underlying71 rfl) rfl (.ui rfl rfl rfl (.nt (.condD rfl (fun h24 => ?_) (fun h24 => ?_)))))))
 ·have hi2 : i < xs.length := by omega
  refine .rdShape (p := p) hcells (by repeat' constructor) (by omega) fun ba oa e => ?_
  subst e
  have ho := hx.each _ (List.getElem_mem hi2)
  refine .sk (.seq (.block (.sm rfl (.m rfl (.m rfl (.q (.indexAddr rfl rfl el_71 (by omega)) rfl (.q (.loadRdA (sz := 17) (j := i * 17) (k := 17) (p := p) (vs := op9K xs[i] xs[i].k) rfl ag_73 (by repeat' constructor) hcells (by simp) (by omega) (by omega) (op9_at hi2)) rfl (.cv Tryz.func41 [_, _] (step9_spec s d x (6000000 + (i : Int) * 10000000) (by omega) (by omega) xs[i] p ho) ?_))))))))
  refine .an rfl (.sm rfl (.u (.not rfl) (.nt (.condF rfl (.skip (.blk_n (.then_n (.region (.m rfl (.q (.add rfl rfl (by omega)) rfl (.an rfl ?_)))))))))))
  rw [show (6000000 + (i : Int) * 10000000) + 10000000 = 6000000 + ((i + 1 : Nat) : Int) * 10000000 by omega]
  exact .rk (i + 1) (by omega) (by omega) ⟨rfl, rfl, rfl, trivial⟩
 have hie : i = xs.length := by omega
 refine .exit (.then_e (.then_e (.blk_e (.then_n (.sr (.sdOpen (by repeat' constructor) (fun δ hs ha => ?_) (fun δ ω Λ g xg y w h => ?_)))))))
 ·refine .m rfl (.cv Tryz.func25 [_] (wholeN_spec s d x) ?_)
  refine .an rfl (.seq (.draw [10] [[0, 1, 2, 3, 4, 5, 6, 7, 8, 9, 10], [11, 12]] mixed (by kernel_rfl) (.g0 (.mv rfl rfl (.mv rfl rfl (.gv rfl (.move rfl) (.gv rfl (.nilp rfl) (.gv rfl (.fieldAddr rfl fo_62_0) (.gv rfl (.ld rfl ag_24) (.gv rfl (.move rfl) (.gv rfl (.nilp rfl) (.gv rfl (.fieldAddr rfl fo_62_2) (.gv rfl (.ld rfl ag_47) (.gh (t := 38) rfl rfl rfl (by kernel_rfl) (.c Tryz.func42 [_, _] (alike9_spec d x δ)) (by repeat' constructor) ?_))))))))))))))
  rintro v L' ⟨rfl, rfl⟩
  refine D.ph (.g0 (.kv rfl (.pickT rfl rfl) (.kv rfl (.assign rfl) (.pf (.ret ?_)))))
  exact .vv
 refine .m rfl (.cv Tryz.func25 [_] (whole9_spec s d g xg x y w Λ h.w) ?_)
 refine .an rfl (.seq (.draw [10] [[0, 1, 2, 3, 4, 5, 6, 7, 8, 9, 10], [11, 12]] mixed (by kernel_rfl) (.g0 (.mv rfl rfl (.mv rfl rfl (.gv rfl (.move rfl) (.gv rfl (.nilp rfl) (.gv rfl (.fieldAddr rfl fo_62_0) (.gv rfl (.ld rfl ag_24) (.gv rfl (.move rfl) (.gv rfl (.nilp rfl) (.gv rfl (.fieldAddr rfl fo_62_2) (.gv rfl (.ld rfl ag_47) (.gh (t := 38) rfl rfl rfl (by kernel_rfl) (.c Tryz.func42 [_, _] (alike9_spec d x δ)) (by repeat' constructor) ?_))))))))))))))
 rintro v L' ⟨rfl, rfl⟩
 refine D.ph (.g0 (.kv rfl (.pickT rfl rfl) (.kv rfl (.assign rfl) (.pf (.ret ?_)))))
 exact .vv
open Go Go.ChangeShapes Go.WideShapes Go.ChangeAt Go.RowKit
section
variable {H : Type} {enc : TypeId × Value → H} {P : Program} {W W' : World}
theorem trodAll_old (hl : laidOutB P = true) (hb : Below W.heap.size W W') (sp : Nat → Bool) : ∀ (ts : List TypeId) (vs : List Value) (ds : List (DataW H)) (p : List MemPlace), (∀ t ∈ ts, P.readableRec t = true ∧ t < P.types.size) →
  DataW.TrodAll enc P W 0 (fun _ => true) true ts vs ds p → (∀ x ∈ p, x.block < W.heap.size) → (∀ x ∈ p, sp x.block = true) → DataW.TrodAll enc P W' 0 sp true ts vs ds p
 | [], vs, ds, p, _, h, _, _ => by
  obtain ⟨rfl, rfl, rfl⟩ := trodAll_nil h
  exact h
 | t :: ts, vs, ds, p, hr, h, hlt, hsp => by
  obtain ⟨v, vs1, d, ds1, a, b, rfl, rfl, rfl, h1, h2⟩ := trodAll_cons h
  have r := hr t (by simp)
  refine ⟨a, b, WideElems.Trod_stays hl r.1 r.2 h1 (fun x hx => hb.same (hlt x (by simp [hx]))) (fun x hx => hsp x (by simp [hx])), ?_, rfl⟩
  exact trodAll_old hl hb sp ts vs1 ds1 b (fun t ht => hr t (by simp [ht])) h2 (fun x hx => hlt x (by simp [hx])) (fun x hx => hsp x (by simp [hx]))
theorem settled {fn : Func} {s : ChangeSpec} {apart fresh handsOn again : Bool} {args : Array Value} {ds gs : List (DataW H)} {before : List MemPlace} {tb : TypeId}
  (hW : DataW.Whole enc P fn.params.toList s.vars apart W args.toList ds gs before) (hvars : s.vars = []) (hspec : ∀ gs', gs' = [] → s.fn H (ds ++ gs') = { results := [.lit (.bool true)], args := ds })
  (hres : fn.resultTypes = #[tb]) (htb : P.underlying tb = some .bool) (hl : laidOutB P = true) (hr : ∀ t ∈ fn.params.toList, P.readableRec t = true ∧ t < P.types.size) (hb : Below W.heap.size W W') :
  s.post enc P fn apart fresh handsOn again W args (.bool true) W' := by
 have hW' := hW
 have hlt := hW.lt
 obtain ⟨p, q, hA, hV, rfl, hfz, hnd⟩ := hW
 rw [hvars] at hV
 obtain ⟨rfl, rfl⟩ := trodVars_none hV
 have hs := hspec [] rfl
 have hargs : ∀ sp : Nat → Bool, (∀ x ∈ p, sp x.block = true) → DataW.TrodAll enc P W' 0 sp true fn.params.toList args.toList ds p := fun sp hsp =>
  trodAll_old hl hb sp _ _ _ _ hr hA (fun x hx => hlt x (by simp [hx])) hsp
 have hbool : ∀ (b : Nat) (sp : Nat → Bool) (hd : Bool), DataW.TrodAll enc P W' b sp hd fn.resultTypes.toList ((Value.bool true).resultList fn.resultTypes.size) [.lit (.bool true)] [] := by
  intro b sp hd
  rw [hres]
  exact trodAll_cons_mk (shut_bool htb _) trodAll_mk0
 refine ⟨ds, [], p ++ [], [], p, [], hW', ?_, ?_, ?_, hb.frame _, fun _ => ⟨ok_one hres rfl (okWide_bool_mk htb _), [.lit (.bool true)] ++ ds, [], p, ⟨p, [], ?_, ?_, by simp, ?_, ?_⟩, ?_⟩⟩
 ·rw [hs]; exact hbool _ _ _
 ·rw [hs]; exact hargs _ (fun x hx => by simpa using hlt x (by simp [hx]))
 ·rw [hs, hvars]; exact hV
 ·exact trodAll_append (hargs _ (fun _ _ => rfl)) (hbool _ _ _)
 ·rw [hvars]; exact hV
 ·intro b off hp
  rw [hb.frozen (p := ⟨b, off, none⟩) (hlt (.cell b off) (by simp [hp]))]
  exact hfz b off (by simp [hp])
 ·intro ha
  have := hnd ha
  simpa using this
 ·intro x hx _
  simp [hx]
theorem old_calls {f : FuncId} {args : Array Value} (h : Fn P f args [Old W] fun v L => v = .bool true ∧ L = [Old W]) :
  Calls P f args W fun e W' => e = .returned (.bool true) ∧ Below W.heap.size W W' := by
 have h0 : St [Old W] W := ⟨fun b => W.heap[b]?, fun _ => none, fun _ => .inr rfl, fun b o h => h, fun b o h => (by cases h), fun b hb => rfl, trivial⟩
 refine (h [] W h0).mono ?_
 rintro e W' ⟨v, L, ⟨rfl, rfl⟩, rfl, hs, hk⟩
 refine ⟨rfl, hk.os, hk.tape, hk.output, hk.size, fun k hk' => ?_⟩
 obtain ⟨h1, a1, hp⟩ := sep_head hs
 have e1 := hp k hk'
 have : ∃ o, W.heap[k]? = some o := ⟨_, Array.getElem?_eq_getElem hk'⟩
 obtain ⟨o, ho⟩ := this
 rw [ho] at e1 ⊢
 exact a1 _ _ e1
theorem old_rd {a : Addr} {len cap : Nat} {V : Nat → Value} (hc : ∀ i, i < len → W.cell? (a.add i) = some (V i)) (hle : len ≤ cap) : ∀ h : Hp, Old W h → rdS 1 h (.slice (some a) len cap) len ((List.range len).map V) := by
 intro h hold
 rcases Nat.eq_zero_or_pos len with rfl | hpos
 ·exact .inl ⟨rfl, rfl, some a, cap, rfl⟩
 ·obtain ⟨b, off, spot⟩ := a
  have h0 := hc 0 hpos
  have e0 : (⟨b, off, spot⟩ : Addr).add 0 = ⟨b, off, spot⟩ := by simp [Addr.add]
  rw [e0] at h0
  simp only [World.cell?] at h0
  rcases hw : W.heap[b]? with _ | o
  ·rw [hw] at h0; cases h0
  ·cases o with
   | cells c T fr =>
    rw [hw] at h0
    dsimp only at h0
    split at h0
    ·cases h0
    ·rename_i hsp
     have hspot : spot = none := by simpa using hsp
     subst hspot
     have hc' : ∀ i, i < len → c[off + i]? = some (V i) := by
      intro i hi
      have := hc i hi
      have e1 : (⟨b, off, none⟩ : Addr).add i = ⟨b, off + i, none⟩ := by
       simp only [Addr.add]; split
       ·rename_i h0; simp [h0]
       ·rfl
      rw [e1] at this
      simp only [World.cell?, hw] at this
      simpa using this
     have hlt : b < W.heap.size := by
      rcases Nat.lt_or_ge b W.heap.size with h' | h'
      ·exact h'
      ·rw [Array.getElem?_eq_none h'] at hw; cases hw
     have hlen : off + len ≤ c.size := by
      have := hc' (len - 1) (by omega)
      rcases Nat.lt_or_ge (off + (len - 1)) c.size with h' | h'
      ·omega
      ·rw [Array.getElem?_eq_none h'] at this; cases this
     refine .inr ⟨b, off, cap, c.toList, T, fr, rfl, by rw [hold b hlt, hw], ?_, by simpa using hlen, hle⟩
     apply List.ext_getElem?
     intro i
     rw [Nat.mul_one, List.getElem?_take, List.getElem?_map, List.getElem?_drop]
     split
     ·rename_i hi
      rw [List.getElem?_range hi]
      simpa using hc' i hi
     ·rename_i hi
      rw [List.getElem?_eq_none (by simpa using hi)]; rfl
   | _ => rw [hw] at h0; cases h0
theorem arg_int {t : TypeId} {r : Reach} {b0 : Nat} {v : Value} {d : DataW H} {ps : List MemPlace} (ht : P.underlying t = some (.int .i64)) (hval : Value.okWide P W r b0 t v)
  (h : DataW.Trod enc P W 0 (fun _ => true) true t v d ps) : ∃ n : Int, v = vint n ∧ d = .lit (.int .i64 n) ∧ -9223372036854775808 ≤ n ∧ n ≤ 9223372036854775807 := by
 obtain ⟨n, rfl, rfl, rfl, hwf⟩ := open_int ht hval h
 exact ⟨n, rfl, rfl, bounds_i64 hwf⟩
end
open Go Go.ChangeShapes Go.WideShapes Go.ChangeAt Go.RowKit
section
variable {H : Type} {enc : TypeId × Value → H} {P : Program} {W : World}
theorem string_vstr (s : ByteArray) : Value.string s = vstr s.data.toList := by cases s; rfl
end
open Go Go.ChangeShapes Go.WideShapes Go.ChangeAt Go.RowKit
section
variable {H : Type} {enc : TypeId × Value → H} {P : Program} {W : World}
theorem flat_at {α : Type} {sz : Nat} (f : Nat → List α) : ∀ n, (∀ i, i < n → (f i).length = sz) → ∀ j, j < n * sz → ((List.range n).flatMap f)[j]? = (f (j / sz))[j % sz]? ∧ ((List.range n).flatMap f).length = n * sz := by
 intro n
 induction n with
 | zero => intro _ j hj; omega
 | succ n ih =>
  intro hf j hj
  have hn := hf n (by omega)
  have hlen : ((List.range n).flatMap f).length = n * sz := by
   rcases Nat.eq_zero_or_pos (n * sz) with h0 | h0
   ·rcases Nat.eq_zero_or_pos n with h1 | h1
    ·subst h1; simp
    ·have : sz = 0 := by
      rcases Nat.eq_zero_or_pos sz with h2 | h2
      ·exact h2
      ·have := Nat.mul_pos h1 h2; omega
     subst this; omega
   ·exact (ih (fun i hi => hf i (by omega)) 0 h0).2
  have e : (List.range (n + 1)).flatMap f = (List.range n).flatMap f ++ f n := by simp [List.range_succ]
  have hm : (n + 1) * sz = n * sz + sz := by rw [Nat.add_mul, Nat.one_mul]
  rw [e]
  refine ⟨?_, by rw [List.length_append, hlen, hn, hm]⟩
  rcases Nat.lt_or_ge j (n * sz) with h | h
  ·rw [List.getElem?_append_left (by omega)]
   exact (ih (fun i hi => hf i (by omega)) j h).1
  ·rw [List.getElem?_append_right (by omega), hlen]
   have hs : 0 < sz := by omega
   have h1 : j / sz = n := by
    have : j < (n + 1) * sz := hj
    have a := Nat.div_lt_of_lt_mul (show j < sz * (n + 1) by rw [Nat.mul_comm]; exact this)
    have b := (Nat.le_div_iff_mul_le hs).2 h
    omega
   have h2 : j % sz = j - n * sz := by
    have := Nat.div_add_mod j sz
    rw [h1, Nat.mul_comm] at this; omega
   rw [h1, h2]
theorem rdS_regroup {sz n c c1 : Nat} {a : Option Addr} {ys : List Value} {h : Hp} (hr : rdS 1 h (.slice a (n * sz) c1) (n * sz) ys) (hc : n ≤ c) (hs : 0 < sz) : rdS sz h (.slice a n c) n ys := by
 rcases hr with ⟨h1, h2, -⟩ | ⟨b, off, cap, l, T, fr, hv, hb, h1, h2, h3⟩
 ·have : n = 0 := by
   rcases Nat.eq_zero_or_pos n with h0 | h0
   ·exact h0
   ·have := Nat.mul_pos h0 hs; omega
  subst this
  exact .inl ⟨rfl, h2, a, c, rfl⟩
 ·simp only [Value.slice.injEq] at hv
  obtain ⟨rfl, -, -⟩ := hv
  exact .inr ⟨b, off, c, l, T, fr, rfl, hb, by rw [← h1, Nat.mul_one], by rw [Nat.mul_one] at h2; exact h2, hc⟩
abbrev Reads (enc : TypeId × Value → H) (P : Program) (W : World) (fuel : Nat) (t : TypeId) (cs : List Value) (x : DataW H × List MemPlace) : Prop := DataW.trod enc P W 0 (fun _ => true) true fuel t cs = some x
theorem dec_int {t : TypeId} {fuel : Nat} {cs : List Value} {x : DataW H × List MemPlace} (ht : P.underlying t = some (.int .i64)) (h : Reads enc P W fuel t cs x) : ∃ n : Int, cs = [vint n] ∧ -9223372036854775808 ≤ n ∧ n ≤ 9223372036854775807 := by
 obtain ⟨n, rfl, -, hwf⟩ := DataW.trod_int ht h
 exact ⟨n, rfl, bounds_i64 hwf⟩
end
open Go Go.ChangeShapes Go.WideShapes Go.ChangeAt Go.RowKit
theorem bulk_pos {H : Type} (d : DataW H) : 1 ≤ Rows.uptoBulk d := by
 cases d with
 | lit l => cases l <;> simp [Rows.uptoBulk]
 | _ => simp [Rows.uptoBulk]
theorem bulk_part {H : Type} {d : DataW H} : ∀ {l : List (DataW H)}, d ∈ l → Rows.uptoBulk d ≤ Rows.uptoBulkAll l
 | x :: l, h => by
  unfold Rows.uptoBulkAll
  rcases List.mem_cons.1 h with rfl | h
  ·omega
  ·have := bulk_part h; omega
theorem bulk_count {H : Type} : ∀ l : List (DataW H), l.length ≤ Rows.uptoBulkAll l
 | [] => by simp
 | x :: l => by
  have h1 := bulk_pos x
  have h2 := bulk_count l
  unfold Rows.uptoBulkAll
  rw [List.length_cons]; omega
theorem bulk_sum {H : Type} : ∀ l : List (DataW H), (l.map Rows.uptoBulk).sum ≤ Rows.uptoBulkAll l
 | [] => by simp
 | x :: l => by
  have h2 := bulk_sum l
  unfold Rows.uptoBulkAll
  rw [List.map_cons, List.sum_cons]; omega
theorem bulk_small {H : Type} {l : List (DataW H)} (h : Rows.uptoSmall H l = true) {d : DataW H} (hd : d ∈ l) : Rows.uptoBulk d ≤ 1048576 :=
 Nat.le_trans (bulk_part hd) (of_decide_eq_true h)
instance : Inhabited Value := ⟨.bool false⟩
section
variable {H : Type} {enc : TypeId × Value → H} {P : Program} {W : World} {N : Nat}
theorem dec_int' {t : TypeId} {fuel : Nat} {cs : List Value} {x : DataW H × List MemPlace} (ht : P.underlying t = some (.int .i64)) (h : Reads enc P W fuel t cs x) : ∃ n : Int, cs = [vint n] ∧ (-9223372036854775808 ≤ n ∧ n ≤ 9223372036854775807) := by
 obtain ⟨n, h1, h2⟩ := dec_int ht h; exact ⟨n, h1, h2⟩
theorem dec_sliceV {Z : Type} [Inhabited Z] (toC : Z → List Value) (Q : Z → Prop) {t e : TypeId} {sz : Nat} {fuel : Nat} {cs : List Value} {x : DataW H × List MemPlace} (ht : P.underlying t = some (.slice e)) (hc : P.cellsOf e = sz) (hs : 0 < sz)
  (hdec : ∀ (n : Nat) (cs : List Value) (y : DataW H × List MemPlace), Reads enc P W n e cs y → Rows.uptoBulk y.1 ≤ N → ∃ z, cs = toC z ∧ Q z) (h : Reads enc P W fuel t cs x) (hb : Rows.uptoBulk x.1 ≤ N + 1) :
  ∃ z : Value × List Z, cs = [z.1] ∧ (∀ h : Hp, Old W h → rdS sz h z.1 z.2.length (z.2.flatMap toC)) ∧ z.2.length ≤ N ∧ ∀ y ∈ z.2, Q y := by
 subst hc
 rcases Go.Deep.open_slice ht h with ⟨rfl, rfl⟩ | ⟨a, len, cap, m, n, Dd, Pl, rfl, -, hl, hm, hmm, rfl, hx⟩
 ·exact ⟨(_, []), rfl, fun h _ => .inl ⟨rfl, rfl, none, 0, rfl⟩, by simp, by simp⟩
 ·simp only [if_true] at hmm
  subst hmm
  have hbl : len ≤ N := by
   have := bulk_count ((List.range len).map Dd)
   simp only [Rows.uptoBulk] at hb
   rw [List.length_map, List.length_range] at this
   omega
  have hbe : ∀ i, i < len → Rows.uptoBulk (Dd i) ≤ N := fun i hi => by
   have := bulk_part (d := Dd i) (l := (List.range len).map Dd) (List.mem_map_of_mem (by simpa using hi))
   simp only [Rows.uptoBulk] at hb
   omega
  obtain ⟨Zf, hZ⟩ := Go.Deep.choose_lt (α := Z) (p := fun i z => W.cells? 0 (a.add (i * P.cellsOf e)) (P.cellsOf e) = some (toC z) ∧ Q z) (n := len) (fun i hi => by
   obtain ⟨cs', h1, h2⟩ := hx i (by omega)
   obtain ⟨z, rfl, h3⟩ := hdec _ _ _ h2 (hbe i hi)
   exact ⟨z, h1, h3⟩)
  have hlenf : ∀ i, i < len → (toC (Zf i)).length = P.cellsOf e := fun i hi => (World.cells?_some (hZ i hi).1).2.1
  have hflat := flat_at (fun i => toC (Zf i)) len hlenf
  refine ⟨(_, (List.range len).map Zf), rfl, ?_, ?_, ?_⟩
  ·intro h hold
   dsimp only
   rw [List.length_map, List.length_range]
   refine rdS_regroup (c1 := len * P.cellsOf e) ?_ hl hs
   have e1 : ((List.range len).map Zf).flatMap toC = (List.range (len * P.cellsOf e)).map (fun j => ((List.range len).flatMap fun i => toC (Zf i)).getD j (.bool false)) := by
    rw [List.flatMap_map]
    apply List.ext_getElem?
    intro j
    rcases Nat.lt_or_ge j (len * P.cellsOf e) with hj | hj
    ·rw [List.getElem?_map, List.getElem?_range hj]
     have := (hflat j hj).2
     have hjl : j < ((List.range len).flatMap fun i => toC (Zf i)).length := by omega
     simp only [Option.map_some, List.getD_eq_getElem?_getD, List.getElem?_eq_getElem hjl, Option.getD_some]
    ·have : ((List.range len).flatMap fun i => toC (Zf i)).length = len * P.cellsOf e := by
      rcases Nat.eq_zero_or_pos (len * P.cellsOf e) with h0 | h0
      ·have : len = 0 := by
        rcases Nat.eq_zero_or_pos len with h1 | h1
        ·exact h1
        ·have := Nat.mul_pos h1 hs; omega
       subst this; simp
      ·exact (hflat 0 h0).2
     rw [List.getElem?_eq_none (by omega), List.getElem?_eq_none (by simpa using hj)]
   rw [e1]
   refine old_rd (W := W) (fun j hj => ?_) (Nat.le_refl _) h hold
   have hi : j / P.cellsOf e < len := Nat.div_lt_of_lt_mul (by rw [Nat.mul_comm]; exact hj)
   have hcell := (World.cells?_some (hZ (j / P.cellsOf e) hi).1).2.2 (j % P.cellsOf e) (Nat.mod_lt _ hs)
   rw [Addr.add_add, Nat.mul_comm, Nat.div_add_mod] at hcell
   rw [hcell]
   obtain ⟨f1, f2⟩ := hflat j hj
   rw [List.getD_eq_getElem?_getD, f1]
   have : j % P.cellsOf e < (toC (Zf (j / P.cellsOf e))).length := by rw [hlenf _ hi]; exact Nat.mod_lt _ hs
   simp [this]
  ·dsimp only; rw [List.length_map, List.length_range]; exact hbl
  ·intro z hz
   obtain ⟨i, hi, rfl⟩ := List.mem_map.1 hz
   exact (hZ i (by simpa using hi)).2
theorem dec_sliceQV {Z : Type} [Inhabited Z] (toC : Z → List Value) (Q : Nat → Z → Prop) {t e : TypeId} {sz : Nat} {fuel : Nat} {cs : List Value} {x : DataW H × List MemPlace} (ht : P.underlying t = some (.slice e)) (hc : P.cellsOf e = sz) (hs : 0 < sz)
  (hdec : ∀ (n : Nat) (cs : List Value) (y : DataW H × List MemPlace), Reads enc P W n e cs y → ∃ z, cs = toC z ∧ Q (Rows.uptoBulk y.1) z) (h : Reads enc P W fuel t cs x) (hb : Rows.uptoBulk x.1 ≤ N + 1) :
  ∃ (z : Value × List Z) (ws : List Nat), cs = [z.1] ∧ (∀ h : Hp, Old W h → rdS sz h z.1 z.2.length (z.2.flatMap toC)) ∧ z.2.length ≤ N ∧ ws.length = z.2.length ∧ ws.sum ≤ N ∧ (∀ w ∈ ws, 1 ≤ w) ∧ ∀ i (h1 : i < z.2.length) (h2 : i < ws.length), Q ws[i] z.2[i] := by
 subst hc
 rcases Go.Deep.open_slice ht h with ⟨rfl, rfl⟩ | ⟨a, len, cap, m, n, Dd, Pl, rfl, -, hl, hm, hmm, rfl, hx⟩
 ·exact ⟨(_, []), [], rfl, fun h _ => .inl ⟨rfl, rfl, none, 0, rfl⟩, by simp, rfl, by simp, (fun _ h => by cases h), (fun i h1 _ => by simp at h1)⟩
 ·simp only [if_true] at hmm
  subst hmm
  have hbl : len ≤ N := by
   have := bulk_count ((List.range len).map Dd)
   simp only [Rows.uptoBulk] at hb
   rw [List.length_map, List.length_range] at this
   omega
  have hall : ((List.range len).map fun i => Rows.uptoBulk (Dd i)).sum ≤ N := by
   have := bulk_sum ((List.range len).map Dd)
   rw [List.map_map] at this
   simp only [Rows.uptoBulk] at hb
   have e : ((List.range len).map fun i => Rows.uptoBulk (Dd i)) = (List.range len).map (Rows.uptoBulk ∘ Dd) := rfl
   rw [e]; omega
  obtain ⟨Zf, hZ⟩ := Go.Deep.choose_lt (α := Z) (p := fun i z => W.cells? 0 (a.add (i * P.cellsOf e)) (P.cellsOf e) = some (toC z) ∧ Q (Rows.uptoBulk (Dd i)) z) (n := len) (fun i hi => by
   obtain ⟨cs', h1, h2⟩ := hx i (by omega)
   obtain ⟨z, rfl, h3⟩ := hdec _ _ _ h2
   exact ⟨z, h1, h3⟩)
  have hlenf : ∀ i, i < len → (toC (Zf i)).length = P.cellsOf e := fun i hi => (World.cells?_some (hZ i hi).1).2.1
  have hflat := flat_at (fun i => toC (Zf i)) len hlenf
  refine ⟨(_, (List.range len).map Zf), (List.range len).map fun i => Rows.uptoBulk (Dd i), rfl, ?_, ?_, by simp, hall, ?_, ?_⟩
  ·intro h hold
   dsimp only
   rw [List.length_map, List.length_range]
   refine rdS_regroup (c1 := len * P.cellsOf e) ?_ hl hs
   have e1 : ((List.range len).map Zf).flatMap toC = (List.range (len * P.cellsOf e)).map (fun j => ((List.range len).flatMap fun i => toC (Zf i)).getD j (.bool false)) := by
    rw [List.flatMap_map]
    apply List.ext_getElem?
    intro j
    rcases Nat.lt_or_ge j (len * P.cellsOf e) with hj | hj
    ·rw [List.getElem?_map, List.getElem?_range hj]
     have := (hflat j hj).2
     have hjl : j < ((List.range len).flatMap fun i => toC (Zf i)).length := by omega
     simp only [Option.map_some, List.getD_eq_getElem?_getD, List.getElem?_eq_getElem hjl, Option.getD_some]
    ·have : ((List.range len).flatMap fun i => toC (Zf i)).length = len * P.cellsOf e := by
      rcases Nat.eq_zero_or_pos (len * P.cellsOf e) with h0 | h0
      ·have : len = 0 := by
        rcases Nat.eq_zero_or_pos len with h1 | h1
        ·exact h1
        ·have := Nat.mul_pos h1 hs; omega
       subst this; simp
      ·exact (hflat 0 h0).2
     rw [List.getElem?_eq_none (by omega), List.getElem?_eq_none (by simpa using hj)]
   rw [e1]
   refine old_rd (W := W) (fun j hj => ?_) (Nat.le_refl _) h hold
   have hi : j / P.cellsOf e < len := Nat.div_lt_of_lt_mul (by rw [Nat.mul_comm]; exact hj)
   have hcell := (World.cells?_some (hZ (j / P.cellsOf e) hi).1).2.2 (j % P.cellsOf e) (Nat.mod_lt _ hs)
   rw [Addr.add_add, Nat.mul_comm, Nat.div_add_mod] at hcell
   rw [hcell]
   obtain ⟨f1, f2⟩ := hflat j hj
   rw [List.getD_eq_getElem?_getD, f1]
   have : j % P.cellsOf e < (toC (Zf (j / P.cellsOf e))).length := by rw [hlenf _ hi]; exact Nat.mod_lt _ hs
   simp [this]
  ·dsimp only; rw [List.length_map, List.length_range]; exact hbl
  ·intro w hw
   obtain ⟨i, -, rfl⟩ := List.mem_map.1 hw
   exact bulk_pos _
  ·intro i h1 h2
   simp only [List.getElem_map, List.getElem_range]
   exact (hZ i (by simpa using h1)).2
/-! ### With weights: what is read weighs no more than its bulk -/
theorem dec_strW {t : TypeId} {fuel : Nat} {cs : List Value} {x : DataW H × List MemPlace} (ht : P.underlying t = some .string) (h : Reads enc P W fuel t cs x) : ∃ s : List UInt8, cs = [vstr s] ∧ s.length + 1 ≤ Rows.uptoBulk x.1 := by
 obtain ⟨s, rfl, rfl, -⟩ := DataW.trod_string ht h
 exact ⟨s.data.toList, by rw [string_vstr], by simp [Rows.uptoBulk]⟩
theorem dec_intW {t : TypeId} {fuel : Nat} {cs : List Value} {x : DataW H × List MemPlace} (ht : P.underlying t = some (.int .i64)) (h : Reads enc P W fuel t cs x) : ∃ n : Int, cs = [vint n] ∧ (-9223372036854775808 ≤ n ∧ n ≤ 9223372036854775807) ∧ 1 ≤ Rows.uptoBulk x.1 := by
 obtain ⟨n, h1, h2⟩ := dec_int' ht h; exact ⟨n, h1, h2, bulk_pos _⟩
theorem slice_shape {t e : TypeId} {fuel : Nat} {v : Value} {x : DataW H × List MemPlace} (ht : P.underlying t = some (.slice e)) (h : Reads enc P W fuel t [v] x) : ∃ a n c, v = .slice a n c := by
 rcases Go.Deep.open_slice ht h with ⟨hv, -⟩ | ⟨a, len, cap, m, n, Dd, Pl, hv, -⟩
 ·rw [List.cons.injEq] at hv; rw [hv.1]; exact ⟨_, _, _, rfl⟩
 ·rw [List.cons.injEq] at hv; rw [hv.1]; exact ⟨_, _, _, rfl⟩
theorem sum_le {Z : Type} {m : Z → Nat} : ∀ {l : List Z} {ws : List Nat}, ws.length = l.length → (∀ i (h1 : i < l.length) (h2 : i < ws.length), m l[i] ≤ ws[i]) → (l.map m).sum ≤ ws.sum
 | [], _, _, _ => by simp
 | z :: l, [], h, _ => by simp at h
 | z :: l, w :: ws, h, hq => by
  have h0 := hq 0 (by simp) (by simp)
  have h1 := sum_le (l := l) (ws := ws) (m := m) (by simpa using h) (fun i h1 h2 => hq (i + 1) (by simpa using h1) (by simpa using h2))
  rw [List.map_cons, List.sum_cons, List.sum_cons]
  have h0' : m z ≤ w := h0
  omega
theorem dec_sliceW {Z : Type} [Inhabited Z] (toC : Z → List Value) (Q : Z → Prop) (m : Z → Nat) {t e : TypeId} {sz : Nat} {fuel : Nat} {cs : List Value} {x : DataW H × List MemPlace} (ht : P.underlying t = some (.slice e)) (hc : P.cellsOf e = sz) (hs : 0 < sz)
  (hdec : ∀ (n : Nat) (cs : List Value) (y : DataW H × List MemPlace), Reads enc P W n e cs y → ∃ z, cs = toC z ∧ Q z ∧ m z ≤ Rows.uptoBulk y.1) (h : Reads enc P W fuel t cs x) :
  ∃ z : Value × List Z, cs = [z.1] ∧ (∀ h : Hp, Old W h → rdS sz h z.1 z.2.length (z.2.flatMap toC)) ∧ (∀ y ∈ z.2, Q y) ∧ z.2.length + 1 ≤ Rows.uptoBulk x.1 ∧ 1 + (z.2.map m).sum ≤ Rows.uptoBulk x.1 := by
 have hp := bulk_pos x.1
 obtain ⟨z, ws, h1, h2, h3, h4, h5, -, h7⟩ := dec_sliceQV (N := Rows.uptoBulk x.1 - 1) toC (fun B z => Q z ∧ m z ≤ B) ht hc hs hdec h (by omega)
 refine ⟨z, h1, h2, fun y hy => ?_, by omega, ?_⟩
 ·obtain ⟨i, hi, rfl⟩ := List.mem_iff_getElem.1 hy
  exact (h7 i hi (by omega)).1
 ·have := sum_le (m := m) h4 (fun i g1 g2 => (h7 i g1 g2).2)
  omega
theorem rd_shape {sz n : Nat} {v : Value} {ys : List Value} (hr : ∀ h : Hp, Old W h → rdS sz h v n ys) : ∃ a c, v = .slice a n c := by
 have h := hr (fun b => if b < W.heap.size then W.heap[b]? else none) (fun b hb => if_pos hb)
 rcases h with ⟨rfl, -, a, c, rfl⟩ | ⟨b, off, cap, l, T, fr, rfl, -⟩
 ·exact ⟨_, _, rfl⟩
 ·exact ⟨_, _, rfl⟩
end
open Go Go.ChangeShapes Go.WideShapes Go.ChangeAt Go.RowKit
def mAc (a : Ac) : Nat := 3 + a.2.length
def mPt (y : Pt) : Nat := 9 + y.path.length + y.data.length + (y.acl.map mAc).sum
def mEn (e : En) : Nat := mPt e.x + (e.subs.map mPt).sum
structure PtQ (p : HP) (y : Pt) : Prop where
 kind : I64 y.kind
 own : I64 y.own
 num : I64 y.num
 err : I64 y.err
 acl : ∀ h : Hp, p h → rdS 2 h y.aclV y.acl.length (y.acl.flatMap acC)
 ash : ∃ a n c, y.aclV = .slice a n c
 ssh : ∃ a n c, y.subsV = .slice a n c
 each : ∀ a ∈ y.acl, I64 a.1
structure EnQ (p : HP) (e : En) : Prop where
 zx : I64 e.zx
 ses : I64 e.ses
 xid : I64 e.xid
 x : PtQ p e.x
 subs : ∀ h : Hp, p h → rdS 8 h e.x.subsV e.subs.length (e.subs.flatMap ptC)
 each : ∀ y ∈ e.subs, PtQ p y
theorem sum_mem {α : Type} {m : α → Nat} : ∀ {l : List α} {x : α}, x ∈ l → m x ≤ (l.map m).sum
 | y :: l, x, h => by
  rw [List.map_cons, List.sum_cons]
  rcases List.mem_cons.1 h with rfl | h
  ·omega
  ·have := sum_mem (m := m) h; omega
theorem sum_many {α : Type} {m : α → Nat} (hm : ∀ x, 1 ≤ m x) : ∀ l : List α, l.length ≤ (l.map m).sum
 | [] => by simp
 | y :: l => by have := sum_many hm l; have := hm y; rw [List.map_cons, List.sum_cons, List.length_cons]; omega
theorem fm_weigh {α : Type} {f : α → Bs} {m : α → Nat} : ∀ {l : List α}, (∀ x ∈ l, (f x).length ≤ 20 * m x) → (l.flatMap f).length ≤ 20 * (l.map m).sum
 | [], _ => by simp
 | y :: l, h => by
  have h1 := h y (List.mem_cons_self ..)
  have h2 := fm_weigh (l := l) (m := m) (f := f) (fun x hx => h x (List.mem_cons_of_mem _ hx))
  rw [List.flatMap_cons, List.length_append, List.map_cons, List.sum_cons]; omega
theorem cntB_len {n : Nat} (h : n < U64) : (cntB n).length ≤ 10 := sev_len10 h
theorem acB_weigh {a : Ac} (h : AcI a) : (acB a).length ≤ 20 * mAc a := by
 have h1 := numB_len h.n
 have h2 := cntB_len h.s
 unfold acB txtB mAc
 rw [List.length_append, List.length_append]; omega
theorem PtQ.i {p : HP} {y : Pt} (h : PtQ p y) (hm : mPt y ≤ 1048576) : PtI y := by
 unfold mPt at hm
 have hl := sum_many (m := mAc) (fun a => by unfold mAc; omega) y.acl
 have hu : (1048576 : Nat) < U64 := by decide
 refine ⟨h.kind, h.own, h.num, h.err, by omega, by omega, by omega, fun a ha => ⟨h.each a ha, ?_⟩⟩
 have h1 := sum_mem (m := mAc) ha
 have h2 : mAc a = 3 + a.2.length := rfl
 omega
theorem ptB_weigh {p : HP} {y : Pt} (h : PtQ p y) (hm : mPt y ≤ 1048576) : (ptB y).length ≤ 20 * mPt y := by
 have hi := h.i hm
 have h1 := numB_len h.kind
 have h2 := cntB_len hi.path
 have h3 := cntB_len hi.data
 have h4 := cntB_len hi.many
 have h5 := numB_len h.own
 have h6 := numB_len h.num
 have h7 := numB_len h.err
 have h8 := fm_weigh (f := acB) (m := mAc) (l := y.acl) (fun a ha => acB_weigh (hi.acl a ha))
 rw [ptB_len]
 unfold aclB mPt
 rw [List.length_append]
 simp only [List.flatMap_cons, List.flatMap_nil, List.length_append, List.length_nil]
 omega
theorem EnQ.X {p : HP} {e : En} (h : EnQ p e) (hm : mEn e ≤ 1048576) : EnX p e := by
 unfold mEn at hm
 have hx : mPt e.x ≤ 1048576 := by omega
 have hs : ∀ y ∈ e.subs, mPt y ≤ 1048576 := fun y hy => by have := sum_mem (m := mPt) hy; omega
 have hl := sum_many (m := mPt) (fun a => by unfold mPt; omega) e.subs
 have hu : (1048576 : Nat) < U64 := by decide
 have hal : ∀ y : Pt, mPt y ≤ 1048576 → y.acl.length ≤ 1048576 := fun y hy => by
  have := sum_many (m := mAc) (fun a => by unfold mAc; omega) y.acl
  unfold mPt at hy; omega
 have hc : ∀ y, PtQ p y → isCell y.aclV = true ∧ isCell y.subsV = true := fun y hy => by
  obtain ⟨a, n, c, g⟩ := hy.ash
  obtain ⟨a', n', c', g'⟩ := hy.ssh
  rw [g, g']; exact ⟨rfl, rfl⟩
 refine ⟨⟨⟨⟨h.zx, h.ses, h.xid, h.x.i hx, by omega, fun y hy => (h.each y hy).i (hs y hy)⟩, h.x.acl, h.subs, fun y hy => (h.each y hy).acl⟩, ?_, ⟨by omega, hal _ hx, fun y hy => hal y (hs y hy)⟩, hc _ h.x, fun y hy => hc y (h.each y hy)⟩, fun y hy => (h.each y hy).ssh⟩
 have h1 := numB_len h.zx
 have h2 := numB_len h.ses
 have h3 := numB_len h.xid
 have h4 := ptB_weigh h.x hx
 have h5 := fm_weigh (f := ptB) (m := mPt) (l := e.subs) (fun y hy => ptB_weigh (h.each y hy) (hs y hy))
 have h6 := cntB_len (n := e.subs.length) (by omega)
 rw [enB_len]
 unfold subsB
 rw [List.length_append]
 simp only [List.flatMap_cons, List.flatMap_nil, List.length_append, List.length_nil]
 omega
instance : Inhabited Pt := ⟨pt0⟩
instance : Inhabited En := ⟨en0⟩
theorem decAc {H : Type} {enc : TypeId × Value → H} {W : World} (n : Nat) (cs : List Value) (y : DataW H × List MemPlace) (h : Reads enc Tryz.prog W n 210 cs y) : ∃ a : Ac, cs = acC a ∧ I64 a.1 ∧ mAc a ≤ Rows.uptoBulk y.1 := by
 obtain ⟨xs, m, -, rfl, hlen, hxs, hf⟩ := DataW.trod_struct Tryz.underlying210 h
 rw [show Tryz.prog.cellsOf 210 = 2 by kernel_rfl] at hlen
 obtain ⟨a0, a1, rfl⟩ : ∃ a0 a1, cs = [a0, a1] := by
  match cs, hlen with
  | [a0, a1], _ => exact ⟨a0, a1, rfl⟩
 obtain ⟨y0, y1, rfl⟩ : ∃ y0 y1, xs = [y0, y1] := by
  match xs, hxs with
  | [y0, y1], _ => exact ⟨y0, y1, rfl⟩
 simp only [Rows.uptoBulk, Rows.uptoBulkAll, List.map_cons, List.map_nil]
 have g0 : Reads enc Tryz.prog W m 3 (([a0, a1] : List Value).drop 0 |>.take (Tryz.prog.cellsOf 3)) y0 := hf 0 _ rfl
 rw [show Tryz.prog.cellsOf 3 = 1 by kernel_rfl] at g0
 have p0 := bulk_pos y0.1
 obtain ⟨z0, e0, q0, r0⟩ := dec_intW Tryz.underlying3 g0
 try simp at e0
 have g1 : Reads enc Tryz.prog W m 9 (([a0, a1] : List Value).drop 1 |>.take (Tryz.prog.cellsOf 9)) y1 := hf 1 _ rfl
 rw [show Tryz.prog.cellsOf 9 = 1 by kernel_rfl] at g1
 have p1 := bulk_pos y1.1
 obtain ⟨z1, e1, r1⟩ := dec_strW Tryz.underlying9 g1
 try simp at e1
 subst e0
 subst e1
 exact ⟨(z0, z1), rfl, q0, by unfold mAc; dsimp only; omega⟩
theorem decPt {H : Type} {enc : TypeId × Value → H} {W : World} (n : Nat) (cs : List Value) (y : DataW H × List MemPlace) (h : Reads enc Tryz.prog W n 36 cs y) : ∃ y0 : Pt, cs = ptC y0 ∧ PtQ (Old W) y0 ∧ mPt y0 ≤ Rows.uptoBulk y.1 := by
 obtain ⟨xs, m, -, rfl, hlen, hxs, hf⟩ := DataW.trod_struct Tryz.underlying36 h
 rw [show Tryz.prog.cellsOf 36 = 8 by kernel_rfl] at hlen
 obtain ⟨a0, a1, a2, a3, a4, a5, a6, a7, rfl⟩ : ∃ a0 a1 a2 a3 a4 a5 a6 a7, cs = [a0, a1, a2, a3, a4, a5, a6, a7] := by
  match cs, hlen with
  | [a0, a1, a2, a3, a4, a5, a6, a7], _ => exact ⟨a0, a1, a2, a3, a4, a5, a6, a7, rfl⟩
 obtain ⟨y0, y1, y2, y3, y4, y5, y6, y7, rfl⟩ : ∃ y0 y1 y2 y3 y4 y5 y6 y7, xs = [y0, y1, y2, y3, y4, y5, y6, y7] := by
  match xs, hxs with
  | [y0, y1, y2, y3, y4, y5, y6, y7], _ => exact ⟨y0, y1, y2, y3, y4, y5, y6, y7, rfl⟩
 simp only [Rows.uptoBulk, Rows.uptoBulkAll, List.map_cons, List.map_nil]
 have g0 : Reads enc Tryz.prog W m 3 (([a0, a1, a2, a3, a4, a5, a6, a7] : List Value).drop 0 |>.take (Tryz.prog.cellsOf 3)) y0 := hf 0 _ rfl
 rw [show Tryz.prog.cellsOf 3 = 1 by kernel_rfl] at g0
 have p0 := bulk_pos y0.1
 obtain ⟨z0, e0, q0, r0⟩ := dec_intW Tryz.underlying3 g0
 try simp at e0
 have g1 : Reads enc Tryz.prog W m 9 (([a0, a1, a2, a3, a4, a5, a6, a7] : List Value).drop 1 |>.take (Tryz.prog.cellsOf 9)) y1 := hf 1 _ rfl
 rw [show Tryz.prog.cellsOf 9 = 1 by kernel_rfl] at g1
 have p1 := bulk_pos y1.1
 obtain ⟨z1, e1, r1⟩ := dec_strW Tryz.underlying9 g1
 try simp at e1
 have g2 : Reads enc Tryz.prog W m 9 (([a0, a1, a2, a3, a4, a5, a6, a7] : List Value).drop 2 |>.take (Tryz.prog.cellsOf 9)) y2 := hf 2 _ rfl
 rw [show Tryz.prog.cellsOf 9 = 1 by kernel_rfl] at g2
 have p2 := bulk_pos y2.1
 obtain ⟨z2, e2, r2⟩ := dec_strW Tryz.underlying9 g2
 try simp at e2
 have g3 : Reads enc Tryz.prog W m 33 (([a0, a1, a2, a3, a4, a5, a6, a7] : List Value).drop 3 |>.take (Tryz.prog.cellsOf 33)) y3 := hf 3 _ rfl
 rw [show Tryz.prog.cellsOf 33 = 1 by kernel_rfl] at g3
 have p3 := bulk_pos y3.1
 obtain ⟨⟨v3, l3⟩, e3, k3, q3, c3, r3⟩ := dec_sliceW acC (fun a => I64 a.1) mAc Tryz.underlying33 (show Tryz.prog.cellsOf 210 = 2 by kernel_rfl) (by decide) (fun n cs y h => decAc n cs y h) g3
 dsimp only at e3 k3 q3 c3 r3
 obtain ⟨sa3, sc3, hs3⟩ := rd_shape k3
 have sh3 : ∃ a n c, v3 = .slice a n c := ⟨_, _, _, hs3⟩
 try simp at e3
 have g4 : Reads enc Tryz.prog W m 3 (([a0, a1, a2, a3, a4, a5, a6, a7] : List Value).drop 4 |>.take (Tryz.prog.cellsOf 3)) y4 := hf 4 _ rfl
 rw [show Tryz.prog.cellsOf 3 = 1 by kernel_rfl] at g4
 have p4 := bulk_pos y4.1
 obtain ⟨z4, e4, q4, r4⟩ := dec_intW Tryz.underlying3 g4
 try simp at e4
 have g5 : Reads enc Tryz.prog W m 3 (([a0, a1, a2, a3, a4, a5, a6, a7] : List Value).drop 5 |>.take (Tryz.prog.cellsOf 3)) y5 := hf 5 _ rfl
 rw [show Tryz.prog.cellsOf 3 = 1 by kernel_rfl] at g5
 have p5 := bulk_pos y5.1
 obtain ⟨z5, e5, q5, r5⟩ := dec_intW Tryz.underlying3 g5
 try simp at e5
 have g6 : Reads enc Tryz.prog W m 25 (([a0, a1, a2, a3, a4, a5, a6, a7] : List Value).drop 6 |>.take (Tryz.prog.cellsOf 25)) y6 := hf 6 _ rfl
 rw [show Tryz.prog.cellsOf 25 = 1 by kernel_rfl] at g6
 have p6 := bulk_pos y6.1
 obtain ⟨z6, e6, q6, r6⟩ := dec_intW Tryz.underlying25 g6
 try simp at e6
 have g7 : Reads enc Tryz.prog W m 34 (([a0, a1, a2, a3, a4, a5, a6, a7] : List Value).drop 7 |>.take (Tryz.prog.cellsOf 34)) y7 := hf 7 _ rfl
 rw [show Tryz.prog.cellsOf 34 = 1 by kernel_rfl] at g7
 have p7 := bulk_pos y7.1
 obtain ⟨z7, e7, s7⟩ : ∃ z : Value, a7 = z ∧ ∃ a n c, z = .slice a n c := ⟨_, rfl, slice_shape Tryz.underlying34 g7⟩
 try simp at e7
 subst e0
 subst e1
 subst e2
 subst e3
 subst e4
 subst e5
 subst e6
 subst e7
 exact ⟨⟨z0, z1, z2, a3, l3, z4, z5, z6, a7⟩, rfl, ⟨q0, q4, q5, q6, k3, sh3, s7, q3⟩, by unfold mPt; dsimp only; omega⟩
theorem decPtD {H : Type} {enc : TypeId × Value → H} {W : World} (n : Nat) (cs : List Value) (y : DataW H × List MemPlace) (h : Reads enc Tryz.prog W n 36 cs y) : ∃ (y0 : Pt) (l : List Pt), cs = ptC y0 ∧ PtQ (Old W) y0 ∧ (∀ h : Hp, Old W h → rdS 8 h y0.subsV l.length (l.flatMap ptC)) ∧ (∀ q ∈ l, PtQ (Old W) q) ∧ mPt y0 + (l.map mPt).sum ≤ Rows.uptoBulk y.1 := by
 obtain ⟨xs, m, -, rfl, hlen, hxs, hf⟩ := DataW.trod_struct Tryz.underlying36 h
 rw [show Tryz.prog.cellsOf 36 = 8 by kernel_rfl] at hlen
 obtain ⟨a0, a1, a2, a3, a4, a5, a6, a7, rfl⟩ : ∃ a0 a1 a2 a3 a4 a5 a6 a7, cs = [a0, a1, a2, a3, a4, a5, a6, a7] := by
  match cs, hlen with
  | [a0, a1, a2, a3, a4, a5, a6, a7], _ => exact ⟨a0, a1, a2, a3, a4, a5, a6, a7, rfl⟩
 obtain ⟨y0, y1, y2, y3, y4, y5, y6, y7, rfl⟩ : ∃ y0 y1 y2 y3 y4 y5 y6 y7, xs = [y0, y1, y2, y3, y4, y5, y6, y7] := by
  match xs, hxs with
  | [y0, y1, y2, y3, y4, y5, y6, y7], _ => exact ⟨y0, y1, y2, y3, y4, y5, y6, y7, rfl⟩
 simp only [Rows.uptoBulk, Rows.uptoBulkAll, List.map_cons, List.map_nil]
 have g0 : Reads enc Tryz.prog W m 3 (([a0, a1, a2, a3, a4, a5, a6, a7] : List Value).drop 0 |>.take (Tryz.prog.cellsOf 3)) y0 := hf 0 _ rfl
 rw [show Tryz.prog.cellsOf 3 = 1 by kernel_rfl] at g0
 have p0 := bulk_pos y0.1
 obtain ⟨z0, e0, q0, r0⟩ := dec_intW Tryz.underlying3 g0
 try simp at e0
 have g1 : Reads enc Tryz.prog W m 9 (([a0, a1, a2, a3, a4, a5, a6, a7] : List Value).drop 1 |>.take (Tryz.prog.cellsOf 9)) y1 := hf 1 _ rfl
 rw [show Tryz.prog.cellsOf 9 = 1 by kernel_rfl] at g1
 have p1 := bulk_pos y1.1
 obtain ⟨z1, e1, r1⟩ := dec_strW Tryz.underlying9 g1
 try simp at e1
 have g2 : Reads enc Tryz.prog W m 9 (([a0, a1, a2, a3, a4, a5, a6, a7] : List Value).drop 2 |>.take (Tryz.prog.cellsOf 9)) y2 := hf 2 _ rfl
 rw [show Tryz.prog.cellsOf 9 = 1 by kernel_rfl] at g2
 have p2 := bulk_pos y2.1
 obtain ⟨z2, e2, r2⟩ := dec_strW Tryz.underlying9 g2
 try simp at e2
 have g3 : Reads enc Tryz.prog W m 33 (([a0, a1, a2, a3, a4, a5, a6, a7] : List Value).drop 3 |>.take (Tryz.prog.cellsOf 33)) y3 := hf 3 _ rfl
 rw [show Tryz.prog.cellsOf 33 = 1 by kernel_rfl] at g3
 have p3 := bulk_pos y3.1
 obtain ⟨⟨v3, l3⟩, e3, k3, q3, c3, r3⟩ := dec_sliceW acC (fun a => I64 a.1) mAc Tryz.underlying33 (show Tryz.prog.cellsOf 210 = 2 by kernel_rfl) (by decide) (fun n cs y h => decAc n cs y h) g3
 dsimp only at e3 k3 q3 c3 r3
 obtain ⟨sa3, sc3, hs3⟩ := rd_shape k3
 have sh3 : ∃ a n c, v3 = .slice a n c := ⟨_, _, _, hs3⟩
 try simp at e3
 have g4 : Reads enc Tryz.prog W m 3 (([a0, a1, a2, a3, a4, a5, a6, a7] : List Value).drop 4 |>.take (Tryz.prog.cellsOf 3)) y4 := hf 4 _ rfl
 rw [show Tryz.prog.cellsOf 3 = 1 by kernel_rfl] at g4
 have p4 := bulk_pos y4.1
 obtain ⟨z4, e4, q4, r4⟩ := dec_intW Tryz.underlying3 g4
 try simp at e4
 have g5 : Reads enc Tryz.prog W m 3 (([a0, a1, a2, a3, a4, a5, a6, a7] : List Value).drop 5 |>.take (Tryz.prog.cellsOf 3)) y5 := hf 5 _ rfl
 rw [show Tryz.prog.cellsOf 3 = 1 by kernel_rfl] at g5
 have p5 := bulk_pos y5.1
 obtain ⟨z5, e5, q5, r5⟩ := dec_intW Tryz.underlying3 g5
 try simp at e5
 have g6 : Reads enc Tryz.prog W m 25 (([a0, a1, a2, a3, a4, a5, a6, a7] : List Value).drop 6 |>.take (Tryz.prog.cellsOf 25)) y6 := hf 6 _ rfl
 rw [show Tryz.prog.cellsOf 25 = 1 by kernel_rfl] at g6
 have p6 := bulk_pos y6.1
 obtain ⟨z6, e6, q6, r6⟩ := dec_intW Tryz.underlying25 g6
 try simp at e6
 have g7 : Reads enc Tryz.prog W m 34 (([a0, a1, a2, a3, a4, a5, a6, a7] : List Value).drop 7 |>.take (Tryz.prog.cellsOf 34)) y7 := hf 7 _ rfl
 rw [show Tryz.prog.cellsOf 34 = 1 by kernel_rfl] at g7
 have p7 := bulk_pos y7.1
 obtain ⟨⟨v7, l7⟩, e7, k7, q7, c7, r7⟩ := dec_sliceW ptC (fun q => PtQ (Old W) q) mPt Tryz.underlying34 (show Tryz.prog.cellsOf 36 = 8 by kernel_rfl) (by decide) (fun n cs y h => decPt n cs y h) g7
 dsimp only at e7 k7 q7 c7 r7
 obtain ⟨sa7, sc7, hs7⟩ := rd_shape k7
 have sh7 : ∃ a n c, v7 = .slice a n c := ⟨_, _, _, hs7⟩
 try simp at e7
 subst e0
 subst e1
 subst e2
 subst e3
 subst e4
 subst e5
 subst e6
 subst e7
 exact ⟨⟨z0, z1, z2, a3, l3, z4, z5, z6, a7⟩, l7, rfl, ⟨q0, q4, q5, q6, k3, sh3, sh7, q3⟩, k7, q7, by unfold mPt; dsimp only; unfold mPt at r7; omega⟩
theorem decEn {H : Type} {enc : TypeId × Value → H} {W : World} (n : Nat) (cs : List Value) (y : DataW H × List MemPlace) (h : Reads enc Tryz.prog W n 38 cs y) : ∃ e : En, cs = enC e ∧ EnQ (Old W) e ∧ mEn e ≤ Rows.uptoBulk y.1 := by
 obtain ⟨xs, m, -, rfl, hlen, hxs, hf⟩ := DataW.trod_struct Tryz.underlying38 h
 rw [show Tryz.prog.cellsOf 38 = 11 by kernel_rfl] at hlen
 obtain ⟨a0, a1, a2, a3, a4, a5, a6, a7, a8, a9, a10, rfl⟩ : ∃ a0 a1 a2 a3 a4 a5 a6 a7 a8 a9 a10, cs = [a0, a1, a2, a3, a4, a5, a6, a7, a8, a9, a10] := by
  match cs, hlen with
  | [a0, a1, a2, a3, a4, a5, a6, a7, a8, a9, a10], _ => exact ⟨a0, a1, a2, a3, a4, a5, a6, a7, a8, a9, a10, rfl⟩
 obtain ⟨y0, y1, y2, y3, rfl⟩ : ∃ y0 y1 y2 y3, xs = [y0, y1, y2, y3] := by
  match xs, hxs with
  | [y0, y1, y2, y3], _ => exact ⟨y0, y1, y2, y3, rfl⟩
 simp only [Rows.uptoBulk, Rows.uptoBulkAll, List.map_cons, List.map_nil]
 have g0 : Reads enc Tryz.prog W m 3 (([a0, a1, a2, a3, a4, a5, a6, a7, a8, a9, a10] : List Value).drop 0 |>.take (Tryz.prog.cellsOf 3)) y0 := hf 0 _ rfl
 rw [show Tryz.prog.cellsOf 3 = 1 by kernel_rfl] at g0
 have p0 := bulk_pos y0.1
 obtain ⟨z0, e0, q0, r0⟩ := dec_intW Tryz.underlying3 g0
 try simp at e0
 have g1 : Reads enc Tryz.prog W m 3 (([a0, a1, a2, a3, a4, a5, a6, a7, a8, a9, a10] : List Value).drop 1 |>.take (Tryz.prog.cellsOf 3)) y1 := hf 1 _ rfl
 rw [show Tryz.prog.cellsOf 3 = 1 by kernel_rfl] at g1
 have p1 := bulk_pos y1.1
 obtain ⟨z1, e1, q1, r1⟩ := dec_intW Tryz.underlying3 g1
 try simp at e1
 have g2 : Reads enc Tryz.prog W m 3 (([a0, a1, a2, a3, a4, a5, a6, a7, a8, a9, a10] : List Value).drop 2 |>.take (Tryz.prog.cellsOf 3)) y2 := hf 2 _ rfl
 rw [show Tryz.prog.cellsOf 3 = 1 by kernel_rfl] at g2
 have p2 := bulk_pos y2.1
 obtain ⟨z2, e2, q2, r2⟩ := dec_intW Tryz.underlying3 g2
 try simp at e2
 have g3 : Reads enc Tryz.prog W m 36 (([a0, a1, a2, a3, a4, a5, a6, a7, a8, a9, a10] : List Value).drop 3 |>.take (Tryz.prog.cellsOf 36)) y3 := hf 3 _ rfl
 rw [show Tryz.prog.cellsOf 36 = 8 by kernel_rfl] at g3
 have p3 := bulk_pos y3.1
 obtain ⟨z3, l3, e3, q3, k3, s3, r3⟩ := decPtD _ _ _ g3
 try simp [ptC, enC] at e3
 subst e0
 subst e1
 subst e2
 obtain ⟨rfl, rfl, rfl, rfl, rfl, rfl, rfl, rfl⟩ := e3
 exact ⟨⟨z0, z1, z2, z3, l3⟩, rfl, ⟨q0, q1, q2, q3, k3, s3⟩, by unfold mEn; dsimp only; omega⟩
/-! ### Numbers from 1 -/
open Go Go.ChangeShapes Go.WideShapes Go.ChangeAt Go.RowKit
theorem fm_ints (l : List Int) : (l.flatMap fun z => [vint z]) = ints l := by
 induction l with
 | nil => rfl
 | cons z l ih => rw [List.flatMap_cons, ih]; rfl
instance : Inhabited Op9 := ⟨⟨0, 0, 0, en0, nilV, [], [], nilV, []⟩⟩
theorem decOp {H : Type} {enc : TypeId × Value → H} {W : World} (n : Nat) (cs : List Value) (y : DataW H × List MemPlace) (h : Reads enc Tryz.prog W n 73 cs y) : ∃ o : Op9, cs = op9C o ∧ (Rows.uptoBulk y.1 ≤ 1048576 → Op9A (Old W) o) := by
 obtain ⟨xs, m, -, rfl, hlen, hxs, hf⟩ := DataW.trod_struct Tryz.underlying73 h
 rw [show Tryz.prog.cellsOf 73 = 17 by kernel_rfl] at hlen
 obtain ⟨a0, a1, a2, a3, a4, a5, a6, a7, a8, a9, a10, a11, a12, a13, a14, a15, a16, rfl⟩ : ∃ a0 a1 a2 a3 a4 a5 a6 a7 a8 a9 a10 a11 a12 a13 a14 a15 a16, cs = [a0, a1, a2, a3, a4, a5, a6, a7, a8, a9, a10, a11, a12, a13, a14, a15, a16] := by
  match cs, hlen with
  | [a0, a1, a2, a3, a4, a5, a6, a7, a8, a9, a10, a11, a12, a13, a14, a15, a16], _ => exact ⟨a0, a1, a2, a3, a4, a5, a6, a7, a8, a9, a10, a11, a12, a13, a14, a15, a16, rfl⟩
 obtain ⟨y0, y1, y2, y3, y4, y5, y6, rfl⟩ : ∃ y0 y1 y2 y3 y4 y5 y6, xs = [y0, y1, y2, y3, y4, y5, y6] := by
  match xs, hxs with
  | [y0, y1, y2, y3, y4, y5, y6], _ => exact ⟨y0, y1, y2, y3, y4, y5, y6, rfl⟩
 simp only [Rows.uptoBulk, Rows.uptoBulkAll, List.map_cons, List.map_nil]
 have g0 : Reads enc Tryz.prog W m 3 (([a0, a1, a2, a3, a4, a5, a6, a7, a8, a9, a10, a11, a12, a13, a14, a15, a16] : List Value).drop 0 |>.take (Tryz.prog.cellsOf 3)) y0 := hf 0 _ rfl
 rw [show Tryz.prog.cellsOf 3 = 1 by kernel_rfl] at g0
 have p0 := bulk_pos y0.1
 obtain ⟨z0, e0, q0, r0⟩ := dec_intW Tryz.underlying3 g0
 try simp at e0
 have g1 : Reads enc Tryz.prog W m 3 (([a0, a1, a2, a3, a4, a5, a6, a7, a8, a9, a10, a11, a12, a13, a14, a15, a16] : List Value).drop 1 |>.take (Tryz.prog.cellsOf 3)) y1 := hf 1 _ rfl
 rw [show Tryz.prog.cellsOf 3 = 1 by kernel_rfl] at g1
 have p1 := bulk_pos y1.1
 obtain ⟨z1, e1, q1, r1⟩ := dec_intW Tryz.underlying3 g1
 try simp at e1
 have g2 : Reads enc Tryz.prog W m 3 (([a0, a1, a2, a3, a4, a5, a6, a7, a8, a9, a10, a11, a12, a13, a14, a15, a16] : List Value).drop 2 |>.take (Tryz.prog.cellsOf 3)) y2 := hf 2 _ rfl
 rw [show Tryz.prog.cellsOf 3 = 1 by kernel_rfl] at g2
 have p2 := bulk_pos y2.1
 obtain ⟨z2, e2, q2, r2⟩ := dec_intW Tryz.underlying3 g2
 try simp at e2
 have g3 : Reads enc Tryz.prog W m 38 (([a0, a1, a2, a3, a4, a5, a6, a7, a8, a9, a10, a11, a12, a13, a14, a15, a16] : List Value).drop 3 |>.take (Tryz.prog.cellsOf 38)) y3 := hf 3 _ rfl
 rw [show Tryz.prog.cellsOf 38 = 11 by kernel_rfl] at g3
 have p3 := bulk_pos y3.1
 obtain ⟨z3, e3, q3, r3⟩ := decEn _ _ _ g3
 try simp [ptC, enC] at e3
 have g4 : Reads enc Tryz.prog W m 22 (([a0, a1, a2, a3, a4, a5, a6, a7, a8, a9, a10, a11, a12, a13, a14, a15, a16] : List Value).drop 14 |>.take (Tryz.prog.cellsOf 22)) y4 := hf 4 _ rfl
 rw [show Tryz.prog.cellsOf 22 = 1 by kernel_rfl] at g4
 have p4 := bulk_pos y4.1
 obtain ⟨⟨v4, l4⟩, e4, k4, q4, c4, r4⟩ := dec_sliceW enC (fun e => EnQ (Old W) e) mEn Tryz.underlying22 (show Tryz.prog.cellsOf 38 = 11 by kernel_rfl) (by decide) (fun n cs y h => decEn n cs y h) g4
 dsimp only at e4 k4 q4 c4 r4
 have ck4 : isCell v4 = true := by obtain ⟨sa, sc, hs⟩ := rd_shape k4; rw [hs]; rfl
 try simp at e4
 have g5 : Reads enc Tryz.prog W m 9 (([a0, a1, a2, a3, a4, a5, a6, a7, a8, a9, a10, a11, a12, a13, a14, a15, a16] : List Value).drop 15 |>.take (Tryz.prog.cellsOf 9)) y5 := hf 5 _ rfl
 rw [show Tryz.prog.cellsOf 9 = 1 by kernel_rfl] at g5
 have p5 := bulk_pos y5.1
 obtain ⟨z5, e5, r5⟩ := dec_strW Tryz.underlying9 g5
 try simp at e5
 have g6 : Reads enc Tryz.prog W m 31 (([a0, a1, a2, a3, a4, a5, a6, a7, a8, a9, a10, a11, a12, a13, a14, a15, a16] : List Value).drop 16 |>.take (Tryz.prog.cellsOf 31)) y6 := hf 6 _ rfl
 rw [show Tryz.prog.cellsOf 31 = 1 by kernel_rfl] at g6
 have p6 := bulk_pos y6.1
 obtain ⟨⟨v6, l6⟩, e6, k6, q6, c6, r6⟩ := dec_sliceW (fun z => [vint z]) (fun z => I64 z) (fun _ => 1) Tryz.underlying31 (show Tryz.prog.cellsOf 3 = 1 by kernel_rfl) (by decide) (fun n cs y h => dec_intW Tryz.underlying3 h) g6
 dsimp only at e6 k6 q6 c6 r6
 have ck6 : isCell v6 = true := by obtain ⟨sa, sc, hs⟩ := rd_shape k6; rw [hs]; rfl
 try simp at e6
 subst e0
 subst e1
 subst e2
 obtain ⟨rfl, rfl, rfl, rfl, rfl, rfl, rfl, rfl, rfl, rfl, rfl⟩ := e3
 subst e4
 subst e5
 subst e6
 exact ⟨⟨z0, z1, z2, z3, a14, l4, z5, a16, l6⟩, rfl, fun hb => ⟨q0, q1, q2, q3.X (by omega), k4, by dsimp only; omega, fun e he => (q4 e he).X (by have := sum_mem (m := mEn) (l := l4) he; omega), by dsimp only; omega, fun h hp => by rw [← fm_ints]; exact k6 h hp, q6, ck4, ck6⟩⟩
theorem sum_at {l : List Nat} {i : Nat} (h : i < l.length) : l[i] ≤ l.sum := by
 have := sum_mem (m := id) (l := l) (List.getElem_mem h)
 simpa using this
theorem dec_ops9 {H : Type} {enc : TypeId × Value → H} {W : World} {fuel : Nat} {cs : List Value} {x : DataW H × List MemPlace} (h : Reads enc Tryz.prog W fuel 71 cs x) (hb : Rows.uptoBulk x.1 ≤ 1048576) : ∃ (v : Value) (xs : List Op9), cs = [v] ∧ Ops9 (Old W) v xs := by
 obtain ⟨⟨v, xs⟩, ws, h1, h2, h3, h4, h5, -, h7⟩ := dec_sliceQV (N := 1048576) op9C (fun B o => B ≤ 1048576 → Op9A (Old W) o) Tryz.underlying71 (show Tryz.prog.cellsOf 73 = 17 by kernel_rfl) (by decide) (fun n cs y h => decOp n cs y h) h (by omega)
 dsimp only at h1 h2 h3 h4 h7
 refine ⟨v, xs, h1, h2, h3, fun o ho => ?_⟩
 obtain ⟨i, hi, rfl⟩ := List.mem_iff_getElem.1 ho
 have hw : i < ws.length := by omega
 exact h7 i hi hw (Nat.le_trans (sum_at hw) h5)
end Go.Proofs.YtidjhgbdokcphaaGreat
namespace Go.Proofs.YtidjhgbdokcphaaGreat.ledgerPlays
open Go Go.ChangeShapes Go.WideShapes Go.ChangeAt Go.RowKit
theorem own : ownKnob Tryz.prog.godebug = none := by kernel_rfl
theorem laid : laidOutB Tryz.prog = true := by kernel_rfl
theorem readable : ∀ t ∈ Tryz.f9.params.toList, Tryz.prog.readableRec t = true ∧ t < Tryz.prog.types.size := by
 have h : (Tryz.f9.params.toList.all fun t => Tryz.prog.readableRec t && decide (t < Tryz.prog.types.size)) = true := by kernel_rfl
 intro t ht
 simpa using List.all_eq_true.1 h t ht
theorem contract (H : Type) (enc : TypeId × Value → H) (W : World) (base : Nat) (args : Array Value) (ds gs : List (DataW H)) (before : List MemPlace)
  (hval : ∀ (j : Nat) t v, Tryz.f9.params[j]? = some t → args[j]? = some v → Value.okWide Tryz.prog W .any base t v)
  (hW : DataW.Whole enc Tryz.prog Tryz.f9.params.toList Rows.ledgerPlaysSpec.vars false W args.toList ds gs before) (hk : Rows.uptoSmall H (ds ++ gs) = true) :
  Calls Tryz.prog 9 args W fun e W' => ∃ v, e = .returned v ∧ Rows.ledgerPlaysSpec.post enc Tryz.prog Tryz.f9 false true false false W args v W' := by
 have hW' := hW
 obtain ⟨p, q, hA, hV, rfl, hfz, hnd⟩ := hW
 obtain ⟨rfl, -⟩ := trodVars_none hV
 rw [List.append_nil] at hk
 have hpar : Tryz.f9.params = #[3, 71] := Tryz.params9
 rw [hpar] at hval
 have hA' := hA
 rw [hpar] at hA'
 obtain ⟨v0, vs0, d0, ds0, p0, r0, ha0, rfl, rfl, h0, t0⟩ := trodAll_cons hA'
 obtain ⟨v1, vs1, d1, ds1, p1, r1, ha1, rfl, rfl, h1, t1⟩ := trodAll_cons t0
 obtain ⟨hv, rfl, rfl⟩ := trodAll_nil t1
 obtain rfl : args = #[v0, v1] := by
  have e : args.toList = [v0, v1] := by rw [ha0, ha1, hv]
  cases args; simp_all
 have b0 := bulk_small hk (d := d0) (by simp)
 obtain ⟨n0, rfl, -, q0⟩ := arg_int Tryz.underlying3 (hval 0 _ _ rfl rfl) h0
 have b1 := bulk_small hk (d := d1) (by simp)
 obtain ⟨ad1, nn1, cp1, rfl⟩ := okWide_slice Tryz.underlying71 (hval 1 _ _ rfl rfl)
 obtain ⟨fu1, g1⟩ := h1
 obtain ⟨v1, xs1, e1, q1⟩ := dec_ops9 g1 b1
 simp [Value.cells] at e1
 subst e1
 refine (old_calls (ledgerPlays_spec n0 _ xs1 (Old W) q0 q1)).mono fun e W' ⟨he, hb⟩ => ⟨_, he, ?_⟩
 exact settled hW' rfl (fun gs' h => by subst h; rfl) rfl Tryz.underlying4 laid readable hb
theorem lifted (os : Os) (started : os.Started) (H : Type) (enc : TypeId × Value → H) (F : Stop.Interp) :
  ReturnsInHanded {} Tryz.checked os 9 .any ((Rows.OpenSpec.upto Rows.ledgerPlaysSpec).pre6 enc Tryz.prog Tryz.f9 Rows.ledgerPlaysUptoRow.domain false) (((Rows.OpenSpec.upto Rows.ledgerPlaysSpec).at F).post enc Tryz.prog Tryz.f9 false true false false) := by
 refine returnsInHanded_of_cond (C := Tryz.checked) (s := Rows.OpenSpec.upto Rows.ledgerPlaysSpec) (k := Rows.uptoSmall) rfl own started (by kernel_rfl) Tryz.func9
  (OpenSpec.witness (enc := enc) (C := Tryz.checked) (s := Rows.OpenSpec.upto Rows.ledgerPlaysSpec) (k := Rows.uptoSmall) rfl false ⟨#[], #[.int .i64 0, .slice none 0 0], []⟩ 8 (by kernel_rfl) (by kernel_rfl) (by kernel_rfl)
   (x := ([.lit (.int .i64 0), .nil], [], [])) (by kernel_rfl) rfl (by kernel_rfl)) ?_
 intro W base args ds gs before hval hW _ hk _
 exact contract H enc W base args ds gs before hval hW hk
theorem proved : Rows.LedgerPlaysUptoSaid :=
 OpenClaim.holds_of_cond 9 Tryz.f9 rfl rfl rfl rfl rfl rfl rfl ⟨rfl, rfl, rfl, rfl, rfl⟩ rfl rfl rfl rfl rfl (by kernel_rfl) Tryz.func9 (by kernel_rfl)
  (of_decide_eq_true (by kernel_rfl)) (by unfold Func.isWrapper; first | (rw [if_pos (by decide +kernel)]; kernel_rfl) | (rw [if_neg (by decide +kernel)]; exact ⟨rfl, rfl⟩))
  (fun os started H enc _ F => lifted os started H enc F)
end Go.Proofs.YtidjhgbdokcphaaGreat.ledgerPlays
