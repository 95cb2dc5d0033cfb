/- Own work, some of it printed by program, texts that were built one by one and are laid one behind the other here: the document's writer: walked. | the document's reader: walked. | the document's reader of entries: walked. | a log on a disk that is armed: what dies, and what a crash leaves. | the calls of a log on a disk that may die: what they leave. | a ledger on a disk that may die: plain. | a ledger on a disk that may die: what its calls do, and what lies behind a crash: plain. | three operations that are ready in a region that draws its order. | package ledger: Cut, Install, Compact: walked. | parts of slices; a ledger that is being made. | package ledger: renew, Compact, Install: walked. | scripts of law 09: plain. | LedgerMarks: walked. | a formatted ledger, and what opens behind a crash: plain. | what a ledger tells, in memory: plain. | the document's ledger in memory. | the document's ledger: records, Format, Open: walked. | the document's ledger: Format, read, Open: walked. | the document's marks of epochs: plain. | the document's ledger: Open, Entries, Marks: walked. | OverEntry: walked. | pick, text, does; LedgerEpochs: walked. | same, told, equal: walked. | what both ledgers tell of their entries. | whatever lies on a disk, what opens as a ledger is a well-formed one: plain. | what is asked of both ledgers: walked. -/
import Derived.Test.YtidjhgbdokcphaaGreatCLOpensP3
import Derived.Test.YtidjhgbdokcphaaGreatCLOpensP2
import Derived.Test.YtidjhgbdokcphaaGreatCLOpensP1
import Derived.Test.YtidjhgbdokcphaaGreatCLOpensP0
set_option linter.unusedSimpArgs false
set_option linter.unusedVariables false
set_option maxRecDepth 100000
/- Own work, by program: the document's writer: walked. -/

namespace Go.Proofs.YtidjhgbdokcphaaGreat
open Go
theorem r1zig_spec (n : Int) (hn : I64 n) : Fn Tryz.prog 196 #[vint n] [] fun v L => v = .int .u64 (zigZ n : Nat) ∧ L = [] := by
 refine Fn.intro (vs := [vint n]) Tryz.func196 rfl rfl ?_
 intro F W
 refine G.seq (G.region (G.ag rfl rfl (G.nil (G.then_n (G.seq (G.seq (G.region (G.mv rfl rfl (G.q (Quiet.int rfl rfl rfl) rfl (G.nil (G.then_n ?_)))))))))))
 refine G.condD rfl (fun h4 => ?_) (fun h4 => ?_)
 ·refine G.seq (G.region (G.mv rfl rfl (G.q (Quiet.conv rfl Tryz.underlying3 Tryz.underlying190) rfl ?_)))
  refine G.q (Quiet.as (v' := .int .u64 (zigZ n : Nat)) (by exact congrArg (Value.int .u64) (by rw [u64wrap, u64wrap]; unfold zigZ; rw [if_pos (by omega)]; omega)) (Quiet.int rfl rfl rfl)) rfl ?_
  refine G.ag rfl rfl (G.nil (G.then_n (G.ret (G.then_r ?_))))
  exact G.dn (l := [.tmp 2]) rfl rfl ⟨rfl, rfl⟩
 ·refine G.skip (G.then_n (G.seq (G.region (G.mv rfl rfl ?_))))
  refine G.q (Quiet.add rfl rfl (by omega)) rfl ?_
  refine G.q (Quiet.neg rfl (by omega)) rfl ?_
  refine G.q (Quiet.conv rfl Tryz.underlying3 Tryz.underlying190) rfl (G.q (Quiet.int rfl rfl rfl) rfl ?_)
  refine G.q (Quiet.as (v' := .int .u64 (zigZ n : Nat)) (by exact congrArg (Value.int .u64) (by rw [u64wrap, u64wrap, u64wrap]; unfold zigZ; rw [if_neg (by omega)]; omega)) (Quiet.int rfl rfl rfl)) rfl ?_
  refine G.ag rfl rfl (G.nil (G.then_n (G.ret ?_)))
  exact G.dn (l := [.tmp 2]) rfl rfl ⟨rfl, rfl⟩

theorem sev_step' {u : Nat} (h : 128 ≤ u) (bs : Bs) : bs ++ [UInt8.ofNat (u % 128 + 128)] ++ sevZ (u / 128) = bs ++ sevZ u := by
  rw [sevZ.eq_1 u, if_neg (by omega), List.append_assoc]; rfl
theorem sev_last' {u : Nat} (h : ¬ 128 ≤ u) : [UInt8.ofNat u] = sevZ u := by
  rw [sevZ.eq_1 u, if_pos (by omega)]
theorem u8_of {u : Nat} (h : u < 256) : Value.int .u8 (IntKind.u8.wrap (u : Int)) = vbyte (UInt8.ofNat u) := by
  have e : IntKind.u8.wrap (u : Int) = (u : Int) := by simp [IntKind.wrap, IntKind.bits, IntKind.signed]; omega
  rw [e]; show Value.int .u8 (u : Int) = .int .u8 ((UInt8.ofNat u).toNat : Int)
  rw [u8_ofNat h]
theorem r1sev_spec (u0 : Nat) (hu : u0 < U64) : Fn Tryz.prog 195 #[.int .u64 u0] [] fun v L => v = vstr (sevZ u0) ∧ L = [] := by
 refine Fn.intro (vs := [.int .u64 u0]) Tryz.func195 rfl rfl ?_
 intro F W
 have hs10 := sev_len10 hu
 have h64 : U64 = 18446744073709551616 := rfl
 refine G.seq (G.region (G.ag rfl rfl (G.nil (G.then_n (G.seq (G.add (slR_nil 5 1) (G.region (G.ag rfl rfl (G.nil (G.then_n (G.seq (G.block ?_))))))))))))
 refine G.loopK (ι := Nat × Value × Bs) (fun q E => (0, .int .u64 q.1) :: (3, q.2.1) :: E) (fun q => [bytR q.2.1 q.2.2]) (fun q => q.1 ≤ u0 ∧ (∃ a c, q.2.1 = .slice a q.2.2.length c) ∧ q.2.2 ++ sevZ q.1 = sevZ u0) (fun q => q.1) (u0, .slice none 0 0, []) (ts := [2]) (.cons rfl (.nil)) (⟨Nat.le_refl _, ⟨none, 0, rfl⟩, rfl⟩) ⟨rfl, rfl, rfl, trivial⟩ (by (repeat' constructor)) ?_
 rintro ⟨u, v, b⟩ ⟨hu0, ⟨av, cv, hv⟩, heq⟩
 dsimp only
 dsimp only at hu0 hv heq
 subst hv
 have hbl := congrArg List.length heq
 rw [List.length_append] at hbl
 have hsl := sev_len u
 refine G.seq (G.seq (G.region (G.mv rfl rfl (G.q (Quiet.int rfl rfl rfl) rfl (G.nil (G.then_n ?_))))))
 refine G.condD rfl (fun h5 => ?_) (fun h5 => ?_)
 ·refine G.skip (G.then_n (G.block (G.seq (G.region (G.mv rfl rfl (G.mv rfl rfl ?_))))))
  refine G.q (Quiet.to (v' := .int .u64 ((u % 128 : Nat) : Int)) (Quiet.remU rfl rfl (by omega) (by decide)) (by rfl)) rfl ?_
  refine G.q (Quiet.int rfl rfl rfl) rfl ?_
  refine G.q (Quiet.as (v' := vbyte (UInt8.ofNat (u % 128 + 128))) (by rw [u64wrap, show (((u % 128 : Nat) : Int) + 128) % 18446744073709551616 = ((u % 128 + 128 : Nat) : Int) by omega]; exact u8_of (by omega)) (Quiet.conv rfl Tryz.underlying190 Tryz.underlying5)) rfl ?_
  refine G.oq (OpSpec.buildSlice1 (vs := [_]) el_125 ze_5 rfl rfl rfl rfl rfl (by decide)) ?nx10
  rintro v L' ⟨b3, rfl, rfl⟩
  refine G.oq (OpSpec.append1 rfl rfl rfl el_125 ze_5 rfl rfl ?c12 ?c13 (Nat.le_refl _) ?c14 (by decide)) ?nx15
  case c12 => (first | (simp [isCell]; done) | (simp [isCell, setAll, Value.cells]; done))
  case c13 => rfl
  case c14 => omega
  rintro v L' ⟨⟨a3, c3, rfl⟩, rfl⟩
  refine G.ag rfl rfl (G.nil (G.then_n (G.region (G.mv rfl rfl ?_))))
  refine G.q (Quiet.to (v' := .int .u64 ((u / 128 : Nat) : Int)) (Quiet.quoU rfl rfl (by omega) (by decide)) (by rfl)) rfl ?_
  refine G.ag rfl rfl (G.nil (G.blk_n (G.then_n ?_)))
  refine G.slCast (T := 5) (sz := 1) (m' := (b ++ [(UInt8.ofNat (u % 128 + 128))]).length) (xs' := bysL (b ++ [(UInt8.ofNat (u % 128 + 128))])) (by (repeat' constructor)) (by simp) (by simp [bysL, Value.cells]) ?_
  exact G.roundK ((u / 128, .slice a3 (b.length + 1) c3, b ++ [(UInt8.ofNat (u % 128 + 128))])) (⟨by dsimp only; omega, ⟨a3, c3, by simp⟩, by dsimp only; rw [sev_step' (by omega)]; exact heq⟩) (by dsimp only; omega) ⟨rfl, rfl, rfl, trivial⟩ (by (repeat' constructor)) (by ((repeat (apply Have.cons; (repeat (first | exact Pick.here | apply Pick.there)))); apply Have.base; repeat' constructor))
 ·refine G.exit (G.then_e (G.then_e (G.blk_e (G.then_n (G.seq (G.region (G.mv rfl rfl (G.mv rfl rfl ?_))))))))
  refine G.q (Quiet.as (v' := vbyte (UInt8.ofNat u)) (by exact u8_of (by omega)) (Quiet.conv rfl Tryz.underlying190 Tryz.underlying5)) rfl ?_
  refine G.oq (OpSpec.buildSlice1 (vs := [_]) el_125 ze_5 rfl rfl rfl rfl rfl (by decide)) ?nx22
  rintro v L' ⟨b5, rfl, rfl⟩
  refine G.oq (OpSpec.append1 rfl rfl rfl el_125 ze_5 rfl rfl ?c24 ?c25 (Nat.le_refl _) ?c26 (by decide)) ?nx27
  case c24 => (first | (simp [isCell]; done) | (simp [isCell, setAll, Value.cells]; done))
  case c25 => rfl
  case c26 => omega
  rintro v L' ⟨⟨a5, c5, rfl⟩, rfl⟩
  refine G.ag rfl rfl (G.nil (G.then_n (G.seq ?_)))
  refine G.slCast (T := 5) (sz := 1) (m' := (b ++ [(UInt8.ofNat u)]).length) (xs' := bysL (b ++ [(UInt8.ofNat u)])) (by (repeat' constructor)) (by simp) (by simp [bysL, Value.cells]) ?_
  have hfin : b ++ [(UInt8.ofNat u)] = sevZ u0 := by rw [sev_last' (by omega)]; exact heq
  refine G.region (G.mv rfl rfl ?_)
  refine G.q (Quiet.bytesBy (cs := b ++ [(UInt8.ofNat u)]) (n := b.length + 1) (p := slR 5 1 (.slice a5 (b.length + 1) c5) (b ++ [(UInt8.ofNat u)]).length (bysL (b ++ [(UInt8.ofNat u)]))) rfl Tryz.underlying125 Tryz.underlying5 Tryz.underlying9 (fun h hp => by rw [show b.length + 1 = (b ++ [(UInt8.ofNat u)]).length by simp] at hp ⊢; exact slR_rd hp) (by (repeat' constructor))) rfl ?_
  refine G.ag rfl rfl (G.nil (G.then_n (G.ret ?_)))
  rw [hfin]
  exact G.dn (l := [.tmp 2]) rfl rfl ⟨rfl, rfl⟩

theorem r1num_spec (n : Int) (hn : I64 n) : Fn Tryz.prog 165 #[vint n] [] fun v L => v = vstr (numB n) ∧ L = [] := by
 refine Fn.intro (vs := [vint n]) Tryz.func165 rfl rfl ?_
 intro F W
 refine G.seq (G.region (G.ag rfl rfl (G.nil (G.then_n (G.seq (G.region (G.mv rfl rfl ?_)))))))
 refine G.oq (OpSpec.call Tryz.func196 rfl rfl (vs := [_]) rfl (r1zig_spec n hn)) ?nx3
 rintro v L' ⟨rfl, rfl⟩
 refine G.oq (OpSpec.call Tryz.func195 rfl rfl (vs := [_]) rfl (r1sev_spec (zigZ n) (zig_lt hn))) ?nx5
 rintro v L' ⟨rfl, rfl⟩
 refine G.ag rfl rfl (G.nil (G.then_n (G.ret ?_)))
 exact G.dn (l := [.tmp 2]) rfl rfl ⟨rfl, rfl⟩

theorem r1cnt_spec (n : Nat) (hn : n ≤ 4294967296) : Fn Tryz.prog 166 #[vint n] [] fun v L => v = vstr (cntB n) ∧ L = [] := by
 refine Fn.intro (vs := [vint n]) Tryz.func166 rfl rfl ?_
 intro F W
 have hz : n < U64 := by unfold U64; omega
 refine G.seq (G.region (G.ag rfl rfl (G.nil (G.then_n (G.seq (G.region (G.mv rfl rfl (G.q (Quiet.max2 rfl rfl) rfl ?_))))))))
 refine G.q (Quiet.as (v' := .int .u64 (n : Nat)) (by exact congrArg (Value.int .u64) (by rw [u64wrap]; omega)) (Quiet.conv rfl Tryz.underlying3 Tryz.underlying190)) rfl ?_
 refine G.oq (OpSpec.call Tryz.func195 rfl rfl (vs := [_]) rfl (r1sev_spec n hz)) ?nx5
 rintro v L' ⟨rfl, rfl⟩
 refine G.ag rfl rfl (G.nil (G.then_n (G.ret ?_)))
 exact G.dn (l := [.tmp 2]) rfl rfl ⟨rfl, rfl⟩

theorem r1txt_spec (s : Bs) (hs : s.length ≤ 4294900000) : Fn Tryz.prog 205 #[vstr s] [] fun v L => v = vstr (txtB s) ∧ L = [] := by
 refine Fn.intro (vs := [vstr s]) Tryz.func205 rfl rfl ?_
 intro F W
 have hc : (cntB s.length).length ≤ 10 := sev_len10 (by unfold U64; omega)
 refine G.seq (G.region (G.ag rfl rfl (G.nil (G.then_n (G.seq (G.region (G.mv rfl rfl (G.q (Quiet.strlen rfl Tryz.underlying9 rfl) rfl ?_))))))))
 refine G.oq (OpSpec.call Tryz.func166 rfl rfl (vs := [_]) rfl (r1cnt_spec s.length (by omega))) ?nx4
 rintro v L' ⟨rfl, rfl⟩
 refine G.mv rfl rfl ?_
 refine G.q (Quiet.concat rfl rfl (by omega)) rfl ?_
 refine G.ag rfl rfl (G.nil (G.then_n (G.ret ?_)))
 exact G.dn (l := [.tmp 2]) rfl rfl ⟨rfl, rfl⟩

theorem r2nums_spec (va : Value) (ns : List Int) (p : HP) (hp : ∀ h : Hp, p h → rdS 1 h va ns.length (ints ns)) (hi : ∀ n ∈ ns, I64 n) (hl : ns.length ≤ 1048576) : Fn Tryz.prog 137 #[va] [p] fun v L => v = vstr (ns.flatMap numB) ∧ L = [p] := by
 refine Fn.intro (vs := [va]) Tryz.func137 rfl rfl ?_
 intro F W
 have hnl := nums_len hi
 refine G.rdAny (p := p) hp (by (repeat' constructor)) fun aa ca e _ => ?_
 subst e
 refine G.seq (G.region (G.ag rfl rfl (G.nil (G.then_n (G.seq (G.region (G.ag rfl rfl (G.nil (G.then_n (G.seq (G.seq (G.region (G.ag rfl rfl (G.nil (G.then_n (G.block ?_))))))))))))))))
 refine G.loopK (ι := Nat × Bs) (fun q E => (4, vint q.1) :: (3, vstr q.2) :: E) (fun q => []) (fun q => q.1 ≤ ns.length ∧ q.2 = (ns.take q.1).flatMap numB) (fun q => ns.length - q.1) (0, []) (ts := [0, 2]) (.cons rfl (.cons rfl (.nil))) (⟨Nat.zero_le _, rfl⟩) ⟨rfl, rfl, rfl, rfl, trivial⟩ (by (repeat' constructor)) ?_
 rintro ⟨i, t⟩ ⟨hj, ht⟩
 dsimp only
 dsimp only at hj ht
 have hft := fm_take numB ns i
 rw [← ht] at hft
 refine G.seq (G.seq (G.region (G.mv rfl rfl (G.mv rfl rfl (G.q (Quiet.slen rfl Tryz.underlying31 rfl) rfl (G.q (Quiet.int rfl rfl rfl) rfl (G.nil (G.then_n ?_))))))))
 refine G.condD rfl (fun h8 => ?_) (fun h8 => ?_)
 ·have hi2 : i < ns.length := by omega
  have h64 := hi _ (List.getElem_mem hi2)
  have hb10 := numB_len h64
  refine G.rdShape (p := p) hp (by (repeat' constructor)) (by omega) fun ba oa e => ?_
  subst e
  refine G.skip (G.then_n (G.seq (G.block (G.region (G.mv rfl rfl (G.mv rfl rfl (G.mv rfl rfl ?_)))))))
  refine G.q (Quiet.indexAddr rfl rfl el_31 (by omega)) rfl ?_
  refine G.q (Quiet.loadEl (p := p) (i := i * 1) (v := vint ns[i]) rfl ag_3 (by (repeat' constructor)) hp (by rw [Nat.mul_one]; simp [ints, hi2])) rfl ?_
  refine G.oq (OpSpec.call Tryz.func165 rfl rfl (vs := [_]) rfl (r1num_spec ns[i] h64)) ?nx13
  rintro v L' ⟨rfl, rfl⟩
  refine G.q (Quiet.concat rfl rfl (by omega)) rfl ?_
  refine G.ag rfl rfl (G.nil (G.blk_n (G.then_n (G.region (G.mv rfl rfl ?_)))))
  refine G.q (Quiet.add rfl rfl (by omega)) rfl ?_
  refine G.ag rfl rfl (G.nil (G.then_n ?_))
  exact G.roundK ((i + 1, t ++ numB ns[i])) (⟨by dsimp only; omega, by dsimp only; rw [fm_step numB hi2, ht]⟩) (by dsimp only; omega) ⟨rfl, rfl, rfl, rfl, trivial⟩ (by (repeat' constructor)) (by ((repeat (apply Have.cons; (repeat (first | exact Pick.here | apply Pick.there)))); apply Have.base; repeat' constructor))
 ·have hie : i = ns.length := by omega
  have hfin : t = ns.flatMap numB := by rw [ht, hie, List.take_length]
  subst hfin
  refine G.exit (G.then_e (G.then_e (G.blk_e (G.then_n (G.seq (G.region (G.mv rfl rfl (G.ag rfl rfl (G.nil (G.then_n (G.ret ?_)))))))))))
  exact G.dn (l := [.tmp 2]) rfl rfl ⟨rfl, rfl⟩

theorem r2acls_spec (va : Value) (l : List Ac) (p : HP) (hp : ∀ h : Hp, p h → rdS 2 h va l.length (l.flatMap acC)) (hi : ∀ a ∈ l, AcI a) (hl : (aclB l).length ≤ 4294900000) (hn : l.length ≤ 1048576) : Fn Tryz.prog 206 #[va] [p] fun v L => v = vstr (aclB l) ∧ L = [p] := by
 refine Fn.intro (vs := [va]) Tryz.func206 rfl rfl ?_
 intro F W
 refine G.rdAny (p := p) hp (by (repeat' constructor)) fun aa ca e _ => ?_
 subst e
 have hll : (aclB l).length = (cntB l.length).length + (l.flatMap acB).length := by unfold aclB; rw [List.length_append]
 refine G.seq (G.region (G.ag rfl rfl (G.nil (G.then_n (G.seq (G.region (G.mv rfl rfl (G.q (Quiet.slen rfl Tryz.underlying33 rfl) rfl ?_))))))))
 refine G.oq (OpSpec.call Tryz.func166 rfl rfl (vs := [_]) rfl (r1cnt_spec l.length (by omega))) ?nx4
 rintro v L' ⟨rfl, rfl⟩
 refine G.ag rfl rfl (G.nil (G.then_n (G.seq (G.seq (G.region (G.ag rfl rfl (G.nil (G.then_n (G.block ?_)))))))))
 refine G.loopK (ι := Nat × Bs) (fun q E => (4, vint q.1) :: (3, vstr q.2) :: E) (fun q => []) (fun q => q.1 ≤ l.length ∧ q.2 = cntB l.length ++ (l.take q.1).flatMap acB) (fun q => l.length - q.1) (0, cntB l.length) (ts := [0, 2]) (.cons rfl (.cons rfl (.nil))) (⟨Nat.zero_le _, by simp⟩) ⟨rfl, rfl, rfl, rfl, trivial⟩ (by (repeat' constructor)) ?_
 rintro ⟨i, t⟩ ⟨hj, ht⟩
 dsimp only
 dsimp only at hj ht
 have htl : t.length = (cntB l.length).length + ((l.take i).flatMap acB).length := by rw [ht, List.length_append]
 refine G.seq (G.seq (G.region (G.mv rfl rfl (G.mv rfl rfl (G.q (Quiet.slen rfl Tryz.underlying33 rfl) rfl (G.q (Quiet.int rfl rfl rfl) rfl (G.nil (G.then_n ?_))))))))
 refine G.condD rfl (fun h11 => ?_) (fun h11 => ?_)
 ·have hi2 : i < l.length := by omega
  have hai := hi _ (List.getElem_mem hi2)
  have hfs := fm_stepL acB hi2
  have hab : (acB l[i]).length = (numB l[i].1).length + (txtB l[i].2).length := by unfold acB; rw [List.length_append]
  have htx : (txtB l[i].2).length = (cntB l[i].2.length).length + l[i].2.length := by unfold txtB; rw [List.length_append]
  have hn64 := hai.n
  refine G.rdShape (p := p) hp (by (repeat' constructor)) (by omega) fun ba oa e => ?_
  subst e
  refine G.skip (G.then_n (G.seq (G.block ?_)))
  refine G.draw [] [[0, 1, 2, 3, 4, 5, 6, 7, 8, 9, 10, 11, 12, 13, 14, 15]] mixed (by kernel_rfl) ?_
  refine Phases.go [p] (by (repeat' constructor)) ?_
  refine D.kw [7, 14, 15] rfl (Quiet.move rfl) ?_
  refine D.kw [3, 4, 5, 6, 7, 13, 14, 15] rfl (Quiet.move rfl) ?_
  refine D.kw [3, 4, 5, 6, 7, 13, 14, 15] rfl (Quiet.move rfl) ?_
  refine D.kw [4, 5, 6, 7, 13, 14, 15] rfl (Quiet.indexAddr rfl rfl el_33 (by omega)) ?_
  refine D.kw [5, 6, 7, 13, 14, 15] rfl (Quiet.fieldAddr rfl fo_210_0) ?_
  refine D.kw [6, 7, 13, 14, 15] rfl (Quiet.loadRd (sz := 2) (j := i * 2 + 0) (p := p) (v := vint l[i].1) rfl ag_3 (by (repeat' constructor)) hp (by simp) ((ac_cell (k := 0) hi2 (by decide)).trans rfl)) ?_
  refine D.m rfl (by kernel_rfl) (OpSpec.call Tryz.func165 rfl rfl (vs := [_]) rfl (r1num_spec l[i].1 ?hn17)) (by (repeat' constructor)) ?nx18
  case hn17 => exact hn64
  refine D.kw [14, 15] rfl (Quiet.concat rfl rfl (by omega)) ?_
  refine D.kw [10, 11, 12, 13, 14, 15] rfl (Quiet.move rfl) ?_
  refine D.kw [10, 11, 12, 13, 14, 15] rfl (Quiet.move rfl) ?_
  refine D.kw [11, 12, 13, 14, 15] rfl (Quiet.indexAddr rfl rfl el_33 (by omega)) ?_
  refine D.kw [12, 13, 14, 15] rfl (Quiet.fieldAddr rfl fo_210_1) ?_
  refine D.kw [13, 14, 15] rfl (Quiet.loadRd (sz := 2) (j := i * 2 + 1) (p := p) (v := vstr l[i].2) rfl ag_9 (by (repeat' constructor)) hp (by simp; omega) ((ac_cell (k := 1) hi2 (by decide)).trans rfl)) ?_
  refine D.m rfl (by kernel_rfl) (OpSpec.call Tryz.func205 rfl rfl (vs := [_]) rfl (r1txt_spec l[i].2 ?hb26)) (by (repeat' constructor)) ?nx27
  case hb26 => omega
  refine D.kw [15] rfl (Quiet.concat rfl rfl (by rw [List.length_append]; omega)) ?_
  refine D.kw [] rfl (Quiet.assign rfl) ?_
  refine D.ph (Phases.fin (G.blk_n (G.then_n (G.region (G.mv rfl rfl ?_)))))
  refine G.q (Quiet.add rfl rfl (by omega)) rfl ?_
  refine G.ag rfl rfl (G.nil (G.then_n ?_))
  exact G.roundK ((i + 1, t ++ numB l[i].1 ++ txtB l[i].2)) (⟨by dsimp only; omega, by dsimp only; rw [fm_step acB hi2, ht]; unfold acB; simp only [List.append_assoc]⟩) (by dsimp only; omega) ⟨rfl, rfl, rfl, rfl, trivial⟩ (by (repeat' constructor)) (by ((repeat (apply Have.cons; (repeat (first | exact Pick.here | apply Pick.there)))); apply Have.base; repeat' constructor))
 ·have hie : i = l.length := by omega
  have hfin : t = aclB l := by rw [ht, hie, List.take_length]; rfl
  subst hfin
  refine G.exit (G.then_e (G.then_e (G.blk_e (G.then_n (G.seq (G.region (G.mv rfl rfl (G.ag rfl rfl (G.nil (G.then_n (G.ret ?_)))))))))))
  exact G.dn (l := [.tmp 2]) rfl rfl ⟨rfl, rfl⟩

theorem r2part_spec (y : Pt) (p : HP) (hy : PtW p y) (hl : (ptB y).length ≤ 4294900000) (hn : y.acl.length ≤ 1048576) : Fn Tryz.prog 179 #[.agg (ptC y).toArray] [p] fun v L => v = vstr (ptB y) ∧ L = [p] := by
 refine Fn.intro (vs := [.agg (ptC y).toArray]) Tryz.func179 rfl rfl ?_
 intro F W
 have hpl := ptB_len y
 have hiy := hy.i
 refine G.seq (G.region ?_)
 refine G.oq (OpSpec.box rfl) ?nx1
 rintro v L' ⟨b1, rfl, rfl⟩
 refine G.ag rfl rfl (G.nil ?_)
 refine G.ptCast (b := b1) (l' := ptC y) (by (repeat' constructor)) (by exact rfl) ?_
 refine G.then_n (G.seq ?_)
 refine G.draw [21, 22] [[0, 1, 2, 3, 4, 5, 6, 7, 8, 9, 10, 11, 12, 13, 14, 15, 16, 17, 18, 19, 20, 21, 22], [23, 24]] mixed (by kernel_rfl) ?_
 refine Phases.go [ptc b1 _ _, p] (by (repeat' constructor)) ?_
 refine D.k rfl (Quiet.fieldAddr rfl fo_36_0) ?_
 refine D.k rfl (Quiet.ld rfl ag_3) ?_
 refine D.m rfl (by kernel_rfl) (OpSpec.call Tryz.func165 rfl rfl (vs := [_]) rfl (r1num_spec y.kind hiy.kind)) (by (repeat' constructor)) ?nx6
 refine D.k rfl (Quiet.fieldAddr rfl fo_36_1) ?_
 refine D.k rfl (Quiet.ld rfl ag_9) ?_
 refine D.m rfl (by kernel_rfl) (OpSpec.call Tryz.func205 rfl rfl (vs := [_]) rfl (r1txt_spec y.path (by omega))) (by (repeat' constructor)) ?nx10
 refine D.k rfl (Quiet.concat rfl rfl (by simp only [List.length_append, txtB] at *; omega)) ?_
 refine D.k rfl (Quiet.fieldAddr rfl fo_36_2) ?_
 refine D.k rfl (Quiet.ld rfl ag_9) ?_
 refine D.m rfl (by kernel_rfl) (OpSpec.call Tryz.func205 rfl rfl (vs := [_]) rfl (r1txt_spec y.data (by omega))) (by (repeat' constructor)) ?nx15
 refine D.k rfl (Quiet.concat rfl rfl (by simp only [List.length_append, txtB] at *; omega)) ?_
 refine D.k rfl (Quiet.fieldAddr rfl fo_36_3) ?_
 refine D.k rfl (Quiet.ld rfl ag_33) ?_
 refine D.m rfl (by kernel_rfl) (OpSpec.call Tryz.func206 rfl rfl (vs := [_]) rfl (r2acls_spec y.aclV y.acl p hy.acl hiy.acl (by omega) hn)) (by (repeat' constructor)) ?nx20
 refine D.k rfl (Quiet.concat rfl rfl (by simp only [List.length_append, txtB] at *; omega)) ?_
 refine D.kw [16, 21, 22] rfl (Quiet.fieldAddr rfl fo_36_4) ?_
 refine D.kw [21, 22] rfl (Quiet.ld rfl ag_3) ?_
 refine D.kw [18, 21, 22] rfl (Quiet.fieldAddr rfl fo_36_5) ?_
 refine D.kw [21, 22] rfl (Quiet.ld rfl ag_3) ?_
 refine D.kw [20, 21, 22] rfl (Quiet.fieldAddr rfl fo_36_6) ?_
 refine D.kw [21, 22] rfl (Quiet.ld rfl ag_25) ?_
 refine D.h rfl (by kernel_rfl) (OpSpec.buildSlice1 (vs := [_, _, _]) el_31 ze_3 rfl rfl rfl rfl rfl (by decide)) (by (repeat' constructor)) ?nx29
 rintro v L' ⟨b2, rfl, rfl⟩
 refine D.h rfl (by kernel_rfl) (OpSpec.call Tryz.func137 rfl rfl (vs := [_]) rfl (r2nums_spec _ [y.own, y.num, y.err] (ptc b2 (ints [y.own, y.num, y.err]) 3) (fun h hp => slR_rd (slR_pt hp rfl)) (fun n hn => by simp only [List.mem_cons, List.not_mem_nil, or_false] at hn; rcases hn with rfl | rfl | rfl; exact hiy.own; exact hiy.num; exact hiy.err) (by simp))) (by (repeat' constructor)) ?nx31
 rintro v L' ⟨rfl, rfl⟩
 refine D.ph ?_
 refine Phases.go [] (by (repeat' constructor)) ?_
 refine D.kw [24] rfl (Quiet.concat rfl rfl (by simp only [List.length_append, txtB] at *; omega)) ?_
 refine D.kw [] rfl (Quiet.assign rfl) ?_
 refine D.ph (Phases.fin (G.then_n (G.ret ?_)))
 have hr : numB y.kind ++ txtB y.path ++ txtB y.data ++ aclB y.acl ++ [y.own, y.num, y.err].flatMap numB = ptB y := by unfold ptB; simp only [List.append_assoc]
 rw [hr]
 exact G.dn (l := [.tmp 2]) rfl rfl ⟨rfl, rfl⟩

theorem r2txn_spec (y : Pt) (l : List Pt) (p : HP) (hy : PtW p y) (hs : ∀ h : Hp, p h → rdS 8 h y.subsV l.length (l.flatMap ptC)) (hi : ∀ z ∈ l, PtW p z ∧ z.acl.length ≤ 1048576) (hl : (ptB y).length + (subsB l).length ≤ 4294900000) (hn : y.acl.length ≤ 1048576) (hln : l.length ≤ 1048576) : Fn Tryz.prog 138 #[.agg (ptC y).toArray] [p] fun v L => v = vstr (ptB y ++ subsB l) ∧ L = [p] := by
 refine Fn.intro (vs := [.agg (ptC y).toArray]) Tryz.func138 rfl rfl ?_
 intro F W
 have hsl : (subsB l).length = (cntB l.length).length + (l.flatMap ptB).length := by unfold subsB; rw [List.length_append]
 obtain ⟨sv, hsv⟩ : ∃ sv, y.subsV = sv := ⟨_, rfl⟩
 rw [hsv] at hs
 refine G.rdAny (p := p) hs (by (repeat' constructor)) fun aa ca e _ => ?_
 subst e
 have hyc : ptC y = [vint y.kind, vstr y.path, vstr y.data, y.aclV, vint y.own, vint y.num, vint y.err, .slice aa l.length ca] := by unfold ptC; rw [hsv]
 refine G.seq (G.region ?_)
 refine G.oq (OpSpec.box rfl) ?nx1
 rintro v L' ⟨b1, rfl, rfl⟩
 refine G.ag rfl rfl (G.nil ?_)
 refine G.ptCast (b := b1) (l' := ptC y) (by (repeat' constructor)) (by exact rfl) ?_
 refine G.then_n (G.seq ?_)
 refine G.draw [] [[0, 1, 2, 3, 4, 5, 6, 7]] mixed (by kernel_rfl) ?_
 refine Phases.go [ptc b1 _ _, p] (by (repeat' constructor)) ?_
 refine D.kw [1, 5, 6, 7] rfl (Quiet.loadAs (vs := ptC y) rfl ag_36 (by (repeat' constructor)) (by simp [ptC]) rfl) ?_
 refine D.m rfl (by kernel_rfl) (OpSpec.call Tryz.func179 rfl rfl (vs := [_]) rfl (r2part_spec y p hy (by omega) hn)) (by (repeat' constructor)) ?nx5
 refine D.kw [3, 4, 5, 6, 7] rfl (Quiet.fieldAddr rfl fo_36_7) ?_
 refine D.kw [4, 5, 6, 7] rfl (Quiet.load rfl ag_34 (by (repeat' constructor)) (by rw [hyc]; rfl)) ?_
 refine D.kw [5, 6, 7] rfl (Quiet.slen rfl Tryz.underlying34 rfl) ?_
 refine D.m rfl (by kernel_rfl) (OpSpec.call Tryz.func166 rfl rfl (vs := [_]) rfl (r1cnt_spec l.length (by omega))) (by (repeat' constructor)) ?nx10
 refine D.kw [7] rfl (Quiet.concat rfl rfl (by omega)) ?_
 refine D.kw [] rfl (Quiet.assign rfl) ?_
 refine D.ph (Phases.fin (G.then_n (G.seq (G.seq (G.region (G.ag rfl rfl (G.nil (G.then_n (G.block ?_)))))))))
 refine G.loopK (ι := Nat × Bs) (fun q E => (4, vint q.1) :: (3, vstr q.2) :: E) (fun q => []) (fun q => q.1 ≤ l.length ∧ q.2 = ptB y ++ cntB l.length ++ (l.take q.1).flatMap ptB) (fun q => l.length - q.1) (0, ptB y ++ cntB l.length) (ts := [1, 2]) (.cons rfl (.cons rfl (.nil))) (⟨Nat.zero_le _, by simp⟩) ⟨rfl, rfl, rfl, rfl, trivial⟩ (by (repeat' constructor)) ?_
 rintro ⟨i, t⟩ ⟨hj, ht⟩
 dsimp only
 dsimp only at hj ht
 have htl : t.length = (ptB y).length + (cntB l.length).length + ((l.take i).flatMap ptB).length := by rw [ht, List.length_append, List.length_append]
 refine G.seq (G.seq (G.region (G.mv rfl rfl (G.q (Quiet.fieldAddr rfl fo_36_7) rfl ?_))))
 refine G.q (Quiet.load rfl ag_34 (by (repeat' constructor)) (by rw [hyc]; rfl)) rfl ?_
 refine G.q (Quiet.slen rfl Tryz.underlying34 rfl) rfl (G.q (Quiet.int rfl rfl rfl) rfl (G.nil (G.then_n ?_)))
 refine G.condD rfl (fun h16 => ?_) (fun h16 => ?_)
 ·have hi2 : i < l.length := by omega
  have hfs := fm_stepL ptB hi2
  obtain ⟨hz1, hz2⟩ := hi _ (List.getElem_mem hi2)
  refine G.rdShape (p := p) hs (by (repeat' constructor)) (by omega) fun ba oa e => ?_
  subst e
  refine G.skip (G.then_n (G.seq (G.block (G.region (G.mv rfl rfl (G.q (Quiet.fieldAddr rfl fo_36_7) rfl ?_))))))
  refine G.q (Quiet.load rfl ag_34 (by (repeat' constructor)) (by rw [hyc]; rfl)) rfl ?_
  refine G.mv rfl rfl ?_
  refine G.q (Quiet.indexAddr rfl rfl el_34 (by omega)) rfl ?_
  refine G.q (Quiet.loadRdA (sz := 8) (j := i * 8) (k := 8) (p := p) (vs := ptC l[i]) rfl ag_36 (by (repeat' constructor)) hs (by simp) (by omega) (by omega) (flatMap_at (f := ptC) (sz := 8) (fun _ _ => rfl) hi2)) rfl ?_
  refine G.oq (OpSpec.call Tryz.func179 rfl rfl (vs := [_]) rfl (r2part_spec l[i] p hz1 (by omega) hz2)) ?nx25
  rintro v L' ⟨rfl, rfl⟩
  refine G.q (Quiet.concat rfl rfl (by omega)) rfl ?_
  refine G.ag rfl rfl (G.nil (G.blk_n (G.then_n (G.region (G.mv rfl rfl ?_)))))
  refine G.q (Quiet.add rfl rfl (by omega)) rfl ?_
  refine G.ag rfl rfl (G.nil (G.then_n ?_))
  exact G.roundK ((i + 1, t ++ ptB l[i])) (⟨by dsimp only; omega, by dsimp only; rw [fm_step ptB hi2, ht]; simp only [List.append_assoc]⟩) (by dsimp only; omega) ⟨rfl, rfl, rfl, rfl, trivial⟩ (by (repeat' constructor)) (by ((repeat (apply Have.cons; (repeat (first | exact Pick.here | apply Pick.there)))); apply Have.base; repeat' constructor))
 ·have hie : i = l.length := by omega
  have hfin : t = ptB y ++ subsB l := by rw [ht, hie, List.take_length, List.append_assoc]; rfl
  subst hfin
  refine G.exit (G.then_e (G.then_e (G.blk_e (G.then_n (G.seq (G.region (G.mv rfl rfl (G.ag rfl rfl (G.nil (G.then_n (G.ret ?_)))))))))))
  exact G.dn (l := [.tmp 2]) rfl rfl ⟨rfl, rfl⟩

theorem r2put_spec (e : En) (p : HP) (he : EnL p e) : Fn Tryz.prog 77 #[.agg (enC e).toArray] [p] fun v L => v = vstr (enB e) ∧ L = [p] := by
 refine Fn.intro (vs := [.agg (enC e).toArray]) Tryz.func77 rfl rfl ?_
 intro F W
 have hel := enB_len e
 have hle := he.len
 have hie := he.w.i
 refine G.seq (G.region ?_)
 refine G.oq (OpSpec.box rfl) ?nx1
 rintro v L' ⟨b1, rfl, rfl⟩
 refine G.ag rfl rfl (G.nil ?_)
 refine G.ptCast (b := b1) (l' := enC e) (by (repeat' constructor)) (by exact rfl) ?_
 refine G.then_n (G.seq ?_)
 refine G.draw [6, 7] [[0, 1, 2, 3, 4, 5, 8, 9, 6, 7], [10, 11, 12]] mixed (by kernel_rfl) ?_
 refine Phases.go [ptc b1 _ _, p] (by (repeat' constructor)) ?_
 refine D.kw [1, 6, 7] rfl (Quiet.fieldAddr rfl fo_38_0) ?_
 refine D.kw [6, 7] rfl (Quiet.ld rfl ag_3) ?_
 refine D.kw [3, 6, 7] rfl (Quiet.fieldAddr rfl fo_38_1) ?_
 refine D.kw [6, 7] rfl (Quiet.ld rfl ag_3) ?_
 refine D.kw [5, 6, 7] rfl (Quiet.fieldAddr rfl fo_38_2) ?_
 refine D.kw [6, 7] rfl (Quiet.ld rfl ag_3) ?_
 refine D.k rfl (Quiet.fieldAddr rfl fo_38_3) ?_
 refine D.k rfl (Quiet.loadAs (vs := ptC e.x) rfl ag_36 (by (repeat' constructor)) (by simp [enC, ptC]) rfl) ?_
 refine D.h rfl (by kernel_rfl) (OpSpec.buildSlice1 (vs := [_, _, _]) el_31 ze_3 rfl rfl rfl rfl rfl (by decide)) (by (repeat' constructor)) ?nx12
 rintro v L' ⟨b2, rfl, rfl⟩
 refine D.h rfl (by kernel_rfl) (OpSpec.call Tryz.func137 rfl rfl (vs := [_]) rfl (r2nums_spec _ [e.zx, e.ses, e.xid] (ptc b2 (ints [e.zx, e.ses, e.xid]) 3) (fun h hp => slR_rd (slR_pt hp rfl)) (fun n hn => by simp only [List.mem_cons, List.not_mem_nil, or_false] at hn; rcases hn with rfl | rfl | rfl; exact hie.zx; exact hie.ses; exact hie.xid) (by simp))) (by (repeat' constructor)) ?nx14
 rintro v L' ⟨rfl, rfl⟩
 refine D.ph ?_
 refine Phases.go [ptc b1 _ _, p] (by (repeat' constructor)) ?_
 refine D.m rfl (by kernel_rfl) (OpSpec.call Tryz.func138 rfl rfl (vs := [_]) rfl (r2txn_spec e.x e.subs p he.w.x he.w.subs (fun z hz => ⟨he.w.sub hz, he.few.2.2 z hz⟩) (by omega) he.few.2.1 he.few.1)) (by (repeat' constructor)) ?nx16
 refine D.kw [12] rfl (Quiet.concat rfl rfl (by simp only [List.length_append, txtB] at *; omega)) ?_
 refine D.kw [] rfl (Quiet.assign rfl) ?_
 refine D.ph (Phases.fin (G.then_n (G.ret ?_)))
 have hr : [e.zx, e.ses, e.xid].flatMap numB ++ (ptB e.x ++ subsB e.subs) = enB e := by unfold enB; simp only [List.append_assoc]
 rw [hr]
 exact G.dn (l := [.tmp 2]) rfl rfl ⟨rfl, rfl⟩

end Go.Proofs.YtidjhgbdokcphaaGreat

/- Own work, by program: the document's reader: walked. -/
namespace Go.Proofs.YtidjhgbdokcphaaGreat
open Go
theorem rfwrong_spec (r : Nat) (s : Bs) (k : Nat) (e e' : Int) : Fn Tryz.prog 199 #[vptr r, vint e'] [rfW r s k e] fun v L => v = .tuple #[] ∧ L = [rfW r s k (if e = 0 then e' else e)] := by
 refine Fn.intro (vs := [vptr r, vint e']) Tryz.func199 rfl rfl ?_
 intro F W
 refine G.rfOpen (by (repeat' constructor)) fun hkl hsz => ?_
 refine G.seq (G.region (G.mv rfl rfl (G.q (Quiet.nilp rfl) rfl (G.q (Quiet.fieldAddr rfl fo_208_2) rfl ?_))))
 refine G.q (Quiet.ld rfl ag_25) rfl ?_
 refine G.q (Quiet.int rfl rfl rfl) rfl (G.nil (G.then_n ?_))
 refine G.condD rfl (fun h8 => ?_) (fun h8 => ?_)
 ·refine G.region (G.mv rfl rfl (G.mv rfl rfl (G.q (Quiet.nilp rfl) rfl (G.q (Quiet.fieldAddr rfl fo_208_2) rfl ?_))))
  refine G.oq (OpSpec.store rfl rfl rfl sz_25 ?c10 ?c11) ?nx12
  case c10 => first | decide | (simp; omega) | simp
  case c11 => exact nfz0 _ _
  rintro v L' rfl
  refine G.nil (G.done_n ?_)
  rw [if_pos h8]
  refine G.rfFold (r := r) s (k) (e') (by (repeat' constructor)) (by first | rfl | (simp only [List.set]; congr; omega)) (by omega) hsz ?_
  exact G.dn (l := []) rfl rfl ⟨rfl, rfl⟩
 ·refine G.skip (G.done_n ?_)
  rw [if_neg h8]
  refine G.rfFold (r := r) s (k) (e) (by (repeat' constructor)) (by first | rfl | (simp only [List.set]; congr; omega)) (by omega) hsz ?_
  exact G.dn (l := []) rfl rfl ⟨rfl, rfl⟩

theorem rfsevens_spec (r : Nat) (s : Bs) (k : Nat) (e : Int) : Fn Tryz.prog 197 #[vptr r] [rfW r s k e] fun v L => ∃ u m e', SevA s k e u m e' ∧ v = .int .u64 (u : Nat) ∧ L = [rfW r s (k + m) e'] := by
 refine Fn.intro (vs := [vptr r]) Tryz.func197 rfl rfl ?_
 intro F W
 refine G.rfOpen (by (repeat' constructor)) fun hkl hsz => ?_
 refine G.seq (G.region (G.ag rfl rfl (G.nil (G.then_n (G.seq (G.seq (G.region ?_)))))))
 rcases Decidable.em (e = 0) with he0 | he0
 ·subst he0
  refine G.mv rfl rfl (G.q (Quiet.nilp rfl) rfl (G.q (Quiet.fieldAddr rfl fo_208_2) rfl ?_))
  refine G.q (Quiet.ld rfl ag_25) rfl ?_
  refine G.q (Quiet.as (v' := .bool false) (by rfl) (Quiet.int rfl rfl rfl)) rfl ?_
  refine G.nil (G.then_n (G.condF rfl (G.skip (G.then_n (G.seq (G.region (G.ag rfl rfl (G.nil (G.then_n (G.seq (G.region (G.ag rfl rfl (G.nil (G.then_n (G.seq (G.region (G.ag rfl rfl (G.nil (G.then_n (G.block ?_))))))))))))))))))))
  refine G.loopK (ι := Nat × Nat) (fun q E => (5, vint ((q.1 + 1 : Nat) : Int)) :: (3, .int .u64 q.2) :: (4, .int .u64 ((128 ^ q.1 : Nat) : Int)) :: E) (fun q => [ptc r [vstr s, vint k, vint 0] 208]) (fun q => k + q.1 ≤ s.length ∧ q.1 ≤ 9 ∧ q.2 < 128 ^ q.1 ∧ sevP q.1 q.2 (s.drop (k + q.1)) = sevP 0 0 (s.drop k)) (fun q => s.length - q.1) (0, 0) (ts := [0]) (.cons rfl (.nil)) (⟨by dsimp only; omega, by dsimp only; omega, by dsimp only; decide, rfl⟩) ⟨rfl, rfl, rfl, rfl, trivial⟩ (by (repeat' constructor)) ?_
  rintro ⟨j, u⟩ ⟨hj, hj9, huj, hsv⟩
  dsimp only
  dsimp only at hj hj9 huj hsv
  refine G.seq (G.block (G.seq (G.seq ?_)))
  refine G.draw [] [[0, 1, 2, 3, 4, 5, 6, 7, 8, 9, 10, 11]] mixed (by kernel_rfl) ?_
  refine Phases.go [] (by (repeat' constructor)) ?_
  refine D.kw [1, 2, 3, 5, 11] rfl (Quiet.move rfl) ?_
  refine D.kw [2, 3, 5, 11] rfl (Quiet.nilp rfl) ?_
  refine D.kw [3, 5, 11] rfl (Quiet.fieldAddr rfl fo_208_1) ?_
  refine D.kw [5, 11] rfl (Quiet.ld rfl ag_3) ?_
  refine D.kw [5, 11] rfl (Quiet.move rfl) ?_
  refine D.kw [11] rfl (Quiet.add rfl rfl (by omega)) ?_
  refine D.kw [7, 8, 9, 10, 11] rfl (Quiet.move rfl) ?_
  refine D.kw [8, 9, 10, 11] rfl (Quiet.nilp rfl) ?_
  refine D.kw [9, 10, 11] rfl (Quiet.fieldAddr rfl fo_208_0) ?_
  refine D.kw [10, 11] rfl (Quiet.ld rfl ag_9) ?_
  refine D.kw [11] rfl (Quiet.strlen rfl Tryz.underlying9 rfl) ?_
  refine D.kw [] rfl (Quiet.int rfl rfl rfl) ?_
  refine D.ph (Phases.fin (G.then_n ?_))
  refine G.condD rfl (fun h25 => ?_) (fun h25 => ?_)
  ·refine G.rfFold (r := r) s (k) (0) (by (repeat' constructor)) (by first | rfl | (simp only [List.set]; congr; omega)) (by omega) hsz ?_
   refine G.seq (G.region (G.mv rfl rfl ?_))
   refine G.oq (OpSpec.call Tryz.func199 rfl rfl (vs := [_, _]) rfl (rfwrong_spec r s k 0 10)) ?nx23
   rintro v L' ⟨rfl, rfl⟩; rw [if_pos rfl]
   refine G.nil (G.then_n (G.seq (G.region (G.ag rfl rfl (G.nil (G.then_n (G.ret (G.then_r (G.blk_r (G.then_r (G.then_r (G.blk_r ?_))))))))))))
   exact G.dn (l := [.tmp 2]) rfl rfl ⟨0, 0, 10, .inl ⟨.inr (by rw [← hsv]; exact sevP_out (by omega)), rfl, rfl, by decide⟩, rfl, rfl⟩
  ·have hlt : k + j < s.length := by omega
   have hxl := s[k + j].toNat_lt
   refine G.skip (G.then_n (G.seq ?_))
   refine G.draw [] [[0, 1, 2, 3, 4, 5, 6, 7, 8, 9, 10, 11, 12]] mixed (by kernel_rfl) ?_
   refine Phases.go [] (by (repeat' constructor)) ?_
   refine D.kw [1, 2, 3, 11, 12] rfl (Quiet.move rfl) ?_
   refine D.kw [2, 3, 11, 12] rfl (Quiet.nilp rfl) ?_
   refine D.kw [3, 11, 12] rfl (Quiet.fieldAddr rfl fo_208_0) ?_
   refine D.kw [11, 12] rfl (Quiet.ld rfl ag_9) ?_
   refine D.kw [5, 6, 7, 9, 10, 11, 12] rfl (Quiet.move rfl) ?_
   refine D.kw [6, 7, 9, 10, 11, 12] rfl (Quiet.nilp rfl) ?_
   refine D.kw [7, 9, 10, 11, 12] rfl (Quiet.fieldAddr rfl fo_208_1) ?_
   refine D.kw [9, 10, 11, 12] rfl (Quiet.ld rfl ag_3) ?_
   refine D.kw [9, 10, 11, 12] rfl (Quiet.move rfl) ?_
   refine D.kw [10, 11, 12] rfl (Quiet.add rfl rfl (by omega)) ?_
   refine D.kw [11, 12] rfl (Quiet.as (v' := vint ((k + j : Nat) : Int)) (by congr 1; omega) (Quiet.sub rfl rfl (by omega))) ?_
   refine D.kw [12] rfl (Quiet.to (v' := vbyte s[k + j]) (Quiet.strIndex rfl rfl Tryz.underlying9 (by omega) (by rw [Int.toNat_natCast]; exact List.getElem?_eq_getElem hlt)) rfl) ?_
   refine D.kw [] rfl (Quiet.assign rfl) ?_
   refine D.ph (Phases.fin (G.then_n (G.seq (G.seq (G.region (G.mv rfl rfl (G.q (Quiet.int rfl rfl rfl) rfl (G.mv rfl rfl ?_))))))))
   refine G.dec (t := 42) rfl (fun h11_42 => ?_) (fun h11_42 => ?_)
   ·refine G.kDT (t := 41) rfl h11_42 (G.grun (t := 42) rfl rfl rfl (G.mv rfl rfl (G.grun (t := 42) rfl rfl rfl (G.q (Quiet.int rfl rfl rfl) rfl (G.q (Quiet.pickT rfl rfl) rfl (G.nil (G.then_n ?_)))))))
    refine G.condD rfl (fun h45 => ?_) (fun h45 => ?_)
    ·refine G.rfFold (r := r) s (k) (0) (by (repeat' constructor)) (by first | rfl | (simp only [List.set]; congr; omega)) (by omega) hsz ?_
     refine G.seq (G.region (G.mv rfl rfl ?_))
     refine G.oq (OpSpec.call Tryz.func199 rfl rfl (vs := [_, _]) rfl (rfwrong_spec r s k 0 11)) ?nx42
     rintro v L' ⟨rfl, rfl⟩; rw [if_pos rfl]
     refine G.nil (G.then_n (G.seq (G.region (G.ag rfl rfl (G.nil (G.then_n (G.ret (G.then_r (G.blk_r (G.then_r (G.then_r (G.blk_r ?_))))))))))))
     exact G.dn (l := [.tmp 2]) rfl rfl ⟨0, 0, 11, .inl ⟨.inr (by rw [← hsv, sevP_at hlt, if_pos (.inl ⟨by omega, by omega⟩)]), rfl, rfl, by decide⟩, rfl, rfl⟩
    ·refine G.skip (G.then_n (G.seq ?_))
     have h9 : j = 9 → s[k + j].toNat ≤ 1 := fun g => (by omega)
     refine G.region (G.mv rfl rfl (G.mv rfl rfl ?_))
     refine G.q (Quiet.to (v' := .int .u8 ((s[k + j].toNat % 128 : Nat) : Int)) (Quiet.remU8 rfl rfl (by omega) (by decide)) (by rfl)) rfl ?_
     refine G.q (Quiet.as (v' := .int .u64 ((s[k + j].toNat % 128 : Nat) : Int)) (by exact congrArg (Value.int .u64) (by rw [u64wrap]; omega)) (Quiet.conv rfl Tryz.underlying5 Tryz.underlying190)) rfl ?_
     refine G.mv rfl rfl (G.q (Quiet.int rfl rfl rfl) rfl ?_)
     refine G.q (Quiet.as (v' := .int .u64 ((u + s[k + j].toNat % 128 * 128 ^ j : Nat) : Int)) (by exact congrArg (Value.int .u64) (sev_mul hj9 huj (by omega) (fun g => by have := h9 g; omega))) (Quiet.int rfl rfl rfl)) rfl ?_
     refine G.ag rfl rfl (G.nil (G.then_n (G.seq (G.region (G.mv rfl rfl (G.q (Quiet.int rfl rfl rfl) rfl (G.ag rfl rfl (G.nil (G.then_n (G.seq (G.seq (G.region (G.mv rfl rfl (G.q (Quiet.int rfl rfl rfl) rfl (G.nil (G.then_n ?_))))))))))))))))
     refine G.condD rfl (fun h58 => ?_) (fun h58 => ?_)
     ·have hnb : ¬ badB j s[k + j] := by rintro (⟨g1, g2⟩ | ⟨g1, g2⟩); have := h9 g1; omega; omega
      have hj8 : j < 9 := by rcases Nat.lt_or_ge j 9 with g | g; exact g; exact absurd (h9 (by omega)) (by omega)
      refine G.exit (G.then_e (G.blk_e (G.then_n (G.region (G.mv rfl rfl ?_)))))
      refine G.q (Quiet.as (v' := vint ((j + 1 + 1 : Nat) : Int)) (by congr 1) (Quiet.add rfl rfl (by omega))) rfl ?_
      refine G.ag rfl rfl (G.nil (G.then_n ?_))
      rw [unit_mul hj8]
      exact G.roundK ((j + 1, u + s[k + j].toNat % 128 * 128 ^ j)) (⟨by dsimp only; omega, by dsimp only; omega, by dsimp only; rw [Nat.pow_succ]; have := Nat.mul_le_mul_right (128 ^ j) (show s[k + j].toNat % 128 ≤ 127 by omega); omega, by dsimp only; rw [← hsv, sevP_at hlt, if_neg hnb, if_neg (by omega)]; rfl⟩) (by dsimp only; omega) ⟨rfl, rfl, rfl, rfl, trivial⟩ (by (repeat' constructor)) (by ((repeat (apply Have.cons; (repeat (first | exact Pick.here | apply Pick.there)))); apply Have.base; repeat' constructor))
     ·refine G.skip (G.then_n (G.seq (G.seq (G.region (G.mv rfl rfl (G.q (Quiet.int rfl rfl rfl) rfl (G.mv rfl rfl ?_)))))))
      refine G.dec (t := 61) rfl (fun h17_61 => ?_) (fun h17_61 => ?_)
      ·refine G.kDT (t := 60) rfl h17_61 (G.grun (t := 61) rfl rfl rfl (G.mv rfl rfl (G.grun (t := 61) rfl rfl rfl (G.q (Quiet.int rfl rfl rfl) rfl (G.q (Quiet.pickT rfl rfl) rfl (G.nil (G.then_n ?_)))))))
       refine G.condD rfl (fun h64 => ?_) (fun h64 => ?_)
       ·refine G.rfFold (r := r) s (k) (0) (by (repeat' constructor)) (by first | rfl | (simp only [List.set]; congr; omega)) (by omega) hsz ?_
        refine G.seq (G.region (G.mv rfl rfl ?_))
        refine G.oq (OpSpec.call Tryz.func199 rfl rfl (vs := [_, _]) rfl (rfwrong_spec r s k 0 11)) ?nx60
        rintro v L' ⟨rfl, rfl⟩; rw [if_pos rfl]
        refine G.nil (G.then_n (G.seq (G.region (G.ag rfl rfl (G.nil (G.then_n (G.ret (G.then_r (G.blk_r (G.then_r (G.then_r (G.blk_r ?_))))))))))))
        exact G.dn (l := [.tmp 2]) rfl rfl ⟨0, 0, 11, .inl ⟨.inr (by rw [← hsv, sevP_at hlt, if_pos (.inr ⟨by omega, by omega⟩)]), rfl, rfl, by decide⟩, rfl, rfl⟩
       ·refine G.skip (G.then_n (G.seq ?_))
        have hnb : ¬ badB j s[k + j] := by rintro (⟨g1, g2⟩ | ⟨g1, g2⟩); have := h9 g1; omega; omega
        refine G.region (G.mv rfl rfl (G.mv rfl rfl (G.q (Quiet.nilp rfl) rfl (G.q (Quiet.fieldAddr rfl fo_208_1) rfl ?_))))
        refine G.q (Quiet.ld rfl ag_3) rfl ?_
        refine G.mv rfl rfl ?_
        refine G.q (Quiet.add rfl rfl (by omega)) rfl ?_
        refine G.q (Quiet.nilp rfl) rfl (G.q (Quiet.fieldAddr rfl fo_208_1) rfl ?_)
        refine G.oq (OpSpec.store rfl rfl rfl sz_3 ?c72 ?c73) ?nx74
        case c72 => first | decide | (simp; omega) | simp
        case c73 => exact nfz0 _ _
        rintro v L' rfl
        refine G.nil (G.then_n (G.seq (G.region (G.mv rfl rfl (G.ag rfl rfl (G.nil (G.then_n (G.ret (G.blk_r (G.then_r (G.then_r (G.blk_r ?_))))))))))))
        refine G.rfFold (r := r) s (k + (j + 1)) (0) (by (repeat' constructor)) (by first | rfl | (simp only [List.set]; congr; omega)) (by omega) hsz ?_
        exact G.dn (l := [.tmp 2]) rfl rfl ⟨_, j + 1, 0, .inr ⟨rfl, rfl, by omega, by rw [← hsv, sevP_at hlt, if_neg hnb, if_pos (by omega)]; rfl⟩, rfl, rfl⟩
      ·refine G.kDF (t := 60) rfl h17_61 (G.gskip (t := 61) rfl rfl rfl rfl (G.gskip (t := 61) rfl rfl rfl rfl (G.q (Quiet.pickF rfl rfl) rfl (G.nil (G.then_n (G.condF rfl (G.skip (G.then_n (G.seq ?_)))))))))
       have hnb : ¬ badB j s[k + j] := by rintro (⟨g1, g2⟩ | ⟨g1, g2⟩); have := h9 g1; omega; omega
       refine G.region (G.mv rfl rfl (G.mv rfl rfl (G.q (Quiet.nilp rfl) rfl (G.q (Quiet.fieldAddr rfl fo_208_1) rfl ?_))))
       refine G.q (Quiet.ld rfl ag_3) rfl ?_
       refine G.mv rfl rfl ?_
       refine G.q (Quiet.add rfl rfl (by omega)) rfl ?_
       refine G.q (Quiet.nilp rfl) rfl (G.q (Quiet.fieldAddr rfl fo_208_1) rfl ?_)
       refine G.oq (OpSpec.store rfl rfl rfl sz_3 ?c85 ?c86) ?nx87
       case c85 => first | decide | (simp; omega) | simp
       case c86 => exact nfz0 _ _
       rintro v L' rfl
       refine G.nil (G.then_n (G.seq (G.region (G.mv rfl rfl (G.ag rfl rfl (G.nil (G.then_n (G.ret (G.blk_r (G.then_r (G.then_r (G.blk_r ?_))))))))))))
       refine G.rfFold (r := r) s (k + (j + 1)) (0) (by (repeat' constructor)) (by first | rfl | (simp only [List.set]; congr; omega)) (by omega) hsz ?_
       exact G.dn (l := [.tmp 2]) rfl rfl ⟨_, j + 1, 0, .inr ⟨rfl, rfl, by omega, by rw [← hsv, sevP_at hlt, if_neg hnb, if_pos (by omega)]; rfl⟩, rfl, rfl⟩
   ·refine G.kDF (t := 41) rfl h11_42 (G.gskip (t := 42) rfl rfl rfl rfl (G.gskip (t := 42) rfl rfl rfl rfl (G.q (Quiet.pickF rfl rfl) rfl (G.nil (G.then_n (G.condF rfl (G.skip (G.then_n (G.seq ?_)))))))))
    have h9 : j = 9 → s[k + j].toNat ≤ 1 := fun g => absurd g (by omega)
    refine G.region (G.mv rfl rfl (G.mv rfl rfl ?_))
    refine G.q (Quiet.to (v' := .int .u8 ((s[k + j].toNat % 128 : Nat) : Int)) (Quiet.remU8 rfl rfl (by omega) (by decide)) (by rfl)) rfl ?_
    refine G.q (Quiet.as (v' := .int .u64 ((s[k + j].toNat % 128 : Nat) : Int)) (by exact congrArg (Value.int .u64) (by rw [u64wrap]; omega)) (Quiet.conv rfl Tryz.underlying5 Tryz.underlying190)) rfl ?_
    refine G.mv rfl rfl (G.q (Quiet.int rfl rfl rfl) rfl ?_)
    refine G.q (Quiet.as (v' := .int .u64 ((u + s[k + j].toNat % 128 * 128 ^ j : Nat) : Int)) (by exact congrArg (Value.int .u64) (sev_mul hj9 huj (by omega) (fun g => by have := h9 g; omega))) (Quiet.int rfl rfl rfl)) rfl ?_
    refine G.ag rfl rfl (G.nil (G.then_n (G.seq (G.region (G.mv rfl rfl (G.q (Quiet.int rfl rfl rfl) rfl (G.ag rfl rfl (G.nil (G.then_n (G.seq (G.seq (G.region (G.mv rfl rfl (G.q (Quiet.int rfl rfl rfl) rfl (G.nil (G.then_n ?_))))))))))))))))
    refine G.condD rfl (fun h58 => ?_) (fun h58 => ?_)
    ·have hnb : ¬ badB j s[k + j] := by rintro (⟨g1, g2⟩ | ⟨g1, g2⟩); have := h9 g1; omega; omega
     have hj8 : j < 9 := by rcases Nat.lt_or_ge j 9 with g | g; exact g; exact absurd (h9 (by omega)) (by omega)
     refine G.exit (G.then_e (G.blk_e (G.then_n (G.region (G.mv rfl rfl ?_)))))
     refine G.q (Quiet.as (v' := vint ((j + 1 + 1 : Nat) : Int)) (by congr 1) (Quiet.add rfl rfl (by omega))) rfl ?_
     refine G.ag rfl rfl (G.nil (G.then_n ?_))
     rw [unit_mul hj8]
     exact G.roundK ((j + 1, u + s[k + j].toNat % 128 * 128 ^ j)) (⟨by dsimp only; omega, by dsimp only; omega, by dsimp only; rw [Nat.pow_succ]; have := Nat.mul_le_mul_right (128 ^ j) (show s[k + j].toNat % 128 ≤ 127 by omega); omega, by dsimp only; rw [← hsv, sevP_at hlt, if_neg hnb, if_neg (by omega)]; rfl⟩) (by dsimp only; omega) ⟨rfl, rfl, rfl, rfl, trivial⟩ (by (repeat' constructor)) (by ((repeat (apply Have.cons; (repeat (first | exact Pick.here | apply Pick.there)))); apply Have.base; repeat' constructor))
    ·refine G.skip (G.then_n (G.seq (G.seq (G.region (G.mv rfl rfl (G.q (Quiet.int rfl rfl rfl) rfl (G.mv rfl rfl ?_)))))))
     refine G.dec (t := 61) rfl (fun h17_61 => ?_) (fun h17_61 => ?_)
     ·refine G.kDT (t := 60) rfl h17_61 (G.grun (t := 61) rfl rfl rfl (G.mv rfl rfl (G.grun (t := 61) rfl rfl rfl (G.q (Quiet.int rfl rfl rfl) rfl (G.q (Quiet.pickT rfl rfl) rfl (G.nil (G.then_n ?_)))))))
      refine G.condD rfl (fun h64 => ?_) (fun h64 => ?_)
      ·refine G.rfFold (r := r) s (k) (0) (by (repeat' constructor)) (by first | rfl | (simp only [List.set]; congr; omega)) (by omega) hsz ?_
       refine G.seq (G.region (G.mv rfl rfl ?_))
       refine G.oq (OpSpec.call Tryz.func199 rfl rfl (vs := [_, _]) rfl (rfwrong_spec r s k 0 11)) ?nx104
       rintro v L' ⟨rfl, rfl⟩; rw [if_pos rfl]
       refine G.nil (G.then_n (G.seq (G.region (G.ag rfl rfl (G.nil (G.then_n (G.ret (G.then_r (G.blk_r (G.then_r (G.then_r (G.blk_r ?_))))))))))))
       exact G.dn (l := [.tmp 2]) rfl rfl ⟨0, 0, 11, .inl ⟨.inr (by rw [← hsv, sevP_at hlt, if_pos (.inr ⟨by omega, by omega⟩)]), rfl, rfl, by decide⟩, rfl, rfl⟩
      ·refine G.skip (G.then_n (G.seq ?_))
       have hnb : ¬ badB j s[k + j] := by rintro (⟨g1, g2⟩ | ⟨g1, g2⟩); have := h9 g1; omega; omega
       refine G.region (G.mv rfl rfl (G.mv rfl rfl (G.q (Quiet.nilp rfl) rfl (G.q (Quiet.fieldAddr rfl fo_208_1) rfl ?_))))
       refine G.q (Quiet.ld rfl ag_3) rfl ?_
       refine G.mv rfl rfl ?_
       refine G.q (Quiet.add rfl rfl (by omega)) rfl ?_
       refine G.q (Quiet.nilp rfl) rfl (G.q (Quiet.fieldAddr rfl fo_208_1) rfl ?_)
       refine G.oq (OpSpec.store rfl rfl rfl sz_3 ?c116 ?c117) ?nx118
       case c116 => first | decide | (simp; omega) | simp
       case c117 => exact nfz0 _ _
       rintro v L' rfl
       refine G.nil (G.then_n (G.seq (G.region (G.mv rfl rfl (G.ag rfl rfl (G.nil (G.then_n (G.ret (G.blk_r (G.then_r (G.then_r (G.blk_r ?_))))))))))))
       refine G.rfFold (r := r) s (k + (j + 1)) (0) (by (repeat' constructor)) (by first | rfl | (simp only [List.set]; congr; omega)) (by omega) hsz ?_
       exact G.dn (l := [.tmp 2]) rfl rfl ⟨_, j + 1, 0, .inr ⟨rfl, rfl, by omega, by rw [← hsv, sevP_at hlt, if_neg hnb, if_pos (by omega)]; rfl⟩, rfl, rfl⟩
     ·refine G.kDF (t := 60) rfl h17_61 (G.gskip (t := 61) rfl rfl rfl rfl (G.gskip (t := 61) rfl rfl rfl rfl (G.q (Quiet.pickF rfl rfl) rfl (G.nil (G.then_n (G.condF rfl (G.skip (G.then_n (G.seq ?_)))))))))
      have hnb : ¬ badB j s[k + j] := by rintro (⟨g1, g2⟩ | ⟨g1, g2⟩); have := h9 g1; omega; omega
      refine G.region (G.mv rfl rfl (G.mv rfl rfl (G.q (Quiet.nilp rfl) rfl (G.q (Quiet.fieldAddr rfl fo_208_1) rfl ?_))))
      refine G.q (Quiet.ld rfl ag_3) rfl ?_
      refine G.mv rfl rfl ?_
      refine G.q (Quiet.add rfl rfl (by omega)) rfl ?_
      refine G.q (Quiet.nilp rfl) rfl (G.q (Quiet.fieldAddr rfl fo_208_1) rfl ?_)
      refine G.oq (OpSpec.store rfl rfl rfl sz_3 ?c129 ?c130) ?nx131
      case c129 => first | decide | (simp; omega) | simp
      case c130 => exact nfz0 _ _
      rintro v L' rfl
      refine G.nil (G.then_n (G.seq (G.region (G.mv rfl rfl (G.ag rfl rfl (G.nil (G.then_n (G.ret (G.blk_r (G.then_r (G.then_r (G.blk_r ?_))))))))))))
      refine G.rfFold (r := r) s (k + (j + 1)) (0) (by (repeat' constructor)) (by first | rfl | (simp only [List.set]; congr; omega)) (by omega) hsz ?_
      exact G.dn (l := [.tmp 2]) rfl rfl ⟨_, j + 1, 0, .inr ⟨rfl, rfl, by omega, by rw [← hsv, sevP_at hlt, if_neg hnb, if_pos (by omega)]; rfl⟩, rfl, rfl⟩
 ·refine G.mv rfl rfl (G.q (Quiet.nilp rfl) rfl (G.q (Quiet.fieldAddr rfl fo_208_2) rfl ?_))
  refine G.q (Quiet.ld rfl ag_25) rfl ?_
  refine G.q (Quiet.as (v' := .bool true) (by simp [he0]) (Quiet.int rfl rfl rfl)) rfl ?_
  refine G.nil (G.then_n (G.condT rfl (G.seq (G.region (G.ag rfl rfl (G.nil (G.then_n (G.ret (G.then_r ?_)))))))))
  refine G.rfFold (r := r) s (k) (e) (by (repeat' constructor)) (by first | rfl | (simp only [List.set]; congr; omega)) (by omega) hsz ?_
  exact G.dn (l := [.tmp 2]) rfl rfl ⟨0, 0, e, .inl ⟨.inl he0, rfl, rfl, he0⟩, rfl, rfl⟩

theorem rfzag_spec (u : Nat) (hu : u < U64) : Fn Tryz.prog 198 #[.int .u64 (u : Nat)] [] fun v L => v = vint (zagZ u) ∧ L = [] := by
 refine Fn.intro (vs := [.int .u64 (u : Nat)]) Tryz.func198 rfl rfl ?_
 intro F W
 have h64 : U64 = 18446744073709551616 := rfl
 refine G.seq (G.region (G.ag rfl rfl (G.nil (G.then_n (G.seq (G.seq (G.region (G.mv rfl rfl ?_))))))))
 refine G.q (Quiet.to (v' := .int .u64 ((u % 2 : Nat) : Int)) (Quiet.remU rfl rfl (by omega) (by decide)) (by rfl)) rfl ?_
 refine G.q (Quiet.int rfl rfl rfl) rfl (G.nil (G.then_n ?_))
 refine G.condD rfl (fun h5 => ?_) (fun h5 => ?_)
 ·refine G.seq (G.region (G.mv rfl rfl ?_))
  refine G.q (Quiet.to (v' := .int .u64 ((u / 2 : Nat) : Int)) (Quiet.quoU rfl rfl (by omega) (by decide)) (by rfl)) rfl ?_
  refine G.q (Quiet.as (v' := vint ((u / 2 : Nat) : Int)) (by rw [i64w (by omega)]) (Quiet.conv rfl Tryz.underlying190 Tryz.underlying3)) rfl ?_
  refine G.ag rfl rfl (G.nil (G.then_n (G.ret (G.then_r ?_))))
  exact G.dn (l := [.tmp 2]) rfl rfl ⟨congrArg vint (by unfold zagZ; rw [if_pos (by omega)]), rfl⟩
 ·refine G.skip (G.then_n (G.seq (G.region (G.mv rfl rfl ?_))))
  refine G.q (Quiet.to (v' := .int .u64 ((u / 2 : Nat) : Int)) (Quiet.quoU rfl rfl (by omega) (by decide)) (by rfl)) rfl ?_
  refine G.q (Quiet.as (v' := vint ((u / 2 : Nat) : Int)) (by rw [i64w (by omega)]) (Quiet.conv rfl Tryz.underlying190 Tryz.underlying3)) rfl ?_
  refine G.q (Quiet.neg rfl (by omega)) rfl ?_
  refine G.q (Quiet.sub rfl rfl (by omega)) rfl ?_
  refine G.ag rfl rfl (G.nil (G.then_n (G.ret ?_)))
  exact G.dn (l := [.tmp 2]) rfl rfl ⟨congrArg vint (by unfold zagZ; rw [if_neg (by omega)]), rfl⟩

theorem rfnumW_spec (r : Nat) (s : Bs) (k : Nat) (e : Int) : Fn Tryz.prog 170 #[vptr r] [rfW r s k e] fun v L => ∃ k' e', stW s k' e' = (runP 0 numP (stW s k e)).2 ∧ v = vint (runP 0 numP (stW s k e)).1 ∧ L = [rfW r s k' e'] := by
 refine Fn.intro (vs := [vptr r]) Tryz.func170 rfl rfl ?_
 intro F W
 refine G.seq (G.region (G.ag rfl rfl (G.nil (G.then_n (G.seq (G.region (G.mv rfl rfl ?_)))))))
 refine G.oq (OpSpec.call Tryz.func197 rfl rfl (vs := [_]) rfl (rfsevens_spec r s k e)) ?nx3
 rintro v L' ⟨u, m, e', hA, rfl, rfl⟩; have hu := hA.lt
 refine G.ag rfl rfl (G.nil (G.then_n (G.seq (G.region (G.mv rfl rfl ?_)))))
 refine G.oq (OpSpec.call Tryz.func198 rfl rfl (vs := [_]) rfl (rfzag_spec u hu)) ?nx5
 rintro v L' ⟨rfl, rfl⟩
 refine G.ag rfl rfl (G.nil (G.then_n (G.ret ?_)))
 rw [hA.num.2]
 exact G.dn (l := [.tmp 2]) rfl rfl ⟨k + m, e', hA.num.1, rfl, rfl⟩

theorem SevA.fine {s : Bs} {k : Nat} {e : Int} {u m : Nat} {e' : Int} (h : SevA s k e u m e') (g : e' ≠ 0) : u = 0 := by
  rcases h with ⟨-, rfl, -⟩ | ⟨-, h, -⟩
  · rfl
  · exact absurd h g
theorem rfcountW_spec (r most : Nat) (hm : most ≤ 4294967296) (s : Bs) (k : Nat) (e : Int) : Fn Tryz.prog 171 #[vptr r, vint most] [rfW r s k e] fun v L => ∃ k' e', k' ≤ s.length ∧ stW s k' e' = (runP 0 (cntP most) (stW s k e)).2 ∧ v = vint ((runP 0 (cntP most) (stW s k e)).1 : Nat) ∧ L = [rfW r s k' e'] := by
 refine Fn.intro (vs := [vptr r, vint most]) Tryz.func171 rfl rfl ?_
 intro F W
 refine G.rfOpen (by (repeat' constructor)) fun hkl hsz => ?_
 refine G.seq (G.region (G.ag rfl rfl (G.nil (G.then_n (G.seq (G.region (G.mv rfl rfl (G.q (Quiet.nilp rfl) rfl (G.q (Quiet.fieldAddr rfl fo_208_1) rfl ?_)))))))))
 refine G.q (Quiet.ld rfl ag_3) rfl ?_
 refine G.ag rfl rfl (G.nil ?_)
 refine G.rfFold (r := r) s (k) (e) (by (repeat' constructor)) (by first | rfl | (simp only [List.set]; congr; omega)) (by omega) hsz ?_
 refine G.then_n (G.seq (G.region (G.mv rfl rfl ?_)))
 refine G.oq (OpSpec.call Tryz.func197 rfl rfl (vs := [_]) rfl (rfsevens_spec r s k e)) ?nx7
 rintro v L' ⟨u, m, e', hA, rfl, rfl⟩; have hu := hA.lt
 refine G.ag rfl rfl (G.nil (G.then_n (G.seq (G.seq ?_))))
 refine G.rfOpen (by (repeat' constructor)) fun hkm hsz => ?_
 refine G.region (G.mv rfl rfl (G.q (Quiet.nilp rfl) rfl (G.q (Quiet.fieldAddr rfl fo_208_2) rfl ?_)))
 refine G.q (Quiet.ld rfl ag_25) rfl ?_
 refine G.q (Quiet.int rfl rfl rfl) rfl (G.mv rfl rfl ?_)
 refine G.dec (t := 18) rfl (fun h3_18 => ?_) (fun h3_18 => ?_)
 ·refine G.kDT (t := 17) rfl h3_18 (G.grun (t := 18) rfl rfl rfl (G.mv rfl rfl (G.grun (t := 18) rfl rfl rfl (G.mv rfl rfl (G.grun (t := 18) rfl rfl rfl ?_)))))
  refine G.q (Quiet.as (v' := vint (most : Nat)) (by rw [Int.max_eq_left (by omega)]) (Quiet.max2 rfl rfl)) rfl ?_
  refine G.grun (t := 18) rfl rfl rfl ?_
  refine G.q (Quiet.as (v' := .int .u64 (most : Nat)) (by exact congrArg (Value.int .u64) (by rw [u64wrap]; omega)) (Quiet.conv rfl Tryz.underlying3 Tryz.underlying190)) rfl ?_
  refine G.grun (t := 18) rfl rfl rfl (G.q (Quiet.int rfl rfl rfl) rfl (G.q (Quiet.pickT rfl rfl) rfl (G.nil (G.then_n ?_))))
  refine G.condD rfl (fun h24 => ?_) (fun h24 => ?_)
  ·refine G.seq (G.region (G.mv rfl rfl (G.mv rfl rfl (G.q (Quiet.nilp rfl) rfl (G.q (Quiet.fieldAddr rfl fo_208_1) rfl ?_)))))
   refine G.oq (OpSpec.store rfl rfl rfl sz_3 ?c21 ?c22) ?nx23
   case c21 => first | decide | (simp; omega) | simp
   case c22 => exact nfz0 _ _
   rintro v L' rfl
   refine G.nil ?_
   refine G.rfFold (r := r) s (k) (e') (by (repeat' constructor)) (by first | rfl | (simp only [List.set]; congr; omega)) (by omega) hsz ?_
   refine G.then_n (G.seq (G.region (G.mv rfl rfl ?_)))
   refine G.oq (OpSpec.call Tryz.func199 rfl rfl (vs := [_, _]) rfl (rfwrong_spec r s k e' 12)) ?nx25
   rintro v L' ⟨rfl, rfl⟩
   refine G.nil (G.then_n (G.seq (G.region (G.ag rfl rfl (G.nil (G.then_n (G.ret (G.then_r ?_))))))))
   rw [hA.cntT (most := most) (by omega)]
   exact G.dn (l := [.tmp 4]) rfl rfl ⟨k, _, hkl, st_none (x := 12) (by decide), rfl, rfl⟩
  ·refine G.skip (G.then_n (G.seq ?_))
   have hnm : ¬ most < u := by omega
   have hu64 : U64 = 18446744073709551616 := rfl
   refine G.region (G.mv rfl rfl ?_)
   refine G.q (Quiet.as (v' := vint (u : Nat)) (by rw [i64w (by have : u ≤ most := Nat.not_lt.1 hnm; omega)]) (Quiet.conv rfl Tryz.underlying190 Tryz.underlying3)) rfl ?_
   refine G.ag rfl rfl (G.nil (G.then_n (G.ret ?_)))
   refine G.rfFold (r := r) s (k + m) (e') (by (repeat' constructor)) (by first | rfl | (simp only [List.set]; congr; omega)) (by omega) hsz ?_
   obtain ⟨hc1, hc2⟩ := hA.cntF hnm
   rw [hc2]
   exact G.dn (l := [.tmp 4]) rfl rfl ⟨k + m, e', hkm, hc1, rfl, rfl⟩
 ·refine G.kDF (t := 17) rfl h3_18 (G.gskip (t := 18) rfl rfl rfl rfl (G.gskip (t := 18) rfl rfl rfl rfl (G.gskip (t := 18) rfl rfl rfl rfl (G.gskip (t := 18) rfl rfl rfl rfl (G.gskip (t := 18) rfl rfl rfl rfl (G.q (Quiet.pickF rfl rfl) rfl (G.nil (G.then_n (G.condF rfl (G.skip (G.then_n (G.seq ?_))))))))))))
  have hnm : ¬ most < u := by have := hA.fine h3_18; omega
  have hu64 : U64 = 18446744073709551616 := rfl
  refine G.region (G.mv rfl rfl ?_)
  refine G.q (Quiet.as (v' := vint (u : Nat)) (by rw [i64w (by have : u ≤ most := Nat.not_lt.1 hnm; omega)]) (Quiet.conv rfl Tryz.underlying190 Tryz.underlying3)) rfl ?_
  refine G.ag rfl rfl (G.nil (G.then_n (G.ret ?_)))
  refine G.rfFold (r := r) s (k + m) (e') (by (repeat' constructor)) (by first | rfl | (simp only [List.set]; congr; omega)) (by omega) hsz ?_
  obtain ⟨hc1, hc2⟩ := hA.cntF hnm
  rw [hc2]
  exact G.dn (l := [.tmp 4]) rfl rfl ⟨k + m, e', hkm, hc1, rfl, rfl⟩

theorem st_bad {s : Bs} {k : Nat} {e : Int} (h : ¬ e = 0) : stW s k e = none := if_neg h
theorem txt_bad {most : Nat} {st : Rs} (h : (runP 0 (cntP most) st).2 = none) : (runP [] (txtP most) st).2 = none ∧ (runP [] (txtP most) st).1 = [] := by
  cases st with
  | none => exact ⟨rfl, rfl⟩
  | some q =>
    cases hc : cntP most q with
    | none => have f2 : runP [] (txtP most) (some q) = ([], none) := by unfold runP txtP; dsimp only; rw [hc]
              rw [f2]; exact ⟨rfl, rfl⟩
    | some x => have f : runP 0 (cntP most) (some q) = (x.1, some x.2) := by unfold runP; dsimp only; rw [hc]
                rw [f] at h; cases h
theorem rftextW_spec (r most : Nat) (hm : most ≤ 4294967296) (s : Bs) (k : Nat) (e : Int) : Fn Tryz.prog 233 #[vptr r, vint most] [rfW r s k e] fun v L => ∃ k' e', stW s k' e' = (runP [] (txtP most) (stW s k e)).2 ∧ v = vstr (runP [] (txtP most) (stW s k e)).1 ∧ L = [rfW r s k' e'] := by
 refine Fn.intro (vs := [vptr r, vint most]) Tryz.func233 rfl rfl ?_
 intro F W
 refine G.rfOpen (by (repeat' constructor)) fun hkl hsz => ?_
 refine G.seq (G.region (G.ag rfl rfl (G.nil (G.then_n (G.seq (G.region (G.mv rfl rfl (G.q (Quiet.nilp rfl) rfl (G.q (Quiet.fieldAddr rfl fo_208_1) rfl ?_)))))))))
 refine G.q (Quiet.ld rfl ag_3) rfl ?_
 refine G.ag rfl rfl (G.nil ?_)
 refine G.rfFold (r := r) s (k) (e) (by (repeat' constructor)) (by first | rfl | (simp only [List.set]; congr; omega)) (by omega) hsz ?_
 refine G.then_n (G.seq (G.region (G.mv rfl rfl (G.mv rfl rfl ?_))))
 refine G.oq (OpSpec.call Tryz.func171 rfl rfl (vs := [_, _]) rfl (rfcountW_spec r most hm s k e)) ?nx8
 rintro v L' ⟨k1, e1, hk1, hs1, rfl, rfl⟩; obtain ⟨n, hn⟩ : ∃ n, n = (runP 0 (cntP most) (stW s k e)).1 := ⟨_, rfl⟩; rw [← hn]
 refine G.ag rfl rfl (G.nil ?_)
 have hrun := txt_run hs1 hn hk1
 refine G.then_n (G.seq (G.seq ?_))
 refine G.rfOpen (by (repeat' constructor)) fun _ _ => ?_
 refine G.region (G.mv rfl rfl (G.q (Quiet.nilp rfl) rfl (G.q (Quiet.fieldAddr rfl fo_208_2) rfl ?_)))
 refine G.q (Quiet.ld rfl ag_25) rfl ?_
 refine G.q (Quiet.int rfl rfl rfl) rfl (G.nil (G.then_n ?_))
 refine G.condN rfl (fun h19 => ?_) (fun h19 => ?_)
 ·have hst1 := st_bad (s := s) (k := k1) h19
  rw [hs1] at hst1
  obtain ⟨hb1, hb2⟩ := txt_bad hst1
  refine G.seq (G.region (G.ag rfl rfl (G.nil (G.then_n (G.ret (G.then_r ?_))))))
  refine G.rfFold (r := r) s (k1) (e1) (by (repeat' constructor)) (by first | rfl | (simp only [List.set]; congr; omega)) (by omega) hsz ?_
  rw [hb2]
  exact G.dn (l := [.tmp 4]) rfl rfl ⟨k1, e1, (by rw [hb1]; exact st_bad h19), rfl, rfl⟩
 ·refine G.skip (G.then_n (G.seq (G.seq ?_)))
  refine G.draw [] [[0, 1, 2, 3, 4, 5, 6, 7, 8, 9, 10, 11]] mixed (by kernel_rfl) ?_
  refine Phases.go [] (by (repeat' constructor)) ?_
  refine D.kw [1, 2, 3, 4, 9, 11] rfl (Quiet.move rfl) ?_
  refine D.kw [2, 3, 4, 9, 11] rfl (Quiet.nilp rfl) ?_
  refine D.kw [3, 4, 9, 11] rfl (Quiet.fieldAddr rfl fo_208_0) ?_
  refine D.kw [4, 9, 11] rfl (Quiet.ld rfl ag_9) ?_
  refine D.kw [9, 11] rfl (Quiet.strlen rfl Tryz.underlying9 rfl) ?_
  refine D.kw [6, 7, 8, 9, 11] rfl (Quiet.move rfl) ?_
  refine D.kw [7, 8, 9, 11] rfl (Quiet.nilp rfl) ?_
  refine D.kw [8, 9, 11] rfl (Quiet.fieldAddr rfl fo_208_1) ?_
  refine D.kw [9, 11] rfl (Quiet.ld rfl ag_3) ?_
  refine D.kw [11] rfl (Quiet.sub rfl rfl (by omega)) ?_
  refine D.kw [11] rfl (Quiet.move rfl) ?_
  refine D.kw [] rfl (Quiet.int rfl rfl rfl) ?_
  refine D.ph (Phases.fin (G.then_n ?_))
  refine G.condD rfl (fun h31 => ?_) (fun h31 => ?_)
  ·refine G.seq (G.region (G.mv rfl rfl (G.mv rfl rfl (G.q (Quiet.nilp rfl) rfl (G.q (Quiet.fieldAddr rfl fo_208_1) rfl ?_)))))
   refine G.oq (OpSpec.store rfl rfl rfl sz_3 ?c30 ?c31) ?nx32
   case c30 => first | decide | (simp; omega) | simp
   case c31 => exact nfz0 _ _
   rintro v L' rfl
   refine G.nil ?_
   refine G.rfFold (r := r) s (k) (e1) (by (repeat' constructor)) (by first | rfl | (simp only [List.set]; congr; omega)) (by omega) hsz ?_
   refine G.then_n (G.seq (G.region (G.mv rfl rfl ?_)))
   refine G.oq (OpSpec.call Tryz.func199 rfl rfl (vs := [_, _]) rfl (rfwrong_spec r s k e1 10)) ?nx34
   rintro v L' ⟨rfl, rfl⟩
   refine G.nil (G.then_n (G.seq (G.region (G.ag rfl rfl (G.nil (G.then_n (G.ret (G.then_r ?_))))))))
   rw [hrun.1 (by omega)]
   exact G.dn (l := [.tmp 4]) rfl rfl ⟨k, _, st_none (x := 10) (by decide), rfl, rfl⟩
  ·obtain ⟨hr1, hr2⟩ := hrun.2 (by omega)
   refine G.skip (G.then_n (G.seq ?_))
   refine G.draw [] [[0, 1, 2, 3, 4, 5, 6, 7, 8, 9, 10, 11, 12, 13, 14, 15]] mixed (by kernel_rfl) ?_
   refine Phases.go [] (by (repeat' constructor)) ?_
   refine D.kw [1, 2, 3, 14, 15] rfl (Quiet.move rfl) ?_
   refine D.kw [2, 3, 14, 15] rfl (Quiet.nilp rfl) ?_
   refine D.kw [3, 14, 15] rfl (Quiet.fieldAddr rfl fo_208_0) ?_
   refine D.kw [14, 15] rfl (Quiet.ld rfl ag_9) ?_
   refine D.kw [5, 6, 7, 14, 15] rfl (Quiet.move rfl) ?_
   refine D.kw [6, 7, 14, 15] rfl (Quiet.nilp rfl) ?_
   refine D.kw [7, 14, 15] rfl (Quiet.fieldAddr rfl fo_208_1) ?_
   refine D.kw [14, 15] rfl (Quiet.ld rfl ag_3) ?_
   refine D.kw [9, 10, 11, 13, 14, 15] rfl (Quiet.move rfl) ?_
   refine D.kw [10, 11, 13, 14, 15] rfl (Quiet.nilp rfl) ?_
   refine D.kw [11, 13, 14, 15] rfl (Quiet.fieldAddr rfl fo_208_1) ?_
   refine D.kw [13, 14, 15] rfl (Quiet.ld rfl ag_3) ?_
   refine D.kw [13, 14, 15] rfl (Quiet.move rfl) ?_
   refine D.kw [14, 15] rfl (Quiet.as (v' := vint ((k1 + n : Nat) : Int)) (by first | rfl | (congr 1; omega)) (Quiet.add rfl rfl (by omega))) ?_
   refine D.kw [15] rfl (Quiet.to (v' := vstr ((s.take (k1 + n)).drop k1)) (Quiet.strMid rfl rfl rfl Tryz.underlying9 (by omega)) (by rfl)) ?_
   refine D.kw [] rfl (Quiet.assign rfl) ?_
   refine D.ph (Phases.fin (G.then_n (G.seq (G.region (G.mv rfl rfl (G.mv rfl rfl (G.q (Quiet.nilp rfl) rfl (G.q (Quiet.fieldAddr rfl fo_208_1) rfl ?_))))))))
   refine G.q (Quiet.ld rfl ag_3) rfl ?_
   refine G.mv rfl rfl ?_
   refine G.q (Quiet.add rfl rfl (by omega)) rfl ?_
   refine G.q (Quiet.nilp rfl) rfl (G.q (Quiet.fieldAddr rfl fo_208_1) rfl ?_)
   refine G.oq (OpSpec.store rfl rfl rfl sz_3 ?c59 ?c60) ?nx61
   case c59 => first | decide | (simp; omega) | simp
   case c60 => exact nfz0 _ _
   rintro v L' rfl
   refine G.nil (G.then_n (G.seq (G.region (G.mv rfl rfl (G.ag rfl rfl (G.nil (G.then_n (G.ret ?_))))))))
   refine G.rfFold (r := r) s (k1 + n) (e1) (by (repeat' constructor)) (by first | rfl | (simp only [List.set]; congr; omega)) (by omega) hsz ?_
   rw [hr2]
   exact G.dn (l := [.tmp 4]) rfl rfl ⟨k1 + n, e1, hr1, rfl, rfl⟩

theorem rfendW_spec (r : Nat) (s : Bs) (k : Nat) (e : Int) : Fn Tryz.prog 172 #[vptr r] [rfW r s k e] fun v L => ∃ e1, (e1 = 0 ↔ stW s k e = some []) ∧ v = vint e1 ∧ L = [rfW r s k e1] := by
 refine Fn.intro (vs := [vptr r]) Tryz.func172 rfl rfl ?_
 intro F W
 refine G.rfOpen (by (repeat' constructor)) fun hkl hsz => ?_
 refine G.seq (G.region (G.ag rfl rfl (G.nil (G.then_n (G.seq (G.seq ?_))))))
 refine G.draw [] [[0, 1, 2, 3, 4, 5, 6, 7, 8, 9]] mixed (by kernel_rfl) ?_
 refine Phases.go [] (by (repeat' constructor)) ?_
 refine D.kw [1, 2, 3, 9] rfl (Quiet.move rfl) ?_
 refine D.kw [2, 3, 9] rfl (Quiet.nilp rfl) ?_
 refine D.kw [3, 9] rfl (Quiet.fieldAddr rfl fo_208_1) ?_
 refine D.kw [9] rfl (Quiet.ld rfl ag_3) ?_
 refine D.kw [5, 6, 7, 8, 9] rfl (Quiet.move rfl) ?_
 refine D.kw [6, 7, 8, 9] rfl (Quiet.nilp rfl) ?_
 refine D.kw [7, 8, 9] rfl (Quiet.fieldAddr rfl fo_208_0) ?_
 refine D.kw [8, 9] rfl (Quiet.ld rfl ag_9) ?_
 refine D.kw [9] rfl (Quiet.strlen rfl Tryz.underlying9 rfl) ?_
 refine D.kw [] rfl (Quiet.int rfl rfl rfl) ?_
 refine D.ph (Phases.fin (G.then_n ?_))
 refine G.condN rfl (fun h12 => ?_) (fun h12 => ?_)
 ·refine G.rfFold (r := r) s (k) (e) (by (repeat' constructor)) (by first | rfl | (simp only [List.set]; congr; omega)) (by omega) hsz ?_
  refine G.region (G.mv rfl rfl ?_)
  refine G.oq (OpSpec.call Tryz.func199 rfl rfl (vs := [_, _]) rfl (rfwrong_spec r s k e 11)) ?nx13
  rintro v L' ⟨rfl, rfl⟩
  refine G.nil (G.then_n (G.seq ?_))
  refine G.rfOpen (by (repeat' constructor)) fun _ _ => ?_
  refine G.region (G.mv rfl rfl (G.q (Quiet.nilp rfl) rfl (G.q (Quiet.fieldAddr rfl fo_208_2) rfl ?_)))
  refine G.q (Quiet.ld rfl ag_25) rfl ?_
  refine G.ag rfl rfl (G.nil (G.then_n (G.ret ?_)))
  refine G.rfFold (r := r) s (k) (if e = 0 then 11 else e) (by (repeat' constructor)) (by first | rfl | (simp only [List.set]; congr; omega)) (by omega) hsz ?_
  exact G.dn (l := [.tmp 2]) rfl rfl ⟨_, end_T (by omega), rfl, rfl⟩
 ·refine G.skip (G.then_n (G.seq (G.region (G.mv rfl rfl (G.q (Quiet.nilp rfl) rfl (G.q (Quiet.fieldAddr rfl fo_208_2) rfl ?_))))))
  refine G.q (Quiet.ld rfl ag_25) rfl ?_
  refine G.ag rfl rfl (G.nil (G.then_n (G.ret ?_)))
  refine G.rfFold (r := r) s (k) (e) (by (repeat' constructor)) (by first | rfl | (simp only [List.set]; congr; omega)) (by omega) hsz ?_
  exact G.dn (l := [.tmp 2]) rfl rfl ⟨_, end_F (by omega), rfl, rfl⟩

theorem rfnum_spec (r : Nat) (st : Rs) : Fn Tryz.prog 170 #[vptr r] [rfR r st] fun v L => v = vint (runP 0 numP st).1 ∧ L = [rfR r (runP 0 numP st).2] := Fn.rfUp (v := vint) (fun s k e => rfnumW_spec r s k e) st
theorem rfcount_spec (r most : Nat) (hm : most ≤ 4294967296) (st : Rs) : Fn Tryz.prog 171 #[vptr r, vint most] [rfR r st] fun v L => v = vint ((runP 0 (cntP most) st).1 : Nat) ∧ L = [rfR r (runP 0 (cntP most) st).2] := Fn.rfUp (v := fun n : Nat => vint n) (fun s k e => (rfcountW_spec r most hm s k e).mono fun _ _ ⟨k', e', _, h⟩ => ⟨k', e', h⟩) st
theorem rftext_spec (r most : Nat) (hm : most ≤ 4294967296) (st : Rs) : Fn Tryz.prog 233 #[vptr r, vint most] [rfR r st] fun v L => v = vstr (runP [] (txtP most) st).1 ∧ L = [rfR r (runP [] (txtP most) st).2] := Fn.rfUp (v := vstr) (fun s k e => rftextW_spec r most hm s k e) st
theorem rfend_spec (r : Nat) (st : Rs) : Fn Tryz.prog 172 #[vptr r] [rfR r st] fun v L => ∃ e1, (e1 = 0 ↔ st = some []) ∧ v = vint e1 ∧ ∃ st', L = [rfR r st'] := Fn.rfEnd (fun s k e => rfendW_spec r s k e) st
end Go.Proofs.YtidjhgbdokcphaaGreat

/- Own work, by program: the document's reader of entries: walked. -/
namespace Go.Proofs.YtidjhgbdokcphaaGreat
open Go
theorem rfnumR_spec (r : Nat) (st : Rs) : Fn Tryz.prog 170 #[vptr r] [rfR r st] fun v L => v = vint (numR st).1 ∧ L = [rfR r (numR st).2] := rfnum_spec r st
theorem rftxtR_spec (r : Nat) (st : Rs) : Fn Tryz.prog 233 #[vptr r, vint 4096] [rfR r st] fun v L => v = vstr (txtR st).1 ∧ L = [rfR r (txtR st).2] := rftext_spec r 4096 (by decide) st
theorem many_none {α : Type} {f : Rn α} (hf : (f none).2 = none) {st : Rs} : ∀ (k j : Nat), (manyR f j st).2 = none → (manyR f (j + k) st).2 = none
  | 0, _, h => h
  | k + 1, j, h => by
    show (f (manyR f (j + k) st).2).2 = none
    rw [many_none hf k j h]; exact hf
theorem many_stop {α : Type} {f : Rn α} (hf : (f none).2 = none) {st : Rs} {j m : Nat} (hj : j ≤ m) (h : (manyR f j st).2 = none) : (manyR f m st).2 = none := by
  have := many_none hf (m - j) j h
  rwa [show j + (m - j) = m by omega] at this
theorem many_fine {α : Type} {f : Rn α} (hf : (f none).2 = none) {st : Rs} {m : Nat} (h : (manyR f m st).2 ≠ none) : st ≠ none := fun g => h (many_stop (j := 0) hf (Nat.zero_le _) g)
theorem take_set (l : List Int) (k : Nat) (v : Int) : (ints l ++ List.replicate (k + 1) (vint 0)).set (0 + l.length * 1) (vint v) = ints (l ++ [v]) ++ List.replicate k (vint 0) := by
  have hl : (ints l).length = l.length := by simp [ints]
  rw [Nat.zero_add, Nat.mul_one, List.set_append_right _ _ (by omega), hl, Nat.sub_self, List.replicate_succ]
  simp [ints]
theorem r2count_spec (r : Nat) (st : Rs) : Fn Tryz.prog 227 #[vptr r] [rfR r st] fun v L => v = vint ((cntR st).1 : Nat) ∧ L = [rfR r (cntR st).2] := by
 refine Fn.intro (vs := [vptr r]) Tryz.func227 rfl rfl ?_
 intro F W
 refine G.seq (G.region (G.ag rfl rfl (G.nil (G.then_n (G.seq (G.region (G.mv rfl rfl ?_)))))))
 refine G.oq (OpSpec.call Tryz.func171 rfl rfl (vs := [_, _]) rfl (rfcount_spec r 256 (by decide) st)) ?nx3
 rintro v L' ⟨rfl, rfl⟩
 refine G.ag rfl rfl (G.nil (G.then_n (G.ret ?_)))
 exact G.dn (l := [.tmp 2]) rfl rfl ⟨rfl, rfl⟩

theorem r2take_spec (r n : Nat) (st : Rs) (hn : n ≤ 1048576) : Fn Tryz.prog 213 #[vptr r, vint n] [rfR r st] fun v L => ∃ b, v = .slice (some ⟨b, 0, none⟩) n n ∧ L = [rfR r (manyR numR n st).2, ptc b (ints (manyR numR n st).1) 3] := by
 refine Fn.intro (vs := [vptr r, vint n]) Tryz.func213 rfl rfl ?_
 intro F W
 refine G.seq (G.region (G.ag rfl rfl (G.nil (G.then_n (G.seq (G.region (G.mv rfl rfl ?_)))))))
 refine G.oq (OpSpec.make rfl rfl el_31 ze_3 rfl ⟨by simp, by simp; rfl⟩ ?c3) ?nx4
 case c3 => omega
 rintro v L' ⟨bz, rfl, rfl⟩
 refine G.ag rfl rfl (G.nil ?_)
 simp only [Int.toNat_natCast, Nat.mul_one]
 refine G.ptCast (b := bz) (l' := ints (manyR numR 0 st).1 ++ List.replicate (n - 0) (vint 0)) (by (repeat' constructor)) rfl ?_
 refine G.then_n (G.seq (G.seq (G.region (G.ag rfl rfl (G.nil (G.then_n (G.block ?_)))))))
 refine G.loopK (ι := Nat) (fun q E => (6, vint q) :: E) (fun q => [rfR r (manyR numR q st).2, ptc bz (ints (manyR numR q st).1 ++ List.replicate (n - q) (vint 0)) 3]) (fun q => q ≤ n) (fun q => n - q) (0) (ts := [0, 1, 4, 5]) (.cons rfl (.cons rfl (.cons rfl (.cons rfl (.nil))))) (Nat.zero_le _) ⟨rfl, rfl, rfl, rfl, rfl, trivial⟩ (by (repeat' constructor)) ?_
 rintro j hj
 refine G.seq (G.seq (G.region (G.mv rfl rfl (G.mv rfl rfl (G.q (Quiet.int rfl rfl rfl) rfl (G.nil (G.then_n ?_)))))))
 refine G.condD rfl (fun h11 => ?_) (fun h11 => ?_)
 ·have hj2 : j < n := by omega
  have hml := many_len numR st j
  refine G.skip (G.then_n (G.seq (G.block (G.region (G.mv rfl rfl (G.mv rfl rfl (G.mv rfl rfl ?_)))))))
  refine G.oq (OpSpec.call Tryz.func170 rfl rfl (vs := [_]) rfl (rfnumR_spec _ _)) ?nx13
  rintro v L' ⟨rfl, rfl⟩
  refine G.q (Quiet.indexAddr rfl rfl el_31 (by omega)) rfl ?_
  refine G.oq (OpSpec.store rfl rfl rfl sz_3 ?c16 ?c17) ?nx18
  case c16 => simp [ints, hml]; omega
  case c17 => exact nfz0 _ _
  rintro v L' rfl
  refine G.nil (G.blk_n (G.then_n (G.region (G.mv rfl rfl ?_))))
  refine G.q (Quiet.add rfl rfl (by omega)) rfl ?_
  refine G.ag rfl rfl (G.nil (G.then_n ?_))
  refine G.ptCast (b := bz) (l' := ints (manyR numR (j + 1) st).1 ++ List.replicate (n - (j + 1)) (vint 0)) (by (repeat' constructor)) (by rw [Int.toNat_natCast, show n - j = (n - (j + 1)) + 1 by omega]; have h := take_set (manyR numR j st).1 (n - (j + 1)) (numR (manyR numR j st).2).1; rw [many_len] at h; exact h) ?_
  exact G.roundK (j + 1) (by omega) (by omega) ⟨rfl, rfl, rfl, rfl, rfl, trivial⟩ (by (repeat' constructor)) (by ((repeat (apply Have.cons; (repeat (first | exact Pick.here | apply Pick.there)))); apply Have.base; repeat' constructor))
 ·obtain rfl : j = n := by omega
  refine G.ptCast (b := bz) (l' := ints (manyR numR j st).1) (by (repeat' constructor)) (by simp) ?_
  refine G.exit (G.then_e (G.then_e (G.blk_e (G.then_n (G.seq (G.region (G.mv rfl rfl (G.ag rfl rfl (G.nil (G.then_n (G.ret ?_)))))))))))
  exact G.dn (l := [.tmp 4]) rfl rfl ⟨bz, rfl, rfl⟩

theorem r2tacls_spec (r : Nat) (st : Rs) : Fn Tryz.prog 234 #[vptr r] [rfR r st] fun v L => ∃ (l : List Ac) (a : Option Addr) (c : Nat), v = .slice a l.length c ∧ l.length ≤ 256 ∧ ((rowsR acR st).2 ≠ none → l = (rowsR acR st).1) ∧ L = [rfR r (rowsR acR st).2, slR 210 2 v l.length (l.flatMap acC)] := by
 refine Fn.intro (vs := [vptr r]) Tryz.func234 rfl rfl ?_
 intro F W
 obtain ⟨m, hm⟩ : ∃ m, m = (cntR st).1 := ⟨_, rfl⟩
 obtain ⟨st1, hst1⟩ : ∃ s, s = (cntR st).2 := ⟨_, rfl⟩
 have hm2 := cntR_le st
 have hrow : rowsR acR st = manyR acR m st1 := by rw [hm, hst1]; rfl
 rw [hrow]
 refine G.seq (G.region (G.ag rfl rfl (G.nil (G.then_n (G.seq (G.add (slR_nil 210 2) (G.region (G.ag rfl rfl (G.nil (G.then_n (G.seq (G.region (G.mv rfl rfl ?_)))))))))))))
 refine G.oq (OpSpec.call Tryz.func227 rfl rfl (vs := [_]) rfl (r2count_spec r st)) ?nx4
 rintro v L' ⟨rfl, rfl⟩; rw [show (cntR st).1 = m from hm.symm, show (cntR st).2 = st1 from hst1.symm]
 refine G.ag rfl rfl (G.nil (G.then_n (G.seq (G.seq (G.region (G.ag rfl rfl (G.nil (G.then_n (G.block ?_)))))))))
 refine G.loopK (ι := Nat × Value) (fun q E => (5, vint q.1) :: (3, q.2) :: E) (fun q => [rfR r (manyR acR q.1 st1).2, slR 210 2 q.2 q.1 ((manyR acR q.1 st1).1.flatMap acC)]) (fun q => q.1 ≤ m ∧ ∃ a c, q.2 = .slice a q.1 c) (fun q => m - q.1) (0, .slice none 0 0) (ts := [0, 2, 4]) (.cons rfl (.cons rfl (.cons rfl (.nil)))) (⟨Nat.zero_le _, none, 0, rfl⟩) ⟨rfl, rfl, rfl, rfl, rfl, trivial⟩ (by (repeat' constructor)) ?_
 rintro ⟨j, u⟩ ⟨hj, au, cu, hu⟩
 dsimp only
 dsimp only at hj hu
 subst hu
 refine G.seq (G.seq ?_)
 refine G.rfLook (r := r) (by (repeat' constructor)) fun s0 k0 e0 hst0 hk0 hs0 => ?_
 refine G.region (G.mv rfl rfl (G.mv rfl rfl (G.q (Quiet.int rfl rfl rfl) rfl (G.mv rfl rfl ?_))))
 refine G.dec (t := 13) rfl (fun h4_13 => ?_) (fun h4_13 => ?_)
 ·refine G.kDT (t := 12) rfl h4_13 (G.grun (t := 13) rfl rfl rfl (G.mv rfl rfl (G.grun (t := 13) rfl rfl rfl (G.q (Quiet.nilp rfl) rfl (G.grun (t := 13) rfl rfl rfl (G.q (Quiet.fieldAddr rfl fo_208_2) rfl (G.grun (t := 13) rfl rfl rfl ?_)))))))
  refine G.q (Quiet.ld rfl ag_25) rfl ?_
  refine G.grun (t := 13) rfl rfl rfl (G.q (Quiet.int rfl rfl rfl) rfl (G.q (Quiet.pickT rfl rfl) rfl (G.nil ?_)))
  refine G.rfFold (r := r) s0 k0 e0 (by (repeat' constructor)) rfl hk0 hs0 ?_
  refine G.rfUpF (r := r) (st := (manyR acR j st1).2) (by (repeat' constructor)) hst0 ?_
  refine G.then_n ?_
  refine G.condD rfl (fun h19 => ?_) (fun h19 => ?_)
  ·have hj2 : j < m := by omega
   refine G.skip (G.then_n (G.seq (G.block (G.seq (G.region (G.mv rfl rfl ?_))))))
   refine G.oq (OpSpec.call Tryz.func170 rfl rfl (vs := [_]) rfl (rfnumR_spec _ _)) ?nx16
   rintro v L' ⟨rfl, rfl⟩
   refine G.ag rfl rfl (G.nil (G.then_n (G.seq (G.region (G.mv rfl rfl ?_)))))
   refine G.oq (OpSpec.call Tryz.func233 rfl rfl (vs := [_, _]) rfl (rftxtR_spec r _)) ?nx19
   rintro v L' ⟨rfl, rfl⟩
   refine G.ag rfl rfl (G.nil (G.then_n (G.region (G.mv rfl rfl (G.mv rfl rfl (G.mv rfl rfl ?_))))))
   refine G.q (Quiet.to (v' := .agg (acC (acR (manyR acR j st1).2).1).toArray) (Quiet.build (us := [(0, _), (1, _)]) fl_210 ze_210 rfl rfl (by simp [isCell])) rfl) rfl ?_
   refine G.oq (OpSpec.buildSlice (vs := [_]) el_33 ze_210 rfl rfl rfl rfl (by first | (simp [Value.cells]; done) | (intro v hv; simp only [List.mem_cons, List.not_mem_nil, or_false] at hv; (repeat (first | (subst hv; rfl) | (rcases hv with hv | hv; (subst hv; rfl)))))) (by decide)) ?nx23
   rintro v L' ⟨b4, rfl, rfl⟩
   refine G.oq (OpSpec.append1 rfl rfl rfl el_33 ze_210 rfl rfl ?c25 ?c26 (Nat.le_refl _) ?c27 (by decide)) ?nx28
   case c25 => simp only [List.map_cons, List.map_nil, List.flatten_cons, List.flatten_nil, List.append_nil]; simp [Value.cells, acC, isCell]
   case c26 => rfl
   case c27 => omega
   rintro v L' ⟨⟨a5, c5, rfl⟩, rfl⟩
   refine G.ag rfl rfl (G.nil (G.blk_n (G.then_n (G.region (G.mv rfl rfl ?_)))))
   refine G.q (Quiet.add rfl rfl (by omega)) rfl ?_
   refine G.ag rfl rfl (G.nil (G.then_n ?_))
   refine G.slCast (T := 210) (sz := 2) (m' := j + 1) (xs' := (manyR acR (j + 1) st1).1.flatMap acC) (by (repeat' constructor)) (by exact rfl) (by show _ = ((manyR acR j st1).1 ++ [_]).flatMap acC; rw [List.flatMap_append]; simp [Value.cells, acC]) ?_
   exact G.roundK ((j + 1, .slice a5 (j + 1) c5)) (⟨by dsimp only; omega, _, _, rfl⟩) (by dsimp only; omega) ⟨rfl, rfl, rfl, rfl, rfl, trivial⟩ (by (repeat' constructor)) (by ((repeat (apply Have.cons; (repeat (first | exact Pick.here | apply Pick.there)))); apply Have.base; repeat' constructor))
  ·refine G.exit (G.then_e (G.then_e (G.blk_e (G.then_n (G.seq ?_)))))
   have hml := many_len acR st1 j
   have hbad : (manyR acR j st1).2 = none := by rw [← hst0]; exact st_bad h19
   have hfin := many_stop (f := acR) rfl hj hbad
   refine G.region (G.mv rfl rfl (G.ag rfl rfl (G.nil (G.then_n (G.ret ?_)))))
   rw [hfin, hbad]
   exact G.dn (l := [.tmp 2]) rfl rfl ⟨(manyR acR j st1).1, au, cu, (by rw [hml]), (by omega), (fun g => absurd rfl g), (by rw [hml])⟩
 ·refine G.kDF (t := 12) rfl h4_13 (G.gskip (t := 13) rfl rfl rfl rfl (G.gskip (t := 13) rfl rfl rfl rfl (G.gskip (t := 13) rfl rfl rfl rfl (G.gskip (t := 13) rfl rfl rfl rfl (G.gskip (t := 13) rfl rfl rfl rfl (G.q (Quiet.pickF rfl rfl) rfl (G.nil ?_)))))))
  refine G.rfFold (r := r) s0 k0 e0 (by (repeat' constructor)) rfl hk0 hs0 ?_
  refine G.rfUpF (r := r) (st := (manyR acR j st1).2) (by (repeat' constructor)) hst0 ?_
  refine G.then_n (G.condF rfl (G.exit (G.then_e (G.then_e (G.blk_e (G.then_n (G.seq ?_)))))))
  have hml := many_len acR st1 j
  have hjm : j = m := by omega
  subst hjm
  refine G.region (G.mv rfl rfl (G.ag rfl rfl (G.nil (G.then_n (G.ret ?_)))))
  exact G.dn (l := [.tmp 2]) rfl rfl ⟨(manyR acR j st1).1, au, cu, (by rw [hml]), (by omega), (fun _ => rfl), (by rw [hml])⟩

theorem r2tpart_spec (r : Nat) (st : Rs) : Fn Tryz.prog 226 #[vptr r] [rfR r st] fun v L => ∃ y : Pt, ((ptR st).2 ≠ none → y.pl = (ptR st).1) ∧ y.acl.length ≤ 256 ∧ isCell y.aclV = true ∧ y.subsV = nilV ∧ v = .agg (ptC y).toArray ∧ L = [rfR r (ptR st).2, aclR y] := by
 refine Fn.intro (vs := [vptr r]) Tryz.func226 rfl rfl ?_
 intro F W
 refine G.seq (G.region ?_)
 refine G.oq (OpSpec.allocA ze_36) ?nx1
 rintro v L' ⟨b2, rfl, rfl⟩
 refine G.nil (G.then_n (G.seq (G.region ?_)))
 refine G.q (Quiet.to (v' := .agg (ptC ⟨0, [], [], nilV, [], 0, 0, 0, nilV⟩).toArray) (Quiet.build (us := []) fl_36 ze_36 rfl rfl (by simp [isCell])) rfl) rfl ?_
 refine G.oq (OpSpec.allocA ze_36) ?nx4
 rintro v L' ⟨b3, rfl, rfl⟩
 refine G.oq (OpSpec.storeA rfl rfl ?c6 sz_36 ?c9 ?c7 ?c8) ?nx10
 case c6 => decide
 case c9 => rfl
 case c7 => simp [ptC]
 case c8 => exact nfz0 _ _
 rintro v L' rfl
 refine G.nil ?_
 refine G.ptCast (b := b3) (l' := ptC ⟨0, [], [], nilV, [], 0, 0, 0, nilV⟩) (by (repeat' constructor)) (by exact rfl) ?_
 refine G.then_n (G.seq (G.region (G.mv rfl rfl ?_)))
 refine G.oq (OpSpec.call Tryz.func170 rfl rfl (vs := [_]) rfl (rfnumR_spec _ _)) ?nx12
 rintro v L' ⟨rfl, rfl⟩
 refine G.q (Quiet.fieldAddr rfl fo_36_0) rfl ?_
 refine G.oq (OpSpec.store rfl rfl rfl sz_3 ?c15 ?c16) ?nx17
 case c15 => simp [ptC]
 case c16 => exact nfz0 _ _
 rintro v L' rfl
 refine G.nil (G.then_n (G.seq (G.region (G.mv rfl rfl ?_))))
 refine G.oq (OpSpec.call Tryz.func233 rfl rfl (vs := [_, _]) rfl (rftxtR_spec r _)) ?nx19
 rintro v L' ⟨rfl, rfl⟩
 refine G.q (Quiet.fieldAddr rfl fo_36_1) rfl ?_
 refine G.oq (OpSpec.store rfl rfl rfl sz_9 ?c22 ?c23) ?nx24
 case c22 => simp [ptC]
 case c23 => exact nfz0 _ _
 rintro v L' rfl
 refine G.nil (G.then_n (G.seq (G.region (G.mv rfl rfl ?_))))
 refine G.oq (OpSpec.call Tryz.func233 rfl rfl (vs := [_, _]) rfl (rftxtR_spec r _)) ?nx26
 rintro v L' ⟨rfl, rfl⟩
 refine G.q (Quiet.fieldAddr rfl fo_36_2) rfl ?_
 refine G.oq (OpSpec.store rfl rfl rfl sz_9 ?c29 ?c30) ?nx31
 case c29 => simp [ptC]
 case c30 => exact nfz0 _ _
 rintro v L' rfl
 refine G.nil (G.then_n (G.seq (G.region (G.mv rfl rfl ?_))))
 refine G.oq (OpSpec.call Tryz.func234 rfl rfl (vs := [_]) rfl (r2tacls_spec r _)) ?nx33
 rintro v L' ⟨la, aa, ca, rfl, hla, hlr, rfl⟩
 refine G.q (Quiet.fieldAddr rfl fo_36_3) rfl ?_
 refine G.oq (OpSpec.store rfl rfl rfl sz_33 ?c36 ?c37) ?nx38
 case c36 => simp [ptC]
 case c37 => exact nfz0 _ _
 rintro v L' rfl
 refine G.nil (G.then_n (G.seq (G.region (G.mv rfl rfl ?_))))
 refine G.oq (OpSpec.call Tryz.func213 rfl rfl (vs := [_, _]) rfl (r2take_spec r 3 _ (by decide))) ?nx40
 rintro v L' ⟨bt, rfl, rfl⟩
 refine G.ag rfl rfl (G.nil (G.then_n (G.seq (G.region (G.mv rfl rfl ?_)))))
 refine G.q (Quiet.indexAddr rfl rfl el_31 (by omega)) rfl ?_
 refine G.q (Quiet.ld rfl ag_3) rfl ?_
 refine G.q (Quiet.fieldAddr rfl fo_36_4) rfl ?_
 refine G.oq (OpSpec.store rfl rfl rfl sz_3 ?c45 ?c46) ?nx47
 case c45 => simp [ptC]
 case c46 => exact nfz0 _ _
 rintro v L' rfl
 refine G.nil (G.then_n (G.seq (G.region (G.mv rfl rfl ?_))))
 refine G.q (Quiet.indexAddr rfl rfl el_31 (by omega)) rfl ?_
 refine G.q (Quiet.ld rfl ag_3) rfl ?_
 refine G.q (Quiet.fieldAddr rfl fo_36_5) rfl ?_
 refine G.oq (OpSpec.store rfl rfl rfl sz_3 ?c51 ?c52) ?nx53
 case c51 => simp [ptC]
 case c52 => exact nfz0 _ _
 rintro v L' rfl
 refine G.nil (G.then_n (G.seq (G.region (G.mv rfl rfl ?_))))
 refine G.q (Quiet.indexAddr rfl rfl el_31 (by omega)) rfl ?_
 refine G.q (Quiet.ld rfl ag_3) rfl ?_
 refine G.q (Quiet.fieldAddr rfl fo_36_6) rfl ?_
 refine G.oq (OpSpec.store rfl rfl rfl sz_25 ?c57 ?c58) ?nx59
 case c57 => simp [ptC]
 case c58 => exact nfz0 _ _
 rintro v L' rfl
 refine G.nil ?_
 obtain ⟨y, hy⟩ : ∃ y : Pt, y = (⟨(numR st).1, (txtR (numR st).2).1, (txtR (txtR (numR st).2).2).1, .slice aa la.length ca, la, (numR (manyR numR 0 (rowsR acR (txtR (txtR (numR st).2).2).2).2).2).1, (numR (manyR numR 1 (rowsR acR (txtR (txtR (numR st).2).2).2).2).2).1, (numR (manyR numR 2 (rowsR acR (txtR (txtR (numR st).2).2).2).2).2).1, nilV⟩ : Pt) := ⟨_, rfl⟩
 refine G.ptCast (b := b3) (l' := ptC y) (by (repeat' constructor)) (by rw [hy]; exact rfl) ?_
 refine G.then_n (G.seq (G.region ?_))
 refine G.q (Quiet.loadAs (vs := ptC y) rfl ag_36 (by (repeat' constructor)) (by simp [ptC]) rfl) rfl ?_
 refine G.oq (OpSpec.storeA rfl rfl ?c61 sz_36 ?c64 ?c62 ?c63) ?nx65
 case c61 => exact pt_cells (by rw [hy]; rfl) (by rw [hy]; rfl)
 case c64 => rfl
 case c62 => simp [ptC]
 case c63 => exact nfz0 _ _
 rintro v L' rfl
 refine G.nil (G.then_n (G.ret ?_))
 refine G.ptCast (b := b2) (l' := ptC y) (by (repeat' constructor)) (by exact rfl) ?_
 subst hy
 exact G.done1 rfl (.cellA rfl ag_36 (by (repeat' constructor)) (by simp [ptC]) rfl) ⟨(⟨(numR st).1, (txtR (numR st).2).1, (txtR (txtR (numR st).2).2).1, .slice aa la.length ca, la, (numR (manyR numR 0 (rowsR acR (txtR (txtR (numR st).2).2).2).2).2).1, (numR (manyR numR 1 (rowsR acR (txtR (txtR (numR st).2).2).2).2).2).1, (numR (manyR numR 2 (rowsR acR (txtR (txtR (numR st).2).2).2).2).2).1, nilV⟩ : Pt), (fun g => by have h4 := many_fine (f := numR) (m := 3) (st := (rowsR acR (txtR (txtR (numR st).2).2).2).2) rfl g; have h5 := hlr h4; subst h5; rfl), hla, rfl, rfl, rfl, rfl⟩ (by (repeat' constructor)) (by (repeat' constructor))

theorem r2ttxn_spec (r : Nat) (st : Rs) : Fn Tryz.prog 214 #[vptr r] [rfR r st] fun v L => ∃ (y : Pt) (ys : List Pt) (a : Option Addr) (c : Nat), ((rowsR ptR (ptR st).2).2 ≠ none → y.pl = (ptR st).1 ∧ ys.map Pt.pl = (rowsR ptR (ptR st).2).1) ∧ isCell y.aclV = true ∧ (∀ z ∈ ys, isCell z.aclV = true ∧ z.subsV = nilV) ∧ v = .agg (ptC (y.ws (.slice a ys.length c))).toArray ∧ L = [rfR r (rowsR ptR (ptR st).2).2, aclR y, slR 36 8 (.slice a ys.length c) ys.length (ys.flatMap ptC), bigR aclR ys] := by
 refine Fn.intro (vs := [vptr r]) Tryz.func214 rfl rfl ?_
 intro F W
 obtain ⟨st0, hst00⟩ : ∃ s, s = (ptR st).2 := ⟨_, rfl⟩
 obtain ⟨m, hm⟩ : ∃ m, m = (cntR st0).1 := ⟨_, rfl⟩
 obtain ⟨st1, hst1⟩ : ∃ s, s = (cntR st0).2 := ⟨_, rfl⟩
 have hm2 := cntR_le st0
 have hrow : rowsR ptR st0 = manyR ptR m st1 := by rw [hm, hst1]; rfl
 rw [← hst00, hrow]
 refine G.seq (G.region ?_)
 refine G.oq (OpSpec.allocA ze_36) ?nx1
 rintro v L' ⟨b2, rfl, rfl⟩
 refine G.nil (G.then_n (G.seq (G.region (G.mv rfl rfl ?_))))
 refine G.oq (OpSpec.call Tryz.func226 rfl rfl (vs := [_]) rfl (r2tpart_spec r st)) ?nx4
 rintro v L' ⟨y, hyr, hyl, hyc, hys, rfl, rfl⟩; rw [← hst00] at hyr ⊢
 refine G.oq (OpSpec.allocA ze_36) ?nx6
 rintro v L' ⟨b3, rfl, rfl⟩
 refine G.oq (OpSpec.storeA rfl rfl ?c8 sz_36 ?c11 ?c9 ?c10) ?nx12
 case c8 => exact pt_cells hyc (by rw [hys]; rfl)
 case c11 => rfl
 case c9 => simp [ptC]
 case c10 => exact nfz0 _ _
 rintro v L' rfl
 refine G.nil ?_
 refine G.ptCast (b := b3) (l' := ptC (y.ws (.slice none 0 0))) (by (repeat' constructor)) (by rw [show ptC (y.ws (.slice none 0 0)) = ptC y by unfold Pt.ws ptC; rw [hys]]; exact rfl) ?_
 refine G.then_n (G.seq (G.region (G.mv rfl rfl ?_)))
 refine G.oq (OpSpec.call Tryz.func227 rfl rfl (vs := [_]) rfl (r2count_spec r st0)) ?nx14
 rintro v L' ⟨rfl, rfl⟩; rw [show (cntR st0).1 = m from hm.symm, show (cntR st0).2 = st1 from hst1.symm]
 refine G.ag rfl rfl (G.nil (G.then_n (G.seq (G.seq (G.add (slR_nil 36 8) ?_)))))
 refine G.add (p := bigR aclR []) (fun h => big_nil h) ?_
 refine G.region (G.ag rfl rfl (G.nil (G.then_n (G.block ?_))))
 refine G.loopK (ι := Nat × Value × (List Pt)) (fun q E => (5, vint q.1) :: E) (fun q => [rfR r (manyR ptR q.1 st1).2, ptc b3 (ptC (y.ws q.2.1)) 36, slR 36 8 q.2.1 q.2.2.length (q.2.2.flatMap ptC), bigR aclR q.2.2]) (fun q => q.1 ≤ m ∧ q.2.2.length = q.1 ∧ (∃ a c, q.2.1 = .slice a q.1 c) ∧ ((manyR ptR q.1 st1).2 ≠ none → q.2.2.map Pt.pl = (manyR ptR q.1 st1).1) ∧ ∀ z ∈ q.2.2, isCell z.aclV = true ∧ z.subsV = nilV) (fun q => m - q.1) (0, .slice none 0 0, []) (ts := [0, 2, 3, 4]) (.cons rfl (.cons rfl (.cons rfl (.cons rfl (.nil))))) (⟨Nat.zero_le _, rfl, ⟨none, 0, rfl⟩, (fun _ => rfl), fun z hz => by cases hz⟩) ⟨rfl, rfl, rfl, rfl, rfl, trivial⟩ (by (repeat' constructor)) ?_
 rintro ⟨j, u, ys⟩ ⟨hj, hyl2, ⟨au, cu, hu⟩, hyr2, hyc2⟩
 dsimp only
 dsimp only at hj hyl2 hu hyr2 hyc2
 subst hu
 subst hyl2
 refine G.seq (G.seq ?_)
 refine G.rfLook (r := r) (by (repeat' constructor)) fun s0 k0 e0 hst0 hk0 hs0 => ?_
 refine G.region (G.mv rfl rfl (G.mv rfl rfl (G.q (Quiet.int rfl rfl rfl) rfl (G.mv rfl rfl ?_))))
 refine G.dec (t := 14) rfl (fun h4_14 => ?_) (fun h4_14 => ?_)
 ·refine G.kDT (t := 13) rfl h4_14 (G.grun (t := 14) rfl rfl rfl (G.mv rfl rfl (G.grun (t := 14) rfl rfl rfl (G.q (Quiet.nilp rfl) rfl (G.grun (t := 14) rfl rfl rfl (G.q (Quiet.fieldAddr rfl fo_208_2) rfl (G.grun (t := 14) rfl rfl rfl ?_)))))))
  refine G.q (Quiet.ld rfl ag_25) rfl ?_
  refine G.grun (t := 14) rfl rfl rfl (G.q (Quiet.int rfl rfl rfl) rfl (G.q (Quiet.pickT rfl rfl) rfl (G.nil ?_)))
  refine G.rfFold (r := r) s0 k0 e0 (by (repeat' constructor)) rfl hk0 hs0 ?_
  refine G.rfUpF (r := r) (st := (manyR ptR ys.length st1).2) (by (repeat' constructor)) hst0 ?_
  refine G.then_n ?_
  refine G.condD rfl (fun h20 => ?_) (fun h20 => ?_)
  ·have hj2 : ys.length < m := by omega
   refine G.skip (G.then_n (G.seq (G.block (G.seq (G.region (G.mv rfl rfl ?_))))))
   refine G.oq (OpSpec.call Tryz.func226 rfl rfl (vs := [_]) rfl (r2tpart_spec r _)) ?nx26
   rintro v L' ⟨z, hzr, hzl, hzc, hzs, rfl, rfl⟩
   refine G.oq (OpSpec.allocA ze_36) ?nx28
   rintro v L' ⟨b6, rfl, rfl⟩
   refine G.oq (OpSpec.storeA rfl rfl ?c30 sz_36 ?c33 ?c31 ?c32) ?nx34
   case c30 => exact pt_cells hzc (by rw [hzs]; rfl)
   case c33 => rfl
   case c31 => simp [ptC]
   case c32 => exact nfz0 _ _
   rintro v L' rfl
   refine G.nil ?_
   refine G.ptCast (b := b6) (l' := ptC z) (by (repeat' constructor)) (by exact rfl) ?_
   refine G.then_n (G.region (G.q (Quiet.fieldAddr rfl fo_36_7) rfl ?_))
   refine G.q (Quiet.ld rfl ag_34) rfl ?_
   refine G.q (Quiet.loadAs (vs := ptC z) rfl ag_36 (by (repeat' constructor)) (by simp [ptC]) rfl) rfl ?_
   refine G.oq (OpSpec.buildSlice (vs := [_]) el_34 ze_36 rfl rfl rfl rfl (by first | (simp [Value.cells]; done) | (intro v hv; simp only [List.mem_cons, List.not_mem_nil, or_false] at hv; (repeat (first | (subst hv; rfl) | (rcases hv with hv | hv; (subst hv; rfl)))))) (by decide)) ?nx38
   rintro v L' ⟨b7, rfl, rfl⟩
   refine G.oq (OpSpec.append1 rfl rfl rfl el_34 ze_36 rfl rfl ?c40 ?c41 (Nat.le_refl _) ?c42 (by decide)) ?nx43
   case c40 => simp only [List.map_cons, List.map_nil, List.flatten_cons, List.flatten_nil, List.append_nil]; simp only [Value.cells]; intro w hw; exact pt_cells (y := z) hzc (by rw [hzs]; rfl) w (by simpa using hw)
   case c41 => rfl
   case c42 => omega
   rintro v L' ⟨⟨a4, c4, rfl⟩, rfl⟩
   refine G.q (Quiet.fieldAddr rfl fo_36_7) rfl ?_
   refine G.oq (OpSpec.store rfl rfl rfl sz_34 ?c46 ?c47) ?nx48
   case c46 => simp [ptC]
   case c47 => exact nfz0 _ _
   rintro v L' rfl
   refine G.nil (G.blk_n (G.then_n (G.region (G.mv rfl rfl ?_))))
   refine G.q (Quiet.add rfl rfl (by omega)) rfl ?_
   refine G.ag rfl rfl (G.nil (G.then_n ?_))
   refine G.bigAdd (f := aclR) (l := ys) (p := aclR z) z rfl (by (repeat' constructor)) ?_
   refine G.slCast (T := 36) (sz := 8) (m' := (ys ++ [z]).length) (xs' := (ys ++ [z]).flatMap ptC) (by (repeat' constructor)) (by simp) (by rw [List.flatMap_append]; simp [Value.cells]) ?_
   refine G.ptCast (b := b3) (l' := ptC (y.ws (.slice a4 (ys.length + 1) c4))) (by (repeat' constructor)) (by exact rfl) ?_
   exact G.roundK ((ys.length + 1, .slice a4 (ys.length + 1) c4, ys ++ [z])) (⟨by dsimp only; omega, by simp, ⟨_, _, rfl⟩, (fun g => by show (ys ++ [z]).map Pt.pl = (manyR ptR ys.length st1).1 ++ [_]; have g2 : (manyR ptR ys.length st1).2 ≠ none := (fun g3 => g (by show (ptR (manyR ptR ys.length st1).2).2 = none; rw [g3]; rfl)); rw [List.map_append, hyr2 g2]; have g4 := hzr g; rw [← g4]; rfl), fun w hw => by rcases List.mem_append.1 hw with hw | hw; exact hyc2 w hw; rw [List.mem_singleton] at hw; subst hw; exact ⟨hzc, hzs⟩⟩) (by dsimp only; omega) ⟨rfl, rfl, rfl, rfl, rfl, trivial⟩ (by (repeat' constructor)) (by ((repeat (apply Have.cons; (repeat (first | exact Pick.here | apply Pick.there)))); apply Have.base; repeat' constructor))
  ·refine G.exit (G.then_e (G.then_e (G.blk_e (G.then_n (G.seq ?_)))))
   have hbad : (manyR ptR ys.length st1).2 = none := by rw [← hst0]; exact st_bad h20
   have hfin := many_stop (f := ptR) rfl hj hbad
   refine G.region ?_
   refine G.q (Quiet.loadAs (vs := ptC (y.ws (.slice au ys.length cu))) rfl ag_36 (by (repeat' constructor)) (by simp [ptC]) rfl) rfl ?_
   refine G.oq (OpSpec.storeA rfl rfl ?c52 sz_36 ?c55 ?c53 ?c54) ?nx56
   case c52 => exact pt_cells hyc rfl
   case c55 => rfl
   case c53 => simp [ptC]
   case c54 => exact nfz0 _ _
   rintro v L' rfl
   refine G.nil (G.then_n (G.ret ?_))
   refine G.ptCast (b := b2) (l' := ptC (y.ws (.slice au ys.length cu))) (by (repeat' constructor)) (by exact rfl) ?_
   rw [hfin, hbad]
   exact G.done1 rfl (.cellA rfl ag_36 (by (repeat' constructor)) (by simp [ptC]) rfl) ⟨y, ys, au, cu, (fun g => absurd rfl g), hyc, hyc2, rfl, rfl⟩ (by (repeat' constructor)) (by (repeat' constructor))
 ·refine G.kDF (t := 13) rfl h4_14 (G.gskip (t := 14) rfl rfl rfl rfl (G.gskip (t := 14) rfl rfl rfl rfl (G.gskip (t := 14) rfl rfl rfl rfl (G.gskip (t := 14) rfl rfl rfl rfl (G.gskip (t := 14) rfl rfl rfl rfl (G.q (Quiet.pickF rfl rfl) rfl (G.nil ?_)))))))
  refine G.rfFold (r := r) s0 k0 e0 (by (repeat' constructor)) rfl hk0 hs0 ?_
  refine G.rfUpF (r := r) (st := (manyR ptR ys.length st1).2) (by (repeat' constructor)) hst0 ?_
  refine G.then_n (G.condF rfl (G.exit (G.then_e (G.then_e (G.blk_e (G.then_n (G.seq ?_)))))))
  have hjm : ys.length = m := by omega
  refine G.region ?_
  refine G.q (Quiet.loadAs (vs := ptC (y.ws (.slice au ys.length cu))) rfl ag_36 (by (repeat' constructor)) (by simp [ptC]) rfl) rfl ?_
  refine G.oq (OpSpec.storeA rfl rfl ?c59 sz_36 ?c62 ?c60 ?c61) ?nx63
  case c59 => exact pt_cells hyc rfl
  case c62 => rfl
  case c60 => simp [ptC]
  case c61 => exact nfz0 _ _
  rintro v L' rfl
  refine G.nil (G.then_n (G.ret ?_))
  refine G.ptCast (b := b2) (l' := ptC (y.ws (.slice au ys.length cu))) (by (repeat' constructor)) (by exact rfl) ?_
  rw [← hjm]
  exact G.done1 rfl (.cellA rfl ag_36 (by (repeat' constructor)) (by simp [ptC]) rfl) ⟨y, ys, au, cu, (fun g => ⟨hyr (fun g2 => g (by rw [hst1, g2] ; exact many_stop (f := ptR) (j := 0) rfl (Nat.zero_le _) rfl)), hyr2 g⟩), hyc, hyc2, rfl, rfl⟩ (by (repeat' constructor)) (by (repeat' constructor))

theorem fill_e4 (z s x : Int) (y : Pt) (l : List Pt) : Instr.fill (fun i => [(0, 1), (1, 1), (2, 1), (3, 8)].toArray[i]?) ([.int .i64 0, .int .i64 0, .int .i64 0, .int .i64 0, .string (bs []), .string (bs []), .slice none 0 0, .int .i64 0, .int .i64 0, .int .i64 0, .slice none 0 0] : List Value).toArray [(0, vint z), (1, vint s), (2, vint x), (3, .agg (ptC y).toArray)] = some (enC ⟨z, s, x, y, l⟩).toArray := by kernel_rfl
theorem r2tent_spec (r : Nat) (st : Rs) : Fn Tryz.prog 200 #[vptr r] [rfR r st] fun v L => ∃ e : En, ((enR st).2 ≠ none → e.pl = (enR st).1) ∧ EnK e ∧ v = .agg (enC e).toArray ∧ L = [rfR r (enR st).2, entR e] := by
 refine Fn.intro (vs := [vptr r]) Tryz.func200 rfl rfl ?_
 intro F W
 refine G.seq (G.region ?_)
 refine G.oq (OpSpec.allocA ze_38) ?nx1
 rintro v L' ⟨b2, rfl, rfl⟩
 refine G.nil (G.then_n (G.seq (G.region (G.mv rfl rfl ?_))))
 refine G.oq (OpSpec.call Tryz.func213 rfl rfl (vs := [_, _]) rfl (r2take_spec r 3 st (by decide))) ?nx4
 rintro v L' ⟨bt, rfl, rfl⟩
 refine G.ag rfl rfl (G.nil (G.then_n (G.seq (G.region (G.mv rfl rfl ?_)))))
 refine G.oq (OpSpec.call Tryz.func214 rfl rfl (vs := [_]) rfl (r2ttxn_spec r _)) ?nx7
 rintro v L' ⟨y, ys, sa, sc, hyr, hyc, hyc2, rfl, rfl⟩
 refine G.oq (OpSpec.allocA ze_36) ?nx9
 rintro v L' ⟨b4, rfl, rfl⟩
 refine G.oq (OpSpec.storeA rfl rfl ?c11 sz_36 ?c14 ?c12 ?c13) ?nx15
 case c11 => exact pt_cells hyc rfl
 case c14 => rfl
 case c12 => simp [ptC]
 case c13 => exact nfz0 _ _
 rintro v L' rfl
 refine G.nil ?_
 refine G.ptCast (b := b4) (l' := ptC (y.ws (.slice sa ys.length sc))) (by (repeat' constructor)) (by exact rfl) ?_
 refine G.then_n (G.seq ?_)
 have hek : EnK (⟨(numR (manyR numR 0 st).2).1, (numR (manyR numR 1 st).2).1, (numR (manyR numR 2 st).2).1, y.ws (.slice sa ys.length sc), ys⟩ : En) := ⟨⟨hyc, rfl⟩, hyc2⟩
 refine G.draw [11] [[0, 1, 2, 3, 4, 5, 6, 7, 8, 9, 10, 11]] mixed (by kernel_rfl) ?_
 refine Phases.go [] (by (repeat' constructor)) ?_
 refine D.kw [1, 2, 10, 11] rfl (Quiet.move rfl) ?_
 refine D.kw [2, 10, 11] rfl (Quiet.indexAddr rfl rfl el_31 (by omega)) ?_
 refine D.kw [10, 11] rfl (Quiet.ld rfl ag_3) ?_
 refine D.kw [4, 5, 10, 11] rfl (Quiet.move rfl) ?_
 refine D.kw [5, 10, 11] rfl (Quiet.indexAddr rfl rfl el_31 (by omega)) ?_
 refine D.kw [10, 11] rfl (Quiet.ld rfl ag_3) ?_
 refine D.kw [7, 8, 10, 11] rfl (Quiet.move rfl) ?_
 refine D.kw [8, 10, 11] rfl (Quiet.indexAddr rfl rfl el_31 (by omega)) ?_
 refine D.kw [10, 11] rfl (Quiet.ld rfl ag_3) ?_
 refine D.kw [10, 11] rfl (Quiet.loadAs (vs := ptC (y.ws (.slice sa ys.length sc))) rfl ag_36 (by (repeat' constructor)) (by simp [ptC]) rfl) ?_
 refine D.kw [11] rfl (Quiet.to (v' := .agg (enC (⟨(numR (manyR numR 0 st).2).1, (numR (manyR numR 1 st).2).1, (numR (manyR numR 2 st).2).1, y.ws (.slice sa ys.length sc), ys⟩ : En)).toArray) (Quiet.buildN (pl := [(0, 1), (1, 1), (2, 1), (3, 8)]) (us := [(0, vint (numR (manyR numR 0 st).2).1), (1, vint (numR (manyR numR 1 st).2).1), (2, vint (numR (manyR numR 2 st).2).1), (3, .agg (ptC (y.ws (.slice sa ys.length sc))).toArray)]) (cells := enC (⟨(numR (manyR numR 0 st).2).1, (numR (manyR numR 1 st).2).1, (numR (manyR numR 2 st).2).1, y.ws (.slice sa ys.length sc), ys⟩ : En)) Tryz.underlying38 (by kernel_rfl) ze_38 rfl (fill_e4 _ _ _ _ _)) rfl) ?_
 refine D.h rfl (by kernel_rfl) (OpSpec.storeA rfl rfl ?c24 sz_38 ?c27 ?c25 ?c26) (by (repeat' constructor)) ?nx28
 case c24 => exact hek.cells
 case c27 => rfl
 case c25 => simp [enC, ptC]
 case c26 => exact nfz0 _ _
 rintro v L' rfl
 refine D.ph (Phases.fin (G.then_n (G.ret ?_)))
 refine G.ptCast (b := b2) (l' := enC (⟨(numR (manyR numR 0 st).2).1, (numR (manyR numR 1 st).2).1, (numR (manyR numR 2 st).2).1, y.ws (.slice sa ys.length sc), ys⟩ : En)) (by (repeat' constructor)) (by exact rfl) ?_
 refine G.fold (p := entR (⟨(numR (manyR numR 0 st).2).1, (numR (manyR numR 1 st).2).1, (numR (manyR numR 2 st).2).1, y.ws (.slice sa ys.length sc), ys⟩ : En)) (q := [aclR y, slR 36 8 (.slice sa ys.length sc) ys.length (ys.flatMap ptC), bigR aclR ys]) (by (repeat' constructor)) (fun _ hp => hp) ?_
 exact G.done1 rfl (.cellA rfl ag_38 (by (repeat' constructor)) (by simp [enC, ptC]) rfl) ⟨_, (fun g => by obtain ⟨g1, g2⟩ := hyr g; unfold En.pl; dsimp only; rw [g2]; rw [show (y.ws (.slice sa ys.length sc)).pl = y.pl from rfl, g1]; rfl), hek, rfl, rfl⟩ (by (repeat' constructor)) (by (repeat' constructor))

theorem r2get_spec (s : Bs) (hs : s.length ≤ 2147483648) : Fn Tryz.prog 173 #[vstr s] [] fun v L => ∃ e er, GotZ s e er ∧ v = .tuple #[.agg (enC e).toArray, vint er] ∧ L = [entR e] := by
 refine Fn.intro (vs := [vstr s]) Tryz.func173 rfl rfl ?_
 intro F W
 refine G.seq (G.region ?_)
 refine G.oq (OpSpec.allocA ze_38) ?nx1
 rintro v L' ⟨b2, rfl, rfl⟩
 refine G.ag rfl rfl (G.nil (G.then_n (G.seq (G.region (G.mv rfl rfl ?_)))))
 refine G.q (Quiet.to (v' := .agg [vstr s, vint 0, vint 0].toArray) (Quiet.build (us := [(0, _)]) fl_208 ze_208 rfl rfl (by simp [isCell])) rfl) rfl ?_
 refine G.oq (OpSpec.box rfl) ?nx6
 rintro v L' ⟨r, rfl, rfl⟩
 refine G.ag rfl rfl (G.nil (G.then_n (G.seq ?_)))
 refine G.rfFold (r := r) s 0 0 (by (repeat' constructor)) rfl (Nat.zero_le _) hs ?_
 refine G.rfUpF (r := r) (st := some s) (by (repeat' constructor)) rfl ?_
 refine G.region (G.mv rfl rfl ?_)
 refine G.oq (OpSpec.call Tryz.func200 rfl rfl (vs := [_]) rfl (r2tent_spec r (some s))) ?nx8
 rintro v L' ⟨e, hpl, hek, rfl, rfl⟩
 refine G.oq (OpSpec.allocA ze_38) ?nx10
 rintro v L' ⟨b5, rfl, rfl⟩
 refine G.oq (OpSpec.storeA rfl rfl ?c12 sz_38 ?c15 ?c13 ?c14) ?nx16
 case c12 => exact hek.cells
 case c15 => rfl
 case c13 => simp [enC, ptC]
 case c14 => exact nfz0 _ _
 rintro v L' rfl
 refine G.nil ?_
 refine G.ptCast (b := b5) (l' := enC e) (by (repeat' constructor)) (by exact rfl) ?_
 refine G.then_n (G.seq (G.seq (G.region (G.mv rfl rfl ?_))))
 refine G.oq (OpSpec.call Tryz.func172 rfl rfl (vs := [_]) rfl (rfend_spec r _)) ?nx17
 rintro v L' ⟨e1, he1, rfl, st', rfl⟩
 refine G.q (Quiet.int rfl rfl rfl) rfl (G.nil (G.then_n ?_))
 refine G.condN rfl (fun h13 => ?_) (fun h13 => ?_)
 ·refine G.seq (G.region ?_)
  refine G.q (Quiet.to (v' := .agg (enC en0).toArray) (Quiet.buildN (pl := [(0, 1), (1, 1), (2, 1), (3, 8)]) (us := []) (cells := enC en0) Tryz.underlying38 (by kernel_rfl) ze_38 rfl rfl) rfl) rfl ?_
  refine G.oq (OpSpec.storeA rfl rfl ?c21 sz_38 ?c24 ?c22 ?c23) ?nx25
  case c21 => decide
  case c24 => rfl
  case c22 => simp [enC, ptC]
  case c23 => exact nfz0 _ _
  rintro v L' rfl
  refine G.ag rfl rfl (G.nil ?_)
  refine G.ptCast (b := b2) (l' := enC en0) (by (repeat' constructor)) (by exact rfl) ?_
  refine G.add entR_0 (G.then_n (G.ret (G.then_r ?_)))
  exact G.done2 rfl (.cellA rfl ag_38 (by (repeat' constructor)) (by simp [enC, ptC]) rfl) (.tmp rfl) ⟨en0, 120, .inr ⟨rfl, get_bad (fun g => h13 (he1.2 g)), rfl⟩, rfl, rfl⟩ (by (repeat' constructor)) (by (repeat' constructor))
 ·refine G.skip (G.then_n (G.seq (G.region ?_)))
  refine G.q (Quiet.loadAs (vs := enC e) rfl ag_38 (by (repeat' constructor)) (by simp [enC, ptC]) rfl) rfl ?_
  refine G.oq (OpSpec.storeA rfl rfl ?c28 sz_38 ?c31 ?c29 ?c30) ?nx32
  case c28 => exact hek.cells
  case c31 => rfl
  case c29 => simp [enC, ptC]
  case c30 => exact nfz0 _ _
  rintro v L' rfl
  refine G.ag rfl rfl (G.nil ?_)
  refine G.ptCast (b := b2) (l' := enC e) (by (repeat' constructor)) (by exact rfl) ?_
  refine G.then_n (G.ret ?_)
  exact G.done2 rfl (.cellA rfl ag_38 (by (repeat' constructor)) (by simp [enC, ptC]) rfl) (.tmp rfl) ⟨e, 0, .inl ⟨rfl, (by rw [hpl (by rw [he1.1 h13]; exact fun g => by cases g)]; exact get_ok (he1.1 h13)), hek⟩, rfl, rfl⟩ (by (repeat' constructor)) (by (repeat' constructor))

end Go.Proofs.YtidjhgbdokcphaaGreat

/- Own work: a log on a disk that is armed: what dies, and what a crash leaves. -/
namespace Go.Proofs.YtidjhgbdokcphaaGreat
open Go

def Dk.calm (δ : Dk) : Dk := { δ with left := 0 }
theorem dbt_err (r : Dk × Wl × Int) : (dbt r).2.2 = r.2.2 ∧ (dbt r).1 = r.1 := by unfold dbt; split <;> exact ⟨rfl, rfl⟩
structure Dur (δ δ0 : Dk) (area : Int) (L : Bs) : Prop where
  len : δ.now.length = δ0.now.length
  mark : ∀ k : Nat, k < 2 → δ.now.getD k [] = δ0.now.getD k []
  marks : ∀ k : Nat, k < 2 → alook δ.old (k : Int) = none
  here : Area δ area L
  olds : ∀ i : Nat, (i : Int) < halfZ δ → ∀ o, alook δ.old (2 + area * halfZ δ + (i : Int)) = some o → chunk L i <+: o
structure Lv (δ : Dk) (ω : Wl) (N : Int) : Prop where
  dead : δ.dead = false
  well : Well δ.calm ω N
  kp : Kp δ ω
  dur : Dur δ δ ω.area (laidZ (ω.recs.take ω.synced.toNat))
theorem back {σ : Dk} {ω : Wl} {N : Int} (hd : Al σ) (ho : σ.old = []) (hdb : ω.doubt = false) (hfull : ω.synced = ω.recs.length) (size : 2 ≤ σ.now.length ∧ σ.now.length ≤ 32768) (acts : σ.acts ≤ N) (area : 0 ≤ ω.area ∧ ω.area ≤ 1) (count : 1 ≤ ω.count ∧ ω.count ≤ 4294967295)
    (ha : 0 ≤ ω.a ∧ ω.a ≤ 9223372036854775807) (hb : 0 ≤ ω.b ∧ ω.b ≤ 9223372036854775807) (hl : ∀ s ∈ ω.recs, s.length ≤ 4000) (fits : ((laidZ ω.recs).length : Int) ≤ 64 * halfZ σ)
    (this : mkAt σ ω.count = ω.now.sec) (other : TailC ω.count (mkAt σ (ω.count + 1))) (hA : Area σ ω.area (laidZ ω.recs)) (hok : σ.Ok) : Lv σ ω N ∧ openZ σ = some ω := by
  have hk : Kp σ ω := ⟨count.1, ha, hb, hl, this, other, hA⟩
  have hw : Well σ ω N := ⟨hd, hdb, size, acts, area, ⟨by omega, count.2⟩, ⟨by omega, by omega⟩, fits⟩
  have hc : σ.calm = σ := by
    obtain ⟨n, o, a, l, d⟩ := σ
    have : l = 0 := hd.left
    subst this; rfl
  refine ⟨⟨hd.dead, by rw [hc]; exact hw, hk, ⟨rfl, fun _ _ => rfl, fun k _ => by rw [ho]; rfl, hA.less (laid_pre _ _), fun i _ o h => by rw [ho] at h; cases h⟩⟩, ?_⟩
  rw [opened hk hw hok]
  obtain ⟨r, sy, ar, ct, x, y, db⟩ := ω
  dsimp only at hfull hdb ⊢
  subst hdb
  rw [hfull, Int.toNat_natCast, List.take_length]
end Go.Proofs.YtidjhgbdokcphaaGreat

/- Own work: the calls of a log on a disk that may die: what they leave. -/

namespace Go.Proofs.YtidjhgbdokcphaaGreat
open Go

end Go.Proofs.YtidjhgbdokcphaaGreat

/- Own work: a ledger on a disk that may die: plain. -/
namespace Go.Proofs.YtidjhgbdokcphaaGreat
open Go

end Go.Proofs.YtidjhgbdokcphaaGreat

/- Own work: a ledger on a disk that may die: what its calls do, and what lies behind a crash: plain. -/

namespace Go.Proofs.YtidjhgbdokcphaaGreat
open Go

/-! ### What lasts -/
end Go.Proofs.YtidjhgbdokcphaaGreat

/- Own work: three operations that are ready in a region that draws its order. -/

namespace Go.Proofs.YtidjhgbdokcphaaGreat
open Go
section
variable {P : Program} {ops : Array Oper} {n : Nat} {RO : List HP} {H : List Nat} {Fin : EF → List HP → Prop}
variable {j : Nat} {S : List Nat} {E : Env} {RW : List HP} {op : Op} {ty : TypeId} {pos : String} {aft : Array Edge}
end
end Go.Proofs.YtidjhgbdokcphaaGreat

/- Own work, by program: package ledger: Cut, Install, Compact: walked. -/
namespace Go.Proofs.YtidjhgbdokcphaaGreat
open Go
end Go.Proofs.YtidjhgbdokcphaaGreat

/- Own work: parts of slices; a ledger that is being made. -/

namespace Go.Proofs.YtidjhgbdokcphaaGreat
open Go

section
variable {W : World} {n : Nat} {ds : List Deferred} {E : Env} {L R : List HP} {X : Act → World → Prop}
end
end Go.Proofs.YtidjhgbdokcphaaGreat

/- Own work, by program: package ledger: renew, Compact, Install: walked. -/

namespace Go.Proofs.YtidjhgbdokcphaaGreat
open Go
end Go.Proofs.YtidjhgbdokcphaaGreat

/- Own work: scripts of law 09: plain. -/

namespace Go.Proofs.YtidjhgbdokcphaaGreat
open Go

structure Op9 where
  k : Int
  n : Int
  size : Int
  e : En
  lv : Value
  l : List En
  text : Bs
  hv : Value
  how : List Int
def op9K (o : Op9) (k : Int) : List Value := [vint k, vint o.n, vint o.size] ++ enC o.e ++ [o.lv, vstr o.text, o.hv]
end Go.Proofs.YtidjhgbdokcphaaGreat

/- Own work, by program: LedgerMarks: walked. -/
namespace Go.Proofs.YtidjhgbdokcphaaGreat
open Go
theorem numbers9_spec (va vb : Value) (xs ys : List Int) (p q : HP) (hp : ∀ h : Hp, p h → rdS 1 h va xs.length (ints xs)) (hq : ∀ h : Hp, q h → rdS 1 h vb ys.length (ints ys)) (hl : xs.length ≤ 4294967296) (hm : ys.length ≤ 4294967296) : Fn Tryz.prog 14 #[va, vb] [p, q] fun v L => v = .bool (decide (xs = ys)) ∧ L = [p, q] := by
 refine Fn.intro (vs := [va, vb]) Tryz.func14 rfl rfl ?_
 intro F W
 refine G.rdAny (p := p) hp (by (repeat' constructor)) fun ap cp e _ => ?_
 subst e
 refine G.rdAny (p := q) hq (by (repeat' constructor)) fun aq cq e _ => ?_
 subst e
 refine G.seq (G.region (G.ag rfl rfl (G.nil (G.then_n (G.seq (G.seq (G.region (G.mv rfl rfl (G.q (Quiet.slen rfl Tryz.underlying31 rfl) rfl (G.mv rfl rfl (G.q (Quiet.slen rfl Tryz.underlying31 rfl) rfl (G.q (Quiet.int rfl rfl rfl) rfl (G.nil (G.then_n ?_))))))))))))))
 refine G.condN rfl (fun h10 => ?_) (fun h10 => ?_)
 ·refine G.seq (G.region (G.ag rfl rfl (G.nil (G.then_n (G.ret (G.then_r ?_))))))
  exact G.dn (l := [.tmp 4]) rfl rfl ⟨congrArg Value.bool (decide_eq_false (fun h => h10 (by rw [h]))).symm, rfl⟩
 ·refine G.skip (G.then_n (G.seq (G.seq (G.region (G.ag rfl rfl (G.nil (G.then_n (G.block ?_))))))))
  refine G.loopK (ι := Nat) (fun q E => (5, vint q) :: E) (fun q => []) (fun q => q ≤ xs.length ∧ ∀ j, j < q → xs.getD j 0 = ys.getD j 0) (fun q => xs.length - q) (0) (ts := [0, 1]) (.cons rfl (.cons rfl (.nil))) (⟨Nat.zero_le _, fun j hj => by omega⟩) ⟨rfl, rfl, rfl, trivial⟩ (by (repeat' constructor)) ?_
  rintro i ⟨hi, hb⟩
  refine G.seq (G.seq (G.region (G.mv rfl rfl (G.mv rfl rfl (G.q (Quiet.slen rfl Tryz.underlying31 rfl) rfl (G.q (Quiet.int rfl rfl rfl) rfl (G.nil (G.then_n ?_))))))))
  refine G.condD rfl (fun h14 => ?_) (fun h14 => ?_)
  ·refine G.rdShape (p := p) hp (by (repeat' constructor)) (by omega) fun bp op e => ?_
   subst e
   refine G.rdShape (p := q) hq (by (repeat' constructor)) (by omega) fun bq oq e => ?_
   subst e
   refine G.skip (G.then_n (G.seq (G.block (G.seq ?_))))
   refine G.draw [] [[0, 1, 2, 3, 4, 5, 6, 7, 8]] mixed (by kernel_rfl) ?_
   refine Phases.go [] (by (repeat' constructor)) ?_
   refine D.kw [2, 3, 8] rfl (Quiet.move rfl) ?_
   refine D.kw [2, 3, 8] rfl (Quiet.move rfl) ?_
   refine D.kw [3, 8] rfl (Quiet.indexAddr rfl rfl el_31 (by omega)) ?_
   refine D.kw [8] rfl (Quiet.loadEl (p := p) (i := i * 1) (v := vint (xs.getD i 0)) rfl ag_3 (by (repeat' constructor)) hp (ints_at (by omega))) ?_
   refine D.kw [6, 7, 8] rfl (Quiet.move rfl) ?_
   refine D.kw [6, 7, 8] rfl (Quiet.move rfl) ?_
   refine D.kw [7, 8] rfl (Quiet.indexAddr rfl rfl el_31 (by omega)) ?_
   refine D.kw [8] rfl (Quiet.loadEl (p := q) (i := i * 1) (v := vint (ys.getD i 0)) rfl ag_3 (by (repeat' constructor)) hq (ints_at (by omega))) ?_
   refine D.kw [] rfl (Quiet.int rfl rfl rfl) ?_
   refine D.ph (Phases.fin (G.then_n ?_))
   refine G.condN rfl (fun h25 => ?_) (fun h25 => ?_)
   ·refine G.seq (G.region (G.ag rfl rfl (G.nil (G.then_n (G.ret (G.blk_r (G.then_r (G.then_r (G.blk_r (G.then_r ?_))))))))))
    exact G.dn (l := [.tmp 4]) rfl rfl ⟨congrArg Value.bool (decide_eq_false (fun h => h25 (by rw [h]))).symm, rfl⟩
   ·refine G.skip (G.blk_n (G.then_n (G.region (G.mv rfl rfl ?_))))
    refine G.q (Quiet.add rfl rfl (by omega)) rfl ?_
    refine G.ag rfl rfl (G.nil (G.then_n ?_))
    exact G.roundK (i + 1) (⟨by omega, fun j hj => by rcases Nat.lt_or_ge j i with h | h; exact hb j h; obtain rfl : j = i := (by omega); exact h25⟩) (by omega) ⟨rfl, rfl, rfl, trivial⟩ (by (repeat' constructor)) (by ((repeat (apply Have.cons; (repeat (first | exact Pick.here | apply Pick.there)))); apply Have.base; repeat' constructor))
  ·refine G.exit (G.then_e (G.then_e (G.blk_e (G.then_n (G.seq (G.region (G.ag rfl rfl (G.nil (G.then_n (G.ret ?_))))))))))
   exact G.dn (l := [.tmp 4]) rfl rfl ⟨congrArg Value.bool (decide_eq_true (by apply List.ext_getElem (by omega); intro j h1 h2; have := hb j (by omega); simpa [List.getD_eq_getElem?_getD, h1, h2] using this)).symm, rfl⟩

end Go.Proofs.YtidjhgbdokcphaaGreat

/- Own work: a formatted ledger, and what opens behind a crash: plain. -/
namespace Go.Proofs.YtidjhgbdokcphaaGreat
open Go

end Go.Proofs.YtidjhgbdokcphaaGreat

/- Own work: what a ledger tells, in memory: plain. -/
namespace Go.Proofs.YtidjhgbdokcphaaGreat
open Go

theorem txtR_le (st : Rs) : (txtR st).1.length ≤ 4096 := by
  unfold txtR runP
  split
  · exact Nat.zero_le _
  · split
    · rename_i x hx; exact (txt_form hx).2
    · exact Nat.zero_le _
theorem many_all {α : Type} {f : Rn α} {Q : α → Prop} (h : ∀ st, Q (f st).1) : ∀ (n : Nat) (st : Rs), ∀ x ∈ (manyR f n st).1, Q x
  | 0, _, x, hx => by cases hx
  | n + 1, st, x, hx => by
    rcases List.mem_append.1 (show x ∈ (manyR f n st).1 ++ [(f (manyR f n st).2).1] from hx) with hx | hx
    · exact many_all h n st x hx
    · rw [List.mem_singleton] at hx; subst hx; exact h _
theorem rows_all {α : Type} {f : Rn α} {Q : α → Prop} (h : ∀ st, Q (f st).1) (st : Rs) : (rowsR f st).1.length ≤ 256 ∧ ∀ x ∈ (rowsR f st).1, Q x := by
  refine ⟨?_, many_all h _ _⟩
  show (manyR f (cntR st).1 (cntR st).2).1.length ≤ 256
  rw [many_len]; exact cntR_le st
def AcG (a : Ac) : Prop := I64 a.1 ∧ a.2.length ≤ 4096
structure PtG (y : Pt) : Prop where
  kind : I64 y.kind
  own : I64 y.own
  num : I64 y.num
  err : I64 y.err
  path : y.path.length ≤ 4096
  data : y.data.length ≤ 4096
  many : y.acl.length ≤ 256
  acl : ∀ a ∈ y.acl, AcG a
structure EnG (e : En) : Prop where
  zx : I64 e.zx
  ses : I64 e.ses
  xid : I64 e.xid
  x : PtG e.x
  many : e.subs.length ≤ 256
  subs : ∀ y ∈ e.subs, PtG y
theorem acR_G (st : Rs) : AcG (acR st).1 := ⟨numR_i64 _, txtR_le _⟩
theorem ptR_G (st : Rs) : PtG (ptR st).1 :=
  ⟨numR_i64 _, numR_i64 _, numR_i64 _, numR_i64 _, txtR_le _, txtR_le _, (rows_all acR_G _).1, (rows_all acR_G _).2⟩
theorem enR_G (st : Rs) : EnG (enR st).1 := ⟨numR_i64 _, numR_i64 _, numR_i64 _, ptR_G _, (rows_all ptR_G _).1, (rows_all ptR_G _).2⟩
theorem getZ_G {s : Bs} {e : En} (h : getZ s = some e) : EnG e := by
  unfold getZ getR at h
  split at h
  · rename_i q hq; cases h
    have := enR_G (some s)
    rw [hq] at this; exact this
  · cases h
theorem PtG.of {y : Pt} (h : PtG y.pl) : PtG y := ⟨h.kind, h.own, h.num, h.err, h.path, h.data, h.many, h.acl⟩
theorem EnG.of {e : En} (h : EnG e.pl) : EnG e := by
  refine ⟨h.zx, h.ses, h.xid, h.x.of, by have := h.many; unfold En.pl at this; rw [List.length_map] at this; exact this, fun y hy => (h.subs y.pl ?_).of⟩
  show y.pl ∈ e.subs.map Pt.pl
  exact List.mem_map_of_mem hy
theorem PtG.i {y : Pt} (h : PtG y) : PtI y := by
  have hu : U64 = 18446744073709551616 := rfl
  refine ⟨h.kind, h.own, h.num, h.err, ?_, ?_, ?_, fun a ha => ⟨(h.acl a ha).1, ?_⟩⟩
  · have := h.path; omega
  · have := h.data; omega
  · have := h.many; omega
  · have := (h.acl a ha).2; omega
theorem EnG.i {e : En} (h : EnG e) : EnI e := by
  have hu : U64 = 18446744073709551616 := rfl
  exact ⟨h.zx, h.ses, h.xid, h.x.i, by have := h.many; omega, fun y hy => (h.subs y hy).i⟩
theorem fm_most {α : Type} {f : α → Bs} {c : Nat} : ∀ {l : List α}, (∀ x ∈ l, (f x).length ≤ c) → (l.flatMap f).length ≤ l.length * c
  | [], _ => by simp
  | y :: l, h => by
    have h1 := h y (List.mem_cons_self ..)
    have h2 := fm_most (l := l) (f := f) (fun x hx => h x (List.mem_cons_of_mem _ hx))
    rw [List.flatMap_cons, List.length_append, List.length_cons, Nat.add_mul]; omega
theorem cnt10 {n : Nat} (h : n ≤ 65536) : (cntB n).length ≤ 10 := sev_len10 (by have hu : U64 = 18446744073709551616 := rfl; omega)
theorem ptB_most {y : Pt} (h : PtG y) : (ptB y).length ≤ 1061966 := by
  have h1 := numB_len h.kind
  have h2 := cnt10 (n := y.path.length) (by have := h.path; omega)
  have h3 := cnt10 (n := y.data.length) (by have := h.data; omega)
  have h4 := cnt10 (n := y.acl.length) (by have := h.many; omega)
  have h5 := numB_len h.own
  have h6 := numB_len h.num
  have h7 := numB_len h.err
  have h8 := fm_most (f := acB) (c := 4116) (l := y.acl) (fun a ha => by
    have g1 := numB_len (h.acl a ha).1
    have g2 := (h.acl a ha).2
    have g3 := cnt10 (n := a.2.length) (by omega)
    unfold acB txtB; rw [List.length_append, List.length_append]; omega)
  have h9 := h.path
  have h10 := h.data
  have h11 : y.acl.length * 4116 ≤ 256 * 4116 := Nat.mul_le_mul_right _ h.many
  rw [ptB_len]
  unfold aclB
  rw [List.length_append]
  simp only [List.flatMap_cons, List.flatMap_nil, List.length_append, List.length_nil]
  omega
theorem enB_most {e : En} (h : EnG e) : (enB e).length ≤ 1073741824 := by
  have h1 := numB_len h.zx
  have h2 := numB_len h.ses
  have h3 := numB_len h.xid
  have h4 := ptB_most h.x
  have h5 := fm_most (f := ptB) (c := 1061966) (l := e.subs) (fun y hy => ptB_most (h.subs y hy))
  have h6 := cnt10 (n := e.subs.length) (by have := h.many; omega)
  have h7 : e.subs.length * 1061966 ≤ 256 * 1061966 := Nat.mul_le_mul_right _ h.many
  rw [enB_len]
  unfold subsB
  rw [List.length_append]
  simp only [List.flatMap_cons, List.flatMap_nil, List.length_append, List.length_nil]
  omega
theorem big_get {α : Type} {f : α → HP} : ∀ {l : List α} {x : α} {h : Hp}, x ∈ l → bigR f l h → ∃ h1, (∀ b o, h1 b = some o → h b = some o) ∧ f x h1
  | y :: l, x, h, hx, hp => by
    have hq := big_cons hp
    rcases List.mem_cons.1 hx with rfl | hx
    · exact sep_head hq
    · obtain ⟨h1, a1, q1⟩ := sep_head (sep_perm (List.Perm.swap _ _ _) hq)
      obtain ⟨h2, a2, q2⟩ := big_get hx q1
      exact ⟨h2, fun b o hb => a1 b o (a2 b o hb), q2⟩
  | [], _, _, hx, _ => by cases hx
theorem ent_acl {e : En} {h : Hp} (hp : entR e h) : rdS 2 h e.x.aclV e.x.acl.length (e.x.acl.flatMap acC) := by
  obtain ⟨h1, a1, q1⟩ := sep_head hp
  exact rdS_mono (slR_rd q1) a1
theorem ent_subs {e : En} {h : Hp} (hp : entR e h) : rdS 8 h e.x.subsV e.subs.length (e.subs.flatMap ptC) := by
  obtain ⟨h1, a1, q1⟩ := sep_head (sep_perm (List.Perm.swap _ _ _) hp)
  exact rdS_mono (slR_rd q1) a1
theorem ent_each {e : En} {h : Hp} (hp : entR e h) {y : Pt} (hy : y ∈ e.subs) : rdS 2 h y.aclV y.acl.length (y.acl.flatMap acC) := by
  have hq : sep [bigR aclR e.subs, aclR e.x, subsR e] h := sep_perm (by
    refine List.Perm.trans (List.Perm.cons _ (List.Perm.swap _ _ _)) (List.Perm.swap _ _ _)) hp
  obtain ⟨h1, a1, q1⟩ := sep_head hq
  obtain ⟨h2, a2, q2⟩ := big_get hy q1
  exact rdS_mono (slR_rd q2) (fun b o hb => a1 b o (a2 b o hb))
theorem entL {es : List En} {e : En} (he : e ∈ es) (hk : EnK e) (hg : EnG e) : EnL (bigR entR es) e := by
  have hr : ∀ {h : Hp}, bigR entR es h → ∃ h1, (∀ b o, h1 b = some o → h b = some o) ∧ entR e h1 := fun hp => big_get he hp
  have h256 : ∀ {n : Nat}, n ≤ 256 → n ≤ 1048576 := fun h => Nat.le_trans h (by decide)
  refine ⟨⟨hg.i, fun h hp => ?_, fun h hp => ?_, fun y hy h hp => ?_⟩, enB_most hg, ⟨h256 hg.many, h256 hg.x.many, fun y hy => h256 (hg.subs y hy).many⟩, hk.x, fun y hy => ⟨(hk.subs y hy).1, by rw [(hk.subs y hy).2]; rfl⟩⟩
  · obtain ⟨h1, a1, q1⟩ := hr hp; exact rdS_mono (ent_acl q1) a1
  · obtain ⟨h1, a1, q1⟩ := hr hp; exact rdS_mono (ent_subs q1) a1
  · obtain ⟨h1, a1, q1⟩ := hr hp; exact rdS_mono (ent_each q1 hy) a1
section
variable {W : World} {n : Nat} {ds : List Deferred} {E : Env} {L R : List HP} {X : Act → World → Prop}
end
theorem get_enB {s : Bs} {e : En} (h : getZ s = some e.pl) : enB e = s := by
  rw [← enB_pl]; exact (get_form h).1.symm
def behindB (Λ : Lg) (z : Int) : List Bs := ((Λ.ents.zip Λ.zxs).filter fun q => decide (q.2 > z)).map (·.1)
theorem rowsI_some : ∀ {es : List Bs} {zs : List Int} {b : Int}, RowsI b es zs → ∀ q ∈ es.zip zs, ∃ e, getZ q.1 = some e ∧ e.zx = q.2
  | [], [], _, _, q, hq => by cases hq
  | s :: t, z :: u, _, h, q, hq => by
    rw [List.zip_cons_cons] at hq
    rcases List.mem_cons.1 hq with rfl | hq
    · exact h.1
    · exact rowsI_some h.2.2.2 q hq
  | [], _ :: _, _, h, _, _ => h.elim
  | _ :: _, [], _, h, _, _ => h.elim
theorem behind_B {Λ : Lg} (h : LgW Λ) {z : Int} {es : List En} (he : es.map En.pl = behindL Λ z) : es.map enB = behindB Λ z ∧ ∀ e ∈ es, EnG e := by
  have key : ∀ {l : List (Bs × Int)} {es : List En}, (∀ q ∈ l, ∃ e, getZ q.1 = some e ∧ e.zx = q.2) → es.map En.pl = l.map entAt → es.map enB = l.map (·.1) ∧ ∀ e ∈ es, EnG e := by
    intro l
    induction l with
    | nil => intro es _ h; cases es with
      | nil => exact ⟨rfl, fun _ h => by cases h⟩
      | cons e es => simp at h
    | cons q l ih =>
      intro es hq h
      cases es with
      | nil => simp at h
      | cons e es =>
        rw [List.map_cons, List.map_cons, List.cons.injEq] at h
        obtain ⟨i1, i2⟩ := ih (fun x hx => hq x (List.mem_cons_of_mem _ hx)) h.2
        obtain ⟨g, hg, -⟩ := hq q (List.mem_cons_self ..)
        have hpl : getZ q.1 = some e.pl := by rw [h.1]; unfold entAt; rw [hg]; rfl
        refine ⟨by rw [List.map_cons, List.map_cons, i1, get_enB hpl], fun x hx => ?_⟩
        rcases List.mem_cons.1 hx with rfl | hx
        · exact (getZ_G hpl).of
        · exact i2 x hx
  exact key (fun q hq => rowsI_some h.rows q ((List.mem_filter.1 hq).1)) he
end Go.Proofs.YtidjhgbdokcphaaGreat

/- Own work: the document's ledger in memory. -/

namespace Go.Proofs.YtidjhgbdokcphaaGreat
open Go

structure EsOf (es : List En) (Λ : Lg) : Prop where
  b : es.map enB = Λ.ents
  z : es.map (·.zx) = Λ.zxs
  n : es.length ≤ 1048576
  k : ∀ e ∈ es, EnK e ∧ EnG e
abbrev gc9 (y w : Nat) (base : Int) (snap : Bs) (sl : Value) (acc cur : Int) (db : Bool) : HP := ptc y [vptr w, vint base, vstr snap, sl, vint acc, vint cur, .bool db] 129
abbrev es9 (sl : Value) (es : List En) : HP := slR 38 11 sl es.length (es.flatMap enC)
def rgR (y w : Nat) (Λ : Lg) : HP := fun h => ∃ q : (Option Addr × Nat) × List En, EsOf q.2 Λ ∧ sep [gc9 y w Λ.base Λ.snap (.slice q.1.1 q.2.length q.1.2) Λ.acc Λ.cur Λ.doubt, es9 (.slice q.1.1 q.2.length q.1.2) q.2, bigR entR q.2] h
section
variable {W : World} {n : Nat} {ds : List Deferred} {E : Env} {L R : List HP} {X : Act → World → Prop}
theorem G.rgOpen {y w : Nat} {Λ : Lg} (hL : Pick (rgR y w Λ) L R) (h : ∀ (a : Option Addr) (c : Nat) (es : List En), EsOf es Λ → G W n ds E (gc9 y w Λ.base Λ.snap (.slice a es.length c) Λ.acc Λ.cur Λ.doubt :: es9 (.slice a es.length c) es :: bigR entR es :: R) X) : G W n ds E L X :=
  G.focus hL (G.open (q := fun q : (Option Addr × Nat) × List En => [gc9 y w Λ.base Λ.snap (.slice q.1.1 q.2.length q.1.2) Λ.acc Λ.cur Λ.doubt, es9 (.slice q.1.1 q.2.length q.1.2) q.2, bigR entR q.2]) (φ := fun q : (Option Addr × Nat) × List En => EsOf q.2 Λ) (fun _ hp => hp) fun q hq => h q.1.1 q.1.2 q.2 hq)
theorem G.rgFold {y w : Nat} {l xs : List Value} {sl : Value} {m : Nat} (Λ : Lg) (a : Option Addr) (c : Nat) (es : List En) (hL : Picks [ptc y l 129, slR 38 11 sl m xs, bigR entR es] L R) (hE : EsOf es Λ)
    (h1 : l = [vptr w, vint Λ.base, vstr Λ.snap, .slice a es.length c, vint Λ.acc, vint Λ.cur, .bool Λ.doubt]) (h2 : sl = .slice a es.length c) (h3 : m = es.length) (h4 : xs = es.flatMap enC) (h : G W n ds E (rgR y w Λ :: R) X) : G W n ds E L X := by
  subst h1; subst h2; subst h3; subst h4
  exact G.fold hL (fun _ hp => ⟨((a, c), es), hE, hp⟩) h
end
theorem EsOf.lastF {es : List En} {Λ : Lg} (h : EsOf es Λ) : lastF Λ.base (es.map (·.zx)) = lastZ Λ := by rw [h.z]; rfl
theorem getZ_of {s : Bs} {e : En} {er : Int} (h : GotZ s e er) (h0 : er = 0) : getZ s = some e.pl ∧ enB e = s ∧ EnK e ∧ EnG e := by
  rcases h with ⟨-, h1, h2⟩ | ⟨h1, -⟩
  · exact ⟨h1, get_enB h1, h2, (getZ_G h1).of⟩
  · rw [h1] at h0; cases h0
theorem getZ_no {s : Bs} {e : En} {er : Int} (h : GotZ s e er) (h0 : ¬ er = 0) : getZ s = none := by
  rcases h with ⟨h1, -⟩ | ⟨-, h2, -⟩
  · exact absurd h1 h0
  · exact h2
theorem keep_eq {a b base : Int} {sn s : Bs} {es : List En} {ge : En} (hs : enB ge = s) : (⟨a, b, base, sn, es.map enB, es.map (·.zx), false⟩ : Lg).keep s ge.zx = ⟨a, b, base, sn, (es ++ [ge]).map enB, (es ++ [ge]).map (·.zx), false⟩ := by
  unfold Lg.keep; rw [List.map_append, List.map_append, List.map_singleton, List.map_singleton, hs]
theorem esOf_self {a b base : Int} {sn : Bs} {es : List En} {db : Bool} (hn : es.length ≤ 1048576) (hk : ∀ e ∈ es, EnK e ∧ EnG e) : EsOf es ⟨a, b, base, sn, es.map enB, es.map (·.zx), db⟩ := ⟨rfl, rfl, hn, hk⟩
theorem lastF_at {es : List En} {base : Int} {i : Nat} (h : i + 1 = es.length) : lastF base (es.map (·.zx)) = (es[i]'(by omega)).zx := by
  unfold lastF
  rw [List.getLast?_eq_getElem?, List.length_map, show es.length - 1 = i by omega, List.getElem?_map, List.getElem?_eq_getElem (by omega)]; rfl
theorem lastF_nil {es : List En} {base : Int} (h : es.length = 0) : lastF base (es.map (·.zx)) = base := by
  rw [List.eq_nil_of_length_eq_zero h]; rfl
end Go.Proofs.YtidjhgbdokcphaaGreat

/- Own work, by program: the document's ledger: records, Format, Open: walked. -/

namespace Go.Proofs.YtidjhgbdokcphaaGreat
open Go
theorem r9last_spec (y w : Nat) (base : Int) (snap : Bs) (a : Option Addr) (c : Nat) (acc cur : Int) (db : Bool) (es : List En) (hn : es.length ≤ 1048576) : Fn Tryz.prog 130 #[vptr y] [gc9 y w base snap (.slice a es.length c) acc cur db, es9 (.slice a es.length c) es] fun v L => v = vint (lastF base (es.map (·.zx))) ∧ L = [gc9 y w base snap (.slice a es.length c) acc cur db, es9 (.slice a es.length c) es] := by
 refine Fn.intro (vs := [vptr y]) Tryz.func130 rfl rfl ?_
 intro F W
 refine G.seq (G.region (G.ag rfl rfl (G.nil (G.then_n (G.seq (G.seq (G.region (G.mv rfl rfl (G.q (Quiet.nilp rfl) rfl (G.q (Quiet.fieldAddr rfl fo_129_3) rfl ?_))))))))))
 refine G.q (Quiet.ld rfl ag_22) rfl ?_
 refine G.q (Quiet.slen rfl Tryz.underlying22 rfl) rfl (G.q (Quiet.int rfl rfl rfl) rfl (G.nil (G.then_n ?_)))
 refine G.condD rfl (fun h8 => ?_) (fun h8 => ?_)
 ·refine G.seq (G.region (G.mv rfl rfl (G.q (Quiet.nilp rfl) rfl (G.q (Quiet.fieldAddr rfl fo_129_1) rfl ?_))))
  refine G.q (Quiet.ld rfl ag_3) rfl ?_
  refine G.ag rfl rfl (G.nil (G.then_n (G.ret (G.then_r ?_))))
  exact G.dn (l := [.tmp 2]) rfl rfl ⟨by rw [lastF_nil (by omega)], rfl⟩
 ·refine G.skip (G.then_n (G.seq ?_))
  obtain ⟨i, hi⟩ : ∃ i, i + 1 = es.length := ⟨es.length - 1, by omega⟩
  refine G.slShape (v := .slice a es.length c) (by (repeat' constructor)) (by omega) fun ba c1 e m _ => ?_
  simp only [Value.slice.injEq, true_and] at e
  obtain ⟨rfl, rfl⟩ := e
  refine G.draw [] [[0, 1, 2, 3, 4, 5, 6, 7, 8, 9, 10, 11, 12, 13]] mixed (by kernel_rfl) ?_
  refine Phases.go [] (by (repeat' constructor)) ?_
  refine D.kw [1, 2, 3, 10, 11, 12, 13] rfl (Quiet.move rfl) ?_
  refine D.kw [2, 3, 10, 11, 12, 13] rfl (Quiet.nilp rfl) ?_
  refine D.kw [3, 10, 11, 12, 13] rfl (Quiet.fieldAddr rfl fo_129_3) ?_
  refine D.kw [10, 11, 12, 13] rfl (Quiet.ld rfl ag_22) ?_
  refine D.kw [5, 6, 7, 8, 9, 10, 11, 12, 13] rfl (Quiet.move rfl) ?_
  refine D.kw [6, 7, 8, 9, 10, 11, 12, 13] rfl (Quiet.nilp rfl) ?_
  refine D.kw [7, 8, 9, 10, 11, 12, 13] rfl (Quiet.fieldAddr rfl fo_129_3) ?_
  refine D.kw [8, 9, 10, 11, 12, 13] rfl (Quiet.ld rfl ag_22) ?_
  refine D.kw [9, 10, 11, 12, 13] rfl (Quiet.slen rfl Tryz.underlying22 rfl) ?_
  refine D.kw [10, 11, 12, 13] rfl (Quiet.as (v' := vint (i : Nat)) (by congr 1; omega) (Quiet.sub rfl rfl (by omega))) ?_
  refine D.kw [11, 12, 13] rfl (Quiet.indexAddr rfl rfl el_22 (by omega)) ?_
  refine D.kw [12, 13] rfl (Quiet.fieldAddr rfl fo_38_0) ?_
  refine D.kw [13] rfl (Quiet.loadRd (sz := 11) (j := i * 11 + 0) (p := es9 (.slice (some ⟨ba, 0, none⟩) es.length c) es) (v := vint (es[i]'(by omega)).zx) rfl ag_3 (by (repeat' constructor)) (fun h hp => slR_rd hp) (by simp) ((en_cell (k := 0) (by omega) (by decide)).trans rfl)) ?_
  refine D.kw [] rfl (Quiet.assign rfl) ?_
  refine D.ph (Phases.fin (G.then_n (G.ret ?_)))
  exact G.dn (l := [.tmp 2]) rfl rfl ⟨by rw [lastF_at hi], rfl⟩

theorem r4format_spec (x : Nat) (δ : Dk) (hA : δ.acts + 10 < 4611686018427387904) : Fn Tryz.prog 20 #[vptr x] [dsR x δ] fun v L => ((formatZ δ).2 = none ∧ v = .tuple #[.pointer none, vint 2] ∧ L = [dsR x (formatZ δ).1]) ∨
    ((formatZ δ).2 = some newW ∧ ∃ w, v = .tuple #[vptr w, vint 0] ∧ L = [dsR x (formatZ δ).1, rlR w x newW]) := by
 refine Fn.intro (vs := [vptr x]) Tryz.func20 rfl rfl ?_
 intro F W
 have k1 := write_keeps δ 0 zs
 have k2 := write_keeps (δ.write 0 zs).1 1 mark1.sec
 refine G.seq (G.region (G.ag rfl rfl (G.ag rfl rfl (G.nil (G.then_n (G.seq (G.seq (G.region (G.mv rfl rfl (G.q (Quiet.ptreq rfl rfl Tryz.underlying47) rfl (G.nil (G.then_n (G.condF rfl (G.skip (G.then_n (G.seq (G.seq (G.add (slR_nil 9 1) (G.region (G.mv rfl rfl ?_))))))))))))))))))))
 refine G.oq (OpSpec.call Tryz.func58 rfl rfl (vs := []) rfl (zeros_spec)) ?nx6
 rintro v L' ⟨rfl, rfl⟩
 refine G.oq (OpSpec.call Tryz.func59 rfl rfl (vs := [_, _, _]) rfl (dswrite_spec x δ 0 zs (by omega))) ?nx8
 rintro v L' ⟨rfl, rfl⟩
 refine G.q (Quiet.int rfl rfl rfl) rfl (G.mv rfl rfl ?_)
 refine G.ndec (t := 10) rfl (fun h3_10 => ?_) (fun h3_10 => ?_)
 ·refine G.kNT (t := 9) rfl h3_10 (G.gskip (t := 10) rfl rfl rfl rfl (G.gskip (t := 10) rfl rfl rfl rfl (G.gskip (t := 10) rfl rfl rfl rfl (G.gskip (t := 10) rfl rfl rfl rfl (G.q (Quiet.pickT rfl rfl) rfl (G.mv rfl rfl (G.gskip (t := 16) rfl rfl rfl rfl (G.gskip (t := 16) rfl rfl rfl rfl (G.gskip (t := 16) rfl rfl rfl rfl (G.q (Quiet.pickT rfl rfl) rfl (G.nil (G.then_n (G.condT rfl (G.seq (G.region (G.ag rfl rfl (G.ag rfl rfl (G.nil (G.then_n (G.ret (G.then_r ?_)))))))))))))))))))))
  have hF : formatZ δ = ((fmtZ δ 1).1, none) := by unfold formatZ; rw [if_pos (show (fmtZ δ 1).2 ≠ 0 from h3_10)]
  rw [hF]
  exact G.dn (l := [.tmp 2, .tmp 3]) rfl rfl (.inl ⟨rfl, rfl, rfl⟩)
 ·refine G.kNF (t := 9) rfl h3_10 (G.grun (t := 10) rfl rfl rfl (G.mv rfl rfl (G.grun (t := 10) rfl rfl rfl ?_)))
  refine G.oq (OpSpec.call Tryz.func60 rfl rfl (vs := [_, _, _, _, _]) rfl (rmark4_spec 1 0 0 0 (.slice none 0 0) [] (strR (.slice none 0 0) []) (fun h hp => slR_rd hp) (by decide) (by decide) (by decide) (by decide) (by decide))) ?nx16
  rintro v L' ⟨rfl, rfl⟩; rw [show (⟨1, 0, ((laidZ []).length : Nat), (([] : List Bs).length : Nat), 0, 0⟩ : Mk) = mark1 from rfl]
  refine G.grun (t := 10) rfl rfl rfl ?_
  refine G.oq (OpSpec.call Tryz.func59 rfl rfl (vs := [_, _, _]) rfl (dswrite_spec x (δ.write 0 zs).1 1 mark1.sec (by omega))) ?nx18
  rintro v L' ⟨rfl, rfl⟩
  refine G.grun (t := 10) rfl rfl rfl (G.q (Quiet.int rfl rfl rfl) rfl (G.q (Quiet.pickF rfl rfl) rfl (G.mv rfl rfl ?_)))
  refine G.ndec (t := 16) rfl (fun h3_16 => ?_) (fun h3_16 => ?_)
  ·refine G.kNT (t := 14) rfl h3_16 (G.kNT (t := 15) rfl h3_16 (G.gskip (t := 16) rfl rfl rfl rfl (G.gskip (t := 16) rfl rfl rfl rfl (G.gskip (t := 16) rfl rfl rfl rfl (G.q (Quiet.pickT rfl rfl) rfl (G.nil (G.then_n (G.condT rfl (G.seq (G.region (G.ag rfl rfl (G.ag rfl rfl (G.nil (G.then_n (G.ret (G.then_r ?_))))))))))))))))
   have hF : formatZ δ = ((fmtZ δ 2).1, none) := by unfold formatZ; rw [if_neg (fun g => g (show (fmtZ δ 1).2 = 0 from h3_10)), if_pos (show (fmtZ δ 2).2 ≠ 0 from h3_16)]
   rw [hF]
   exact G.dn (l := [.tmp 2, .tmp 3]) rfl rfl (.inl ⟨rfl, rfl, rfl⟩)
  ·refine G.kNF (t := 14) rfl h3_16 (G.kNF (t := 15) rfl h3_16 (G.grun (t := 16) rfl rfl rfl (G.mv rfl rfl (G.grun (t := 16) rfl rfl rfl ?_))))
   refine G.oq (OpSpec.call Tryz.func61 rfl rfl (vs := [_]) rfl (dssync_spec x ((δ.write 0 zs).1.write 1 mark1.sec).1 (by omega))) ?nx25
   rintro v L' ⟨rfl, rfl⟩
   refine G.grun (t := 16) rfl rfl rfl (G.q (Quiet.int rfl rfl rfl) rfl (G.q (Quiet.pickF rfl rfl) rfl (G.nil (G.then_n ?_))))
   refine G.condN rfl (fun h20 => ?_) (fun h20 => ?_)
   ·refine G.seq (G.region (G.ag rfl rfl (G.ag rfl rfl (G.nil (G.then_n (G.ret (G.then_r ?_)))))))
    have hF : formatZ δ = ((fmtZ δ 3).1, none) := by unfold formatZ; rw [if_neg (fun g => g (show (fmtZ δ 1).2 = 0 from h3_10)), if_neg (fun g => g (show (fmtZ δ 2).2 = 0 from h3_16)), if_pos (show (fmtZ δ 3).2 ≠ 0 from h20)]
    rw [hF]
    exact G.dn (l := [.tmp 2, .tmp 3]) rfl rfl (.inl ⟨rfl, rfl, rfl⟩)
   ·refine G.skip (G.then_n (G.seq (G.region (G.mv rfl rfl ?_))))
    refine G.q (Quiet.to (v' := .agg [vptr x, .slice none 0 0, vint 0, vint 0, vint 1, vint 0, vint 0, .bool false].toArray) (Quiet.build (us := [(0, _), (4, _)]) fl_114 ze_114 rfl rfl (by simp [isCell])) rfl) rfl ?_
    refine G.oq (OpSpec.box rfl) ?nx32
    rintro v L' ⟨w, rfl, rfl⟩
    refine G.ag rfl rfl (G.ag rfl rfl (G.nil (G.then_n (G.ret ?_))))
    have hF : formatZ δ = ((fmtZ δ 3).1, some newW) := by unfold formatZ; rw [if_neg (fun g => g (show (fmtZ δ 1).2 = 0 from h3_10)), if_neg (fun g => g (show (fmtZ δ 2).2 = 0 from h3_16)), if_neg (fun g => g (show (fmtZ δ 3).2 = 0 from h20))]
    rw [hF]
    refine G.rlFold (y := w) (x := x) (ω := newW) (v := .slice none 0 0) (by (repeat' constructor)) rfl rfl rfl ?_
    exact G.dn (l := [.tmp 2, .tmp 3]) rfl rfl (.inr ⟨rfl, w, rfl, rfl⟩)

end Go.Proofs.YtidjhgbdokcphaaGreat

/- Own work, by program: the document's ledger: Format, read, Open: walked. -/
namespace Go.Proofs.YtidjhgbdokcphaaGreat
open Go
set_option maxHeartbeats 2000000 in
theorem r9read_spec (w x : Nat) (ω : Wl) (hl : ω.recs.length ≤ 1048576) (hs : ∀ s ∈ ω.recs, s.length ≤ 1073741824) (ha : I64 ω.a) (hb : I64 ω.b) : Fn Tryz.prog 128 #[vptr w] [rlR w x ω] fun v L => (openLZ ω = none ∧ v = .tuple #[.pointer none, .bool false] ∧ L = [rlR w x ω]) ∨ (∃ Λ y, openLZ ω = some Λ ∧ v = .tuple #[vptr y, .bool true] ∧ L = [rlR w x ω, rgR y w Λ]) := by
 refine Fn.intro (vs := [vptr w]) Tryz.func128 rfl rfl ?_
 intro F W
 refine G.rlOpen (ω := ω) (by (repeat' constructor)) fun vr => ?_
 refine G.slAny (v := vr) (by (repeat' constructor)) fun ar cr e hsl => ?_
 subst e
 refine G.seq (G.region (G.ag rfl rfl (G.ag rfl rfl (G.nil (G.then_n (G.seq ?_))))))
 refine G.draw [10] [[0, 1, 2, 3, 4, 5, 6, 7, 8, 9, 10], [11]] mixed (by kernel_rfl) ?_
 refine Phases.go [] (by (repeat' constructor)) ?_
 refine D.kw [9, 10] rfl (Quiet.move rfl) ?_
 refine D.kw [2, 3, 4, 9, 10] rfl (Quiet.move rfl) ?_
 refine D.kw [3, 4, 9, 10] rfl (Quiet.nilp rfl) ?_
 refine D.kw [4, 9, 10] rfl (Quiet.fieldAddr rfl fo_114_5) ?_
 refine D.kw [9, 10] rfl (Quiet.ld rfl ag_3) ?_
 refine D.kw [6, 7, 8, 9, 10] rfl (Quiet.move rfl) ?_
 refine D.kw [7, 8, 9, 10] rfl (Quiet.nilp rfl) ?_
 refine D.kw [8, 9, 10] rfl (Quiet.fieldAddr rfl fo_114_6) ?_
 refine D.kw [9, 10] rfl (Quiet.ld rfl ag_3) ?_
 refine D.kw [10] rfl (Quiet.to (v' := .agg [vptr w, vint 0, vstr [], .slice none 0 0, vint ω.a, vint ω.b, .bool false].toArray) (Quiet.build (us := [(0, _), (4, _), (5, _)]) fl_129 ze_129 rfl rfl (by simp [isCell])) rfl) ?_
 refine D.h rfl (by kernel_rfl) (OpSpec.box rfl) (by (repeat' constructor)) ?nx13
 rintro v L' ⟨y, rfl, rfl⟩
 refine D.ph ?_
 refine Phases.go [] (by (repeat' constructor)) ?_
 refine D.kw [] rfl (Quiet.assign rfl) ?_
 refine D.ph (Phases.fin ?_)
 refine G.ptCast (b := y) (l' := [vptr w, vint 0, vstr [], .slice none 0 0, vint ω.a, vint ω.b, .bool false]) (by (repeat' constructor)) (by exact rfl) ?_
 refine G.then_n (G.seq (G.seq ?_))
 refine G.draw [] [[0, 1, 2, 3, 4, 5, 6, 7, 8, 9, 10, 11, 12, 13, 14, 15, 16, 17, 18, 19, 20, 21, 22, 23]] mixed (by kernel_rfl) ?_
 refine Phases.go [] (by (repeat' constructor)) ?_
 refine D.kw [1, 2, 3, 4, 5, 6, 7, 8, 9, 10, 11, 12, 13, 14, 15, 16, 17, 18, 19, 20, 21, 22, 23] rfl (Quiet.move rfl) ?_
 refine D.kw [2, 3, 4, 5, 6, 7, 8, 9, 10, 11, 12, 13, 14, 15, 16, 17, 18, 19, 20, 21, 22, 23] rfl (Quiet.nilp rfl) ?_
 refine D.kw [3, 4, 5, 6, 7, 8, 9, 10, 11, 12, 13, 14, 15, 16, 17, 18, 19, 20, 21, 22, 23] rfl (Quiet.fieldAddr rfl fo_114_1) ?_
 refine D.kw [4, 5, 6, 7, 8, 9, 10, 11, 12, 13, 14, 15, 16, 17, 18, 19, 20, 21, 22, 23] rfl (Quiet.ld rfl ag_46) ?_
 refine D.kw [5, 6, 7, 8, 9, 10, 11, 12, 13, 14, 15, 16, 17, 18, 19, 20, 21, 22, 23] rfl (Quiet.slen rfl Tryz.underlying46 rfl) ?_
 refine D.kw [6, 7, 8, 9, 10, 11, 12, 13, 14, 15, 16, 17, 18, 19, 20, 21, 22, 23] rfl (Quiet.int rfl rfl rfl) ?_
 refine D.kw [7, 8, 9, 10, 11, 12, 13, 14, 15, 16, 17, 18, 19, 20, 21, 22, 23] rfl (Quiet.move rfl) ?_
 refine D.dec (t := 29) rfl (fun h2_29 => ?_) (fun h2_29 => ?_)
 ·refine D.kDT (t := 28) rfl h2_29 ?_
  refine D.gs (t := 29) rfl rfl rfl rfl (by kernel_rfl) ?_
  refine D.gs (t := 29) rfl rfl rfl rfl (by kernel_rfl) ?_
  refine D.gs (t := 29) rfl rfl rfl rfl (by kernel_rfl) ?_
  refine D.gs (t := 29) rfl rfl rfl rfl (by kernel_rfl) ?_
  refine D.gs (t := 29) rfl rfl rfl rfl (by kernel_rfl) ?_
  refine D.kw [13, 14, 15, 16, 17, 18, 19, 20, 21, 22, 23] rfl (Quiet.pickT rfl rfl) ?_
  refine D.kw [14, 15, 16, 17, 18, 19, 20, 21, 22, 23] rfl (Quiet.move rfl) ?_
  refine D.gs (t := 36) rfl rfl rfl rfl (by kernel_rfl) ?_
  refine D.gs (t := 36) rfl rfl rfl rfl (by kernel_rfl) ?_
  refine D.gs (t := 36) rfl rfl rfl rfl (by kernel_rfl) ?_
  refine D.gs (t := 36) rfl rfl rfl rfl (by kernel_rfl) ?_
  refine D.gs (t := 36) rfl rfl rfl rfl (by kernel_rfl) ?_
  refine D.gs (t := 36) rfl rfl rfl rfl (by kernel_rfl) ?_
  refine D.gs (t := 36) rfl rfl rfl rfl (by kernel_rfl) ?_
  refine D.gs (t := 36) rfl rfl rfl rfl (by kernel_rfl) ?_
  refine D.gs (t := 36) rfl rfl rfl rfl (by kernel_rfl) ?_
  refine D.kw [] rfl (Quiet.pickT rfl rfl) ?_
  refine D.ph (Phases.fin (G.then_n (G.condT rfl (G.seq (G.region (G.ag rfl rfl (G.ag rfl rfl (G.nil (G.then_n (G.ret (G.then_r ?_)))))))))))
  refine G.rlFold (y := w) (x := x) (ω := ω) (v := .slice ar ω.recs.length cr) (by (repeat' constructor)) rfl rfl rfl ?_
  exact G.dn (l := [.tmp 2, .tmp 3]) rfl rfl (.inl ⟨(by unfold openLZ; split; rfl; rw [List.eq_nil_of_length_eq_zero (by omega : ω.recs.length = 0)]; rfl), rfl, rfl⟩)
 ·refine D.kDF (t := 28) rfl h2_29 ?_
  refine D.gqw [8, 9, 10, 11, 12, 13, 14, 15, 16, 17, 18, 19, 20, 21, 22, 23] (t := 29) rfl rfl rfl (by kernel_rfl) (Quiet.move rfl) ?_
  refine D.gqw [9, 10, 11, 12, 13, 14, 15, 16, 17, 18, 19, 20, 21, 22, 23] (t := 29) rfl rfl rfl (by kernel_rfl) (Quiet.nilp rfl) ?_
  refine D.gqw [10, 11, 12, 13, 14, 15, 16, 17, 18, 19, 20, 21, 22, 23] (t := 29) rfl rfl rfl (by kernel_rfl) (Quiet.fieldAddr rfl fo_114_5) ?_
  refine D.gqw [11, 12, 13, 14, 15, 16, 17, 18, 19, 20, 21, 22, 23] (t := 29) rfl rfl rfl (by kernel_rfl) (Quiet.ld rfl ag_3) ?_
  refine D.gqw [12, 13, 14, 15, 16, 17, 18, 19, 20, 21, 22, 23] (t := 29) rfl rfl rfl (by kernel_rfl) (Quiet.int rfl rfl rfl) ?_
  refine D.kw [13, 14, 15, 16, 17, 18, 19, 20, 21, 22, 23] rfl (Quiet.pickF rfl rfl) ?_
  refine D.kw [14, 15, 16, 17, 18, 19, 20, 21, 22, 23] rfl (Quiet.move rfl) ?_
  refine D.dec (t := 36) rfl (fun h2_36 => ?_) (fun h2_36 => ?_)
  ·refine D.kDT (t := 34) rfl h2_36 (D.kDT (t := 35) rfl h2_36 ?_)
   refine D.gs (t := 36) rfl rfl rfl rfl (by kernel_rfl) ?_
   refine D.gs (t := 36) rfl rfl rfl rfl (by kernel_rfl) ?_
   refine D.gs (t := 36) rfl rfl rfl rfl (by kernel_rfl) ?_
   refine D.gs (t := 36) rfl rfl rfl rfl (by kernel_rfl) ?_
   refine D.gs (t := 36) rfl rfl rfl rfl (by kernel_rfl) ?_
   refine D.gs (t := 36) rfl rfl rfl rfl (by kernel_rfl) ?_
   refine D.gs (t := 36) rfl rfl rfl rfl (by kernel_rfl) ?_
   refine D.gs (t := 36) rfl rfl rfl rfl (by kernel_rfl) ?_
   refine D.gs (t := 36) rfl rfl rfl rfl (by kernel_rfl) ?_
   refine D.kw [] rfl (Quiet.pickT rfl rfl) ?_
   refine D.ph (Phases.fin (G.then_n (G.condT rfl (G.seq (G.region (G.ag rfl rfl (G.ag rfl rfl (G.nil (G.then_n (G.ret (G.then_r ?_)))))))))))
   refine G.rlFold (y := w) (x := x) (ω := ω) (v := .slice ar ω.recs.length cr) (by (repeat' constructor)) rfl rfl rfl ?_
   exact G.dn (l := [.tmp 2, .tmp 3]) rfl rfl (.inl ⟨(by unfold openLZ; rw [if_pos (by first | exact .inl (by omega) | exact .inr (by omega))]), rfl, rfl⟩)
  ·refine D.kDF (t := 34) rfl h2_36 (D.kDF (t := 35) rfl h2_36 ?_)
   refine D.gqw [15, 16, 17, 22, 23] (t := 36) rfl rfl rfl (by kernel_rfl) (Quiet.move rfl) ?_
   refine D.gqw [16, 17, 22, 23] (t := 36) rfl rfl rfl (by kernel_rfl) (Quiet.nilp rfl) ?_
   refine D.gqw [17, 22, 23] (t := 36) rfl rfl rfl (by kernel_rfl) (Quiet.fieldAddr rfl fo_114_6) ?_
   refine D.gqw [22, 23] (t := 36) rfl rfl rfl (by kernel_rfl) (Quiet.ld rfl ag_3) ?_
   refine D.gqw [19, 20, 21, 22, 23] (t := 36) rfl rfl rfl (by kernel_rfl) (Quiet.move rfl) ?_
   refine D.gqw [20, 21, 22, 23] (t := 36) rfl rfl rfl (by kernel_rfl) (Quiet.nilp rfl) ?_
   refine D.gqw [21, 22, 23] (t := 36) rfl rfl rfl (by kernel_rfl) (Quiet.fieldAddr rfl fo_114_5) ?_
   refine D.gqw [22, 23] (t := 36) rfl rfl rfl (by kernel_rfl) (Quiet.ld rfl ag_3) ?_
   refine D.gqw [23] (t := 36) rfl rfl rfl (by kernel_rfl) (Quiet.int rfl rfl rfl) ?_
   refine D.kw [] rfl (Quiet.pickF rfl rfl) ?_
   refine D.ph (Phases.fin (G.then_n ?_))
   refine G.condD rfl (fun h46 => ?_) (fun h46 => ?_)
   ·refine G.seq (G.region (G.ag rfl rfl (G.ag rfl rfl (G.nil (G.then_n (G.ret (G.then_r ?_)))))))
    refine G.rlFold (y := w) (x := x) (ω := ω) (v := .slice ar ω.recs.length cr) (by (repeat' constructor)) rfl rfl rfl ?_
    exact G.dn (l := [.tmp 2, .tmp 3]) rfl rfl (.inl ⟨(by unfold openLZ; rw [if_pos (by first | exact .inl (by omega) | exact .inr (by omega))]), rfl, rfl⟩)
   ·refine G.skip (G.then_n (G.seq ?_))
    refine G.slShape (v := (.slice ar ω.recs.length cr)) (by (repeat' constructor)) (by omega) fun br c1 e m _ => ?_
    simp only [Value.slice.injEq, true_and] at e
    obtain ⟨rfl, rfl⟩ := e
    have hpc : openLZ ω = lparseZ ω.a ω.b ω.recs := by unfold openLZ; rw [if_neg (by omega)]
    rw [parse_cons (by omega)] at hpc
    have hs0 : (ω.recs.getD 0 []).length ≤ 1073741824 := by rw [List.getD_eq_getElem?_getD, List.getElem?_eq_getElem (by omega)]; exact hs _ (List.getElem_mem _)
    refine G.region (G.mv rfl rfl (G.q (Quiet.nilp rfl) rfl (G.q (Quiet.fieldAddr rfl fo_114_1) rfl ?_)))
    refine G.q (Quiet.ld rfl ag_46) rfl ?_
    refine G.q (Quiet.indexAddr rfl rfl el_46 (by omega)) rfl ?_
    refine G.q (Quiet.loadEl (p := strR (.slice (some ⟨br, 0, none⟩) ω.recs.length cr) ω.recs) (i := 0) (v := vstr (ω.recs.getD 0 [])) rfl ag_9 (by (repeat' constructor)) (fun h hp => slR_rd hp) (by have hil : 0 < ω.recs.length := (by omega); simp [strs, List.getD_eq_getElem?_getD, hil])) rfl ?_
    refine G.q (Quiet.to (v' := .agg [vstr (ω.recs.getD 0 []), vint 0, vint 0].toArray) (Quiet.build (us := [(0, _)]) fl_208 ze_208 rfl rfl (by simp [isCell])) rfl) rfl ?_
    refine G.oq (OpSpec.box rfl) ?nx51
    rintro v L' ⟨r, rfl, rfl⟩
    refine G.ag rfl rfl (G.nil ?_)
    refine G.rfFold (r := r) (ω.recs.getD 0 []) 0 0 (by (repeat' constructor)) rfl (Nat.zero_le _) (by omega) ?_
    refine G.rfUpF (r := r) (st := some (ω.recs.getD 0 [])) (by (repeat' constructor)) rfl ?_
    refine G.then_n (G.seq (G.region (G.mv rfl rfl (G.mv rfl rfl ?_))))
    refine G.oq (OpSpec.call Tryz.func170 rfl rfl (vs := [_]) rfl (rfnumR_spec r _)) ?nx53
    rintro v L' ⟨rfl, rfl⟩
    refine G.q (Quiet.nilp rfl) rfl (G.q (Quiet.fieldAddr rfl fo_129_1) rfl ?_)
    refine G.oq (OpSpec.store rfl rfl rfl sz_3 ?c57 ?c58) ?nx59
    case c57 => first | decide | (simp; omega) | simp
    case c58 => exact nfz0 _ _
    rintro v L' rfl
    refine G.nil ?_
    refine G.ptCast (b := y) (l' := [vptr w, vint (numR (some (ω.recs.getD 0 []))).1, vstr [], .slice none 0 0, vint ω.a, vint ω.b, .bool false]) (by (repeat' constructor)) (by exact rfl) ?_
    refine G.then_n (G.seq (G.region (G.mv rfl rfl ?_)))
    refine G.oq (OpSpec.call Tryz.func171 rfl rfl (vs := [_, _]) rfl (rfcount_spec r 65536 (by decide) _)) ?nx60
    rintro v L' ⟨rfl, rfl⟩; rw [show runP 0 (cntP 65536) (numR (some (ω.recs.getD 0 []))).2 = cntX (numR (some (ω.recs.getD 0 []))).2 from rfl]
    refine G.ag rfl rfl (G.nil (G.then_n (G.seq (G.seq (G.region (G.mv rfl rfl ?_))))))
    refine G.oq (OpSpec.call Tryz.func172 rfl rfl (vs := [_]) rfl (rfend_spec r _)) ?nx62
    rintro v L' ⟨e1, he1, rfl, st', rfl⟩
    refine G.q (Quiet.int rfl rfl rfl) rfl (G.mv rfl rfl ?_)
    refine G.ndec (t := 65) rfl (fun h7_65 => ?_) (fun h7_65 => ?_)
    ·refine G.kNT (t := 64) rfl h7_65 (G.gskip (t := 65) rfl rfl rfl rfl (G.gskip (t := 65) rfl rfl rfl rfl (G.gskip (t := 65) rfl rfl rfl rfl (G.gskip (t := 65) rfl rfl rfl rfl (G.gskip (t := 65) rfl rfl rfl rfl (G.q (Quiet.pickT rfl rfl) rfl (G.nil (G.then_n (G.condT rfl (G.seq (G.region (G.ag rfl rfl (G.ag rfl rfl (G.nil (G.then_n (G.ret (G.then_r ?_)))))))))))))))))
     refine G.rlFold (y := w) (x := x) (ω := ω) (v := .slice (some ⟨br, 0, none⟩) ω.recs.length cr) (by (repeat' constructor)) rfl rfl rfl ?_
     exact G.dn (l := [.tmp 2, .tmp 3]) rfl rfl (.inl ⟨(by rw [hpc, lh_bad (fun g => h7_65 (he1.2 g))]), rfl, rfl⟩)
    ·refine G.kNF (t := 64) rfl h7_65 (G.grun (t := 65) rfl rfl rfl (G.mv rfl rfl (G.grun (t := 65) rfl rfl rfl (G.q (Quiet.nilp rfl) rfl (G.grun (t := 65) rfl rfl rfl (G.q (Quiet.fieldAddr rfl fo_129_1) rfl (G.grun (t := 65) rfl rfl rfl ?_)))))))
     refine G.q (Quiet.ld rfl ag_3) rfl ?_
     refine G.grun (t := 65) rfl rfl rfl (G.q (Quiet.int rfl rfl rfl) rfl (G.q (Quiet.pickF rfl rfl) rfl (G.nil (G.then_n ?_))))
     refine G.condD rfl (fun h71 => ?_) (fun h71 => ?_)
     ·refine G.seq (G.region (G.ag rfl rfl (G.ag rfl rfl (G.nil (G.then_n (G.ret (G.then_r ?_)))))))
      refine G.rlFold (y := w) (x := x) (ω := ω) (v := .slice (some ⟨br, 0, none⟩) ω.recs.length cr) (by (repeat' constructor)) rfl rfl rfl ?_
      exact G.dn (l := [.tmp 2, .tmp 3]) rfl rfl (.inl ⟨(by rw [hpc, lh_ok (he1.1 (by simpa using h7_65))]; exact if_pos (by omega)), rfl, rfl⟩)
     ·have hI0 := numR_i64 (some (ω.recs.getD 0 []))
      have hn0 := cntX_le (numR (some (ω.recs.getD 0 []))).2
      rw [lh_ok (he1.1 (by simpa using h7_65))] at hpc
      generalize hbase : (numR (some (ω.recs.getD 0 []))).1 = base at *
      generalize hmany : (cntX (numR (some (ω.recs.getD 0 []))).2).1 = many at *
      dsimp only at hpc
      rw [if_neg (by omega)] at hpc
      refine G.skip (G.then_n (G.seq (G.region (G.ag rfl rfl (G.nil (G.then_n (G.seq (G.block ?_))))))))
      refine G.loopK (ι := Nat × Bs) (fun q E => (7, vint q.1) :: E) (fun q => [gc9 y w base q.2 (.slice none 0 0) ω.a ω.b false, lc w x (.slice (some ⟨br, 0, none⟩) ω.recs.length cr) ω.synced ω.area ω.count ω.a ω.b ω.doubt, strR (.slice (some ⟨br, 0, none⟩) ω.recs.length cr) ω.recs]) (fun q => q.1 ≤ ω.recs.length ∧ openLZ ω = restZ ω.a ω.b base (snapZ many q.2 (ω.recs.drop q.1)) ∧ q.2.length ≤ many) (fun q => ω.recs.length - q.1) (1, []) (ts := [0, 4, 6]) (.cons rfl (.cons rfl (.cons rfl (.nil)))) (⟨by dsimp only; omega, hpc, Nat.zero_le _⟩) ⟨rfl, rfl, rfl, rfl, trivial⟩ (by (repeat' constructor)) ?_
      rintro ⟨i, sn⟩ ⟨hi, hpz, hsn⟩
      dsimp only
      dsimp only at hi hpz hsn
      refine G.seq (G.seq (G.region (G.mv rfl rfl (G.q (Quiet.nilp rfl) rfl (G.q (Quiet.fieldAddr rfl fo_129_2) rfl ?_)))))
      refine G.q (Quiet.ld rfl ag_9) rfl ?_
      refine G.q (Quiet.strlen rfl Tryz.underlying9 rfl) rfl (G.mv rfl rfl (G.q (Quiet.int rfl rfl rfl) rfl (G.nil (G.then_n ?_))))
      refine G.condD rfl (fun h78 => ?_) (fun h78 => ?_)
      ·refine G.skip (G.then_n (G.block (G.seq (G.region (G.mv rfl rfl (G.mv rfl rfl (G.q (Quiet.nilp rfl) rfl (G.q (Quiet.fieldAddr rfl fo_129_2) rfl ?_))))))))
       refine G.q (Quiet.ld rfl ag_9) rfl ?_
       refine G.q (Quiet.strlen rfl Tryz.underlying9 rfl) rfl ?_
       refine G.q (Quiet.sub rfl rfl (by omega)) rfl ?_
       refine G.q (Quiet.as (v' := vint ((min 4000 (many - sn.length) : Nat) : Int)) (by congr 1; omega) (Quiet.min2 rfl rfl)) rfl ?_
       refine G.ag rfl rfl (G.nil (G.then_n (G.seq (G.seq (G.region (G.mv rfl rfl (G.mv rfl rfl (G.q (Quiet.nilp rfl) rfl (G.q (Quiet.fieldAddr rfl fo_114_1) rfl ?_)))))))))
       refine G.q (Quiet.ld rfl ag_46) rfl ?_
       refine G.q (Quiet.slen rfl Tryz.underlying46 rfl) rfl (G.q (Quiet.int rfl rfl rfl) rfl (G.mv rfl rfl ?_))
       refine G.dec (t := 94) rfl (fun h12_94 => ?_) (fun h12_94 => ?_)
       ·refine G.kDT (t := 93) rfl h12_94 (G.gskip (t := 94) rfl rfl rfl rfl (G.gskip (t := 94) rfl rfl rfl rfl (G.gskip (t := 94) rfl rfl rfl rfl (G.gskip (t := 94) rfl rfl rfl rfl (G.gskip (t := 94) rfl rfl rfl rfl (G.gskip (t := 94) rfl rfl rfl rfl (G.gskip (t := 94) rfl rfl rfl rfl (G.gskip (t := 94) rfl rfl rfl rfl (G.gskip (t := 94) rfl rfl rfl rfl (G.gskip (t := 94) rfl rfl rfl rfl (G.q (Quiet.pickT rfl rfl) rfl (G.nil (G.then_n (G.condT rfl (G.seq (G.region (G.ag rfl rfl (G.ag rfl rfl (G.nil (G.then_n (G.ret (G.then_r (G.blk_r (G.then_r (G.blk_r (G.then_r ?_))))))))))))))))))))))))))
        refine G.rlFold (y := w) (x := x) (ω := ω) (v := .slice (some ⟨br, 0, none⟩) ω.recs.length cr) (by (repeat' constructor)) rfl rfl rfl ?_
        exact G.dn (l := [.tmp 2, .tmp 3]) rfl rfl (.inl ⟨(by rw [hpz, List.drop_eq_nil_of_le (by omega), snap_none (by omega)]; rfl), rfl, rfl⟩)
       ·refine G.kDF (t := 93) rfl h12_94 (G.grun (t := 94) rfl rfl rfl (G.mv rfl rfl (G.grun (t := 94) rfl rfl rfl (G.q (Quiet.nilp rfl) rfl (G.grun (t := 94) rfl rfl rfl (G.q (Quiet.fieldAddr rfl fo_114_1) rfl (G.grun (t := 94) rfl rfl rfl ?_)))))))
        refine G.q (Quiet.ld rfl ag_46) rfl ?_
        refine G.grun (t := 94) rfl rfl rfl (G.mv rfl rfl (G.grun (t := 94) rfl rfl rfl ?_))
        refine G.q (Quiet.indexAddr rfl rfl el_46 (by omega)) rfl ?_
        refine G.grun (t := 94) rfl rfl rfl ?_
        refine G.q (Quiet.loadEl (p := strR (.slice (some ⟨br, 0, none⟩) ω.recs.length cr) ω.recs) (i := i * 1) (v := vstr (ω.recs.getD i [])) rfl ag_9 (by (repeat' constructor)) (fun h hp => slR_rd hp) (by have hil : i < ω.recs.length := (by omega); simp [strs, List.getD_eq_getElem?_getD, hil])) rfl ?_
        refine G.grun (t := 94) rfl rfl rfl (G.q (Quiet.strlen rfl Tryz.underlying9 rfl) rfl (G.grun (t := 94) rfl rfl rfl (G.mv rfl rfl (G.grun (t := 94) rfl rfl rfl (G.q (Quiet.int rfl rfl rfl) rfl (G.q (Quiet.pickF rfl rfl) rfl (G.nil (G.then_n ?_))))))))
        refine G.condN rfl (fun h105 => ?_) (fun h105 => ?_)
        ·refine G.seq (G.region (G.ag rfl rfl (G.ag rfl rfl (G.nil (G.then_n (G.ret (G.then_r (G.blk_r (G.then_r (G.blk_r (G.then_r ?_)))))))))))
         refine G.rlFold (y := w) (x := x) (ω := ω) (v := .slice (some ⟨br, 0, none⟩) ω.recs.length cr) (by (repeat' constructor)) rfl rfl rfl ?_
         exact G.dn (l := [.tmp 2, .tmp 3]) rfl rfl (.inl ⟨(by rw [hpz, drop_cons (by omega), snap_bad (by omega) (by omega)]; rfl), rfl, rfl⟩)
        ·refine G.skip (G.then_n (G.seq ?_))
         refine G.draw [15] [[0, 1, 2, 3, 4, 5, 6, 7, 8, 9, 10, 11, 12, 13, 14, 15]] mixed (by kernel_rfl) ?_
         refine Phases.go [] (by (repeat' constructor)) ?_
         refine D.kw [13, 14, 15] rfl (Quiet.move rfl) ?_
         refine D.kw [2, 3, 4, 12, 13, 14, 15] rfl (Quiet.move rfl) ?_
         refine D.kw [3, 4, 12, 13, 14, 15] rfl (Quiet.nilp rfl) ?_
         refine D.kw [4, 12, 13, 14, 15] rfl (Quiet.fieldAddr rfl fo_129_2) ?_
         refine D.kw [12, 13, 14, 15] rfl (Quiet.ld rfl ag_9) ?_
         refine D.kw [6, 7, 8, 10, 11, 12, 13, 14, 15] rfl (Quiet.move rfl) ?_
         refine D.kw [7, 8, 10, 11, 12, 13, 14, 15] rfl (Quiet.nilp rfl) ?_
         refine D.kw [8, 10, 11, 12, 13, 14, 15] rfl (Quiet.fieldAddr rfl fo_114_1) ?_
         refine D.kw [10, 11, 12, 13, 14, 15] rfl (Quiet.ld rfl ag_46) ?_
         refine D.kw [10, 11, 12, 13, 14, 15] rfl (Quiet.move rfl) ?_
         refine D.kw [11, 12, 13, 14, 15] rfl (Quiet.indexAddr rfl rfl el_46 (by omega)) ?_
         refine D.kw [12, 13, 14, 15] rfl (Quiet.loadEl (p := strR (.slice (some ⟨br, 0, none⟩) ω.recs.length cr) ω.recs) (i := i * 1) (v := vstr (ω.recs.getD i [])) rfl ag_9 (by (repeat' constructor)) (fun h hp => slR_rd hp) (by have hil : i < ω.recs.length := (by omega); simp [strs, List.getD_eq_getElem?_getD, hil])) ?_
         refine D.kw [13, 14, 15] rfl (Quiet.concat rfl rfl (by omega)) ?_
         refine D.kw [14, 15] rfl (Quiet.nilp rfl) ?_
         refine D.kw [15] rfl (Quiet.fieldAddr rfl fo_129_2) ?_
         refine D.h rfl (by kernel_rfl) (OpSpec.store rfl rfl rfl sz_9 ?c126 ?c127) (by (repeat' constructor)) ?nx128
         case c126 => simp
         case c127 => exact nfz0 _ _
         rintro v L' rfl
         refine D.ph (Phases.fin (G.then_n (G.region (G.mv rfl rfl ?_))))
         refine G.q (Quiet.add rfl rfl (by omega)) rfl ?_
         refine G.ag rfl rfl (G.nil (G.blk_n (G.then_n ?_)))
         refine G.ptCast (b := y) (l' := [vptr w, vint base, vstr (sn ++ ω.recs.getD i []), .slice none 0 0, vint ω.a, vint ω.b, .bool false]) (by (repeat' constructor)) (by exact rfl) ?_
         exact G.roundK ((i + 1, sn ++ ω.recs.getD i [])) (⟨by dsimp only; omega, by dsimp only; rw [hpz, drop_cons (by omega), snap_step (by omega) (by omega)], by dsimp only; rw [List.length_append]; omega⟩) (by dsimp only; omega) ⟨rfl, rfl, rfl, rfl, trivial⟩ (by (repeat' constructor)) (by ((repeat (apply Have.cons; (repeat (first | exact Pick.here | apply Pick.there)))); apply Have.base; repeat' constructor))
      ·refine G.exit (G.then_e (G.then_e (G.blk_e (G.then_n (G.seq (G.seq ?_))))))
       rw [snap_done (by omega)] at hpz
       refine G.add (slR_nil 38 11) ?_
       refine G.add (p := bigR entR []) (fun h => big_nil h) ?_
       refine G.region (G.mv rfl rfl (G.ag rfl rfl (G.nil (G.then_n (G.block ?_)))))
       refine G.loopK (ι := Nat × Value × (List En)) (fun q E => (9, vint q.1) :: E) (fun q => [gc9 y w base sn q.2.1 ω.a ω.b false, slR 38 11 q.2.1 q.2.2.length (q.2.2.flatMap enC), bigR entR q.2.2, lc w x (.slice (some ⟨br, 0, none⟩) ω.recs.length cr) ω.synced ω.area ω.count ω.a ω.b ω.doubt, strR (.slice (some ⟨br, 0, none⟩) ω.recs.length cr) ω.recs]) (fun q => q.1 ≤ ω.recs.length ∧ q.2.2.length ≤ 200 ∧ (∃ a c, q.2.1 = .slice a q.2.2.length c) ∧ (∀ e ∈ q.2.2, EnK e ∧ EnG e) ∧ openLZ ω = entsZ ⟨ω.a, ω.b, base, sn, q.2.2.map enB, q.2.2.map (·.zx), false⟩ (ω.recs.drop q.1)) (fun q => ω.recs.length - q.1) (i, .slice none 0 0, []) (ts := [0, 4]) (.cons rfl (.cons rfl (.nil))) (⟨hi, by dsimp only; decide, ⟨none, 0, rfl⟩, fun e he => (by cases he), hpz⟩) ⟨rfl, rfl, rfl, trivial⟩ (by (repeat' constructor)) ?_
       rintro ⟨j, u, es⟩ ⟨hj, hel, ⟨au, cu, hu⟩, hek, hpe⟩
       dsimp only
       dsimp only at hj hel hu hek hpe
       subst hu
       refine G.seq (G.seq (G.region (G.mv rfl rfl (G.mv rfl rfl (G.q (Quiet.nilp rfl) rfl (G.q (Quiet.fieldAddr rfl fo_114_1) rfl ?_))))))
       refine G.q (Quiet.ld rfl ag_46) rfl ?_
       refine G.q (Quiet.slen rfl Tryz.underlying46 rfl) rfl (G.q (Quiet.int rfl rfl rfl) rfl (G.nil (G.then_n ?_)))
       refine G.condD rfl (fun h130 => ?_) (fun h130 => ?_)
       ·have hsl2 : (ω.recs.getD j []).length ≤ 1073741824 := by rw [List.getD_eq_getElem?_getD, List.getElem?_eq_getElem (by omega)]; exact hs _ (List.getElem_mem _)
        refine G.skip (G.then_n (G.seq (G.block (G.seq (G.region (G.mv rfl rfl (G.q (Quiet.nilp rfl) rfl (G.q (Quiet.fieldAddr rfl fo_114_1) rfl ?_))))))))
        refine G.q (Quiet.ld rfl ag_46) rfl ?_
        refine G.mv rfl rfl ?_
        refine G.q (Quiet.indexAddr rfl rfl el_46 (by omega)) rfl ?_
        refine G.q (Quiet.loadEl (p := strR (.slice (some ⟨br, 0, none⟩) ω.recs.length cr) ω.recs) (i := j * 1) (v := vstr (ω.recs.getD j [])) rfl ag_9 (by (repeat' constructor)) (fun h hp => slR_rd hp) (by have hil : j < ω.recs.length := (by omega); simp [strs, List.getD_eq_getElem?_getD, hil])) rfl ?_
        refine G.oq (OpSpec.call Tryz.func173 rfl rfl (vs := [_]) rfl (r2get_spec (ω.recs.getD j []) (by omega))) ?nx146
        rintro v L' ⟨ge, er, hge, rfl, rfl⟩
        refine G.mv rfl rfl (G.q (Quiet.extract rfl rfl) rfl (G.q (Quiet.extract rfl rfl) rfl ?_))
        refine G.oq (OpSpec.allocA ze_38) ?nx150
        rintro v L' ⟨b10, rfl, rfl⟩
        refine G.oq (OpSpec.storeA rfl rfl ?c152 sz_38 ?c155 ?c153 ?c154) ?nx156
        case c152 => exact hge.cells
        case c155 => rfl
        case c153 => simp [enC, ptC]
        case c154 => exact nfz0 _ _
        rintro v L' rfl
        refine G.ag rfl rfl (G.nil ?_)
        refine G.ptCast (b := b10) (l' := enC ge) (by (repeat' constructor)) (by exact rfl) ?_
        refine G.then_n (G.seq (G.seq ?_))
        refine G.draw [] [[0, 1, 2, 3, 4, 5, 6, 7, 8, 9, 10, 11, 12, 13, 14, 15, 16]] mixed (by kernel_rfl) ?_
        refine Phases.go [ptc b10 _ _, ptc y _ _, slR 38 11 _ es.length _] (by (repeat' constructor)) ?_
        refine D.kw [1, 2, 3, 4, 5, 6, 7, 8, 9, 10, 11, 12, 13, 14, 15, 16] rfl (Quiet.move rfl) ?_
        refine D.kw [2, 3, 4, 5, 6, 7, 8, 9, 10, 11, 12, 13, 14, 15, 16] rfl (Quiet.int rfl rfl rfl) ?_
        refine D.kw [3, 4, 5, 6, 7, 8, 9, 10, 11, 12, 13, 14, 15, 16] rfl (Quiet.move rfl) ?_
        refine D.ndec (t := 146) rfl (fun h20_146 => ?_) (fun h20_146 => ?_)
        ·refine D.kNT (t := 145) rfl h20_146 ?_
         refine D.gs (t := 146) rfl rfl rfl rfl (by kernel_rfl) ?_
         refine D.gs (t := 146) rfl rfl rfl rfl (by kernel_rfl) ?_
         refine D.gs (t := 146) rfl rfl rfl rfl (by kernel_rfl) ?_
         refine D.gs (t := 146) rfl rfl rfl rfl (by kernel_rfl) ?_
         refine D.gs (t := 146) rfl rfl rfl rfl (by kernel_rfl) ?_
         refine D.kw [9, 10, 11, 12, 13, 14, 15, 16] rfl (Quiet.pickT rfl rfl) ?_
         refine D.kw [10, 11, 12, 13, 14, 15, 16] rfl (Quiet.move rfl) ?_
         refine D.gs (t := 153) rfl rfl rfl rfl (by kernel_rfl) ?_
         refine D.gs (t := 153) rfl rfl rfl rfl (by kernel_rfl) ?_
         refine D.gs (t := 153) rfl rfl rfl rfl (by kernel_rfl) ?_
         refine D.gs (t := 153) rfl rfl rfl rfl (by kernel_rfl) ?_
         refine D.gs (t := 153) rfl rfl rfl rfl (by kernel_rfl) ?_
         refine D.gs (t := 153) rfl rfl rfl rfl (by kernel_rfl) ?_
         refine D.kw [] rfl (Quiet.pickT rfl rfl) ?_
         refine D.ph (Phases.fin (G.then_n (G.condT rfl (G.seq (G.region (G.ag rfl rfl (G.ag rfl rfl (G.nil (G.then_n (G.ret (G.then_r (G.blk_r (G.then_r (G.then_r (G.blk_r (G.then_r ?_))))))))))))))))
         refine G.rlFold (y := w) (x := x) (ω := ω) (v := .slice (some ⟨br, 0, none⟩) ω.recs.length cr) (by (repeat' constructor)) rfl rfl rfl ?_
         exact G.dn (l := [.tmp 2, .tmp 3]) rfl rfl (.inl ⟨(by rw [hpe, drop_cons (by omega), ents_none (getZ_no hge h20_146)]), rfl, rfl⟩)
        ·obtain ⟨hgz, hge2, hgk, hgg⟩ := getZ_of hge h20_146
         refine D.kNF (t := 145) rfl h20_146 ?_
         refine D.gqw [4, 7, 8, 9, 10, 11, 12, 13, 14, 15, 16] (t := 146) rfl rfl rfl (by kernel_rfl) (Quiet.fieldAddr rfl fo_38_0) ?_
         refine D.gqw [7, 8, 9, 10, 11, 12, 13, 14, 15, 16] (t := 146) rfl rfl rfl (by kernel_rfl) (Quiet.ld rfl ag_3) ?_
         refine D.gqw [6, 7, 8, 9, 10, 11, 12, 13, 14, 15, 16] (t := 146) rfl rfl rfl (by kernel_rfl) (Quiet.move rfl) ?_
         refine D.gm (t := 146) rfl rfl rfl (by kernel_rfl) (OpSpec.call Tryz.func130 rfl rfl (vs := [_]) rfl (r9last_spec y w base sn au cu ω.a ω.b false es (by omega))) (by (repeat' constructor)) ?nx165
         refine D.gqw [8, 9, 10, 11, 12, 13, 14, 15, 16] (t := 146) rfl rfl rfl (by kernel_rfl) (Quiet.int rfl rfl rfl) ?_
         refine D.kw [9, 10, 11, 12, 13, 14, 15, 16] rfl (Quiet.pickF rfl rfl) ?_
         refine D.kw [10, 11, 12, 13, 14, 15, 16] rfl (Quiet.move rfl) ?_
         refine D.dec (t := 153) rfl (fun h20_153 => ?_) (fun h20_153 => ?_)
         ·refine D.kDT (t := 151) rfl h20_153 (D.kDT (t := 152) rfl h20_153 ?_)
          refine D.gs (t := 153) rfl rfl rfl rfl (by kernel_rfl) ?_
          refine D.gs (t := 153) rfl rfl rfl rfl (by kernel_rfl) ?_
          refine D.gs (t := 153) rfl rfl rfl rfl (by kernel_rfl) ?_
          refine D.gs (t := 153) rfl rfl rfl rfl (by kernel_rfl) ?_
          refine D.gs (t := 153) rfl rfl rfl rfl (by kernel_rfl) ?_
          refine D.gs (t := 153) rfl rfl rfl rfl (by kernel_rfl) ?_
          refine D.kw [] rfl (Quiet.pickT rfl rfl) ?_
          refine D.ph (Phases.fin (G.then_n (G.condT rfl (G.seq (G.region (G.ag rfl rfl (G.ag rfl rfl (G.nil (G.then_n (G.ret (G.then_r (G.blk_r (G.then_r (G.then_r (G.blk_r (G.then_r ?_))))))))))))))))
          refine G.rlFold (y := w) (x := x) (ω := ω) (v := .slice (some ⟨br, 0, none⟩) ω.recs.length cr) (by (repeat' constructor)) rfl rfl rfl ?_
          exact G.dn (l := [.tmp 2, .tmp 3]) rfl rfl (.inl ⟨(by rw [hpe, drop_cons (by omega), ents_bad hgz (by first | exact .inl h20_153 | exact .inr (by show (es.map enB).length = 200; rw [List.length_map]; omega))]), rfl, rfl⟩)
         ·refine D.kDF (t := 151) rfl h20_153 (D.kDF (t := 152) rfl h20_153 ?_)
          refine D.gqw [11, 12, 13, 14, 15, 16] (t := 153) rfl rfl rfl (by kernel_rfl) (Quiet.move rfl) ?_
          refine D.gqw [12, 13, 14, 15, 16] (t := 153) rfl rfl rfl (by kernel_rfl) (Quiet.nilp rfl) ?_
          refine D.gqw [13, 14, 15, 16] (t := 153) rfl rfl rfl (by kernel_rfl) (Quiet.fieldAddr rfl fo_129_3) ?_
          refine D.gqw [14, 15, 16] (t := 153) rfl rfl rfl (by kernel_rfl) (Quiet.ld rfl ag_22) ?_
          refine D.gqw [15, 16] (t := 153) rfl rfl rfl (by kernel_rfl) (Quiet.slen rfl Tryz.underlying22 rfl) ?_
          refine D.gqw [16] (t := 153) rfl rfl rfl (by kernel_rfl) (Quiet.int rfl rfl rfl) ?_
          refine D.kw [] rfl (Quiet.pickF rfl rfl) ?_
          refine D.ph (Phases.fin (G.then_n ?_))
          refine G.condD rfl (fun h160 => ?_) (fun h160 => ?_)
          ·refine G.seq (G.region (G.ag rfl rfl (G.ag rfl rfl (G.nil (G.then_n (G.ret (G.then_r (G.blk_r (G.then_r (G.then_r (G.blk_r (G.then_r ?_))))))))))))
           refine G.rlFold (y := w) (x := x) (ω := ω) (v := .slice (some ⟨br, 0, none⟩) ω.recs.length cr) (by (repeat' constructor)) rfl rfl rfl ?_
           exact G.dn (l := [.tmp 2, .tmp 3]) rfl rfl (.inl ⟨(by rw [hpe, drop_cons (by omega), ents_bad hgz (by first | exact .inl h20_153 | exact .inr (by show (es.map enB).length = 200; rw [List.length_map]; omega))]), rfl, rfl⟩)
          ·refine G.skip (G.then_n ?_)
           refine G.draw [6, 7, 10] [[0, 1, 2, 3, 4, 5, 6, 7], [8, 9, 10]] mixed (by kernel_rfl) ?_
           refine Phases.go [ptc b10 _ _, ptc y _ _] (by (repeat' constructor)) ?_
           refine D.k rfl (Quiet.move rfl) ?_
           refine D.k rfl (Quiet.move rfl) ?_
           refine D.k rfl (Quiet.nilp rfl) ?_
           refine D.k rfl (Quiet.fieldAddr rfl fo_129_3) ?_
           refine D.k rfl (Quiet.ld rfl ag_22) ?_
           refine D.kw [6, 7] rfl (Quiet.loadAs (vs := enC ge) rfl ag_38 (by (repeat' constructor)) (by simp [enC, ptC]) rfl) ?_
           refine D.h rfl (by kernel_rfl) (OpSpec.buildSlice (vs := [_]) el_22 ze_38 rfl rfl rfl rfl (by first | (simp [Value.cells]; done) | (intro v hv; simp only [List.mem_cons, List.not_mem_nil, or_false] at hv; (repeat (first | (subst hv; rfl) | (rcases hv with hv | hv; (subst hv; rfl)))))) (by decide)) (by (repeat' constructor)) ?nx185
           rintro v L' ⟨b8, rfl, rfl⟩
           refine D.h rfl (by kernel_rfl) (OpSpec.append1 rfl rfl rfl el_22 ze_38 rfl rfl ?c187 ?c188 (Nat.le_refl _) ?c189 (by decide)) (by (repeat' constructor)) ?nx190
           case c187 => simp only [List.map_cons, List.map_nil, List.flatten_cons, List.flatten_nil, List.append_nil]; simp only [Value.cells]; intro z hz; exact hgk.cells z (by simpa using hz)
           case c188 => rfl
           case c189 => omega
           rintro v L' ⟨⟨a22, c22, rfl⟩, rfl⟩
           refine D.ph ?_
           refine Phases.go [] (by (repeat' constructor)) ?_
           refine D.kw [9, 10] rfl (Quiet.nilp rfl) ?_
           refine D.kw [10] rfl (Quiet.fieldAddr rfl fo_129_3) ?_
           refine D.h rfl (by kernel_rfl) (OpSpec.store rfl rfl rfl sz_22 ?c194 ?c195) (by (repeat' constructor)) ?nx196
           case c194 => simp
           case c195 => exact nfz0 _ _
           rintro v L' rfl
           refine D.ph (Phases.fin (G.blk_n (G.then_n (G.region (G.mv rfl rfl ?_)))))
           refine G.q (Quiet.add rfl rfl (by omega)) rfl ?_
           refine G.ag rfl rfl (G.nil (G.then_n ?_))
           refine G.bigAdd (f := entR) (l := es) (p := entR ge) ge rfl (by (repeat' constructor)) ?_
           refine G.slCast (T := 38) (sz := 11) (m' := (es ++ [ge]).length) (xs' := (es ++ [ge]).flatMap enC) (by (repeat' constructor)) (by simp) (by rw [List.flatMap_append]; simp [Value.cells]) ?_
           refine G.ptCast (b := y) (l' := [vptr w, vint base, vstr sn, .slice a22 (es.length + 1) c22, vint ω.a, vint ω.b, .bool false]) (by (repeat' constructor)) (by exact rfl) ?_
           exact G.roundK ((j + 1, .slice a22 (es.length + 1) c22, es ++ [ge])) (⟨by dsimp only; omega, by dsimp only; rw [List.length_append, List.length_singleton]; omega, ⟨a22, c22, by simp⟩, fun e he => by rcases List.mem_append.1 he with he | he; exact hek e he; rw [List.mem_singleton] at he; subst he; exact ⟨hgk, hgg⟩, by dsimp only; rw [hpe, drop_cons (by omega), ents_step hgz (by rintro (g1 | g1); exact h20_153 g1; have g2 : (es.map enB).length = 200 := g1; rw [List.length_map] at g2; omega), show ge.pl.zx = ge.zx from rfl, keep_eq hge2]⟩) (by dsimp only; omega) ⟨rfl, rfl, rfl, trivial⟩ (by (repeat' constructor)) (by ((repeat (apply Have.cons; (repeat (first | exact Pick.here | apply Pick.there)))); apply Have.base; repeat' constructor))
       ·refine G.exit (G.then_e (G.then_e (G.blk_e (G.then_n (G.seq (G.region (G.mv rfl rfl (G.ag rfl rfl (G.ag rfl rfl (G.nil (G.then_n (G.ret ?_))))))))))))
        refine G.rlFold (y := w) (x := x) (ω := ω) (v := .slice (some ⟨br, 0, none⟩) ω.recs.length cr) (by (repeat' constructor)) rfl rfl rfl ?_
        refine G.rgFold (y := y) (w := w) ⟨ω.a, ω.b, base, sn, es.map enB, es.map (·.zx), false⟩ au cu es (by (repeat' constructor)) (esOf_self (by omega) hek) rfl rfl rfl rfl ?_
        exact G.dn (l := [.tmp 2, .tmp 3]) rfl rfl (.inr ⟨_, y, (by rw [hpe, List.drop_eq_nil_of_le (by omega)]; rfl), rfl, rfl⟩)

end Go.Proofs.YtidjhgbdokcphaaGreat

/- Own work: the document's marks of epochs: plain. -/

namespace Go.Proofs.YtidjhgbdokcphaaGreat
open Go

theorem marks_pos {Λ : Lg} (hb : 0 < Λ.base) (h : ∀ z ∈ Λ.zxs, z ≠ 0) : marksZ Λ = wantF (Λ.base :: Λ.zxs) := by
  unfold marksZ
  rw [List.foldl_cons, mk_new (by omega) (.inl rfl), marks_fold _ _ _ h, List.nil_append]
def wantW (Λ : Lg) (i : Nat) : List Int := if i = 0 ∧ Λ.base = 0 then wantF Λ.zxs else wantF ((Λ.base :: Λ.zxs).drop i)
theorem wantW_0 {Λ : Lg} (h : LgW Λ) : wantW Λ 0 = marksZ Λ := by
  unfold wantW
  have hb := h.base
  have hg := h.rows.gt
  by_cases g : Λ.base = 0
  · rw [if_pos ⟨rfl, g⟩, marks_want g (fun z hz => by have := hg z hz; omega)]
  · rw [if_neg (fun q => g q.2), marks_pos (by omega) (fun z hz => by have := hg z hz; omega), List.drop_zero]
theorem wantW_end {Λ : Lg} {i : Nat} (h : (Λ.base :: Λ.zxs).length ≤ i) : wantW Λ i = [] := by
  unfold wantW
  rw [if_neg (by rintro ⟨g, -⟩; rw [List.length_cons] at h; omega), List.drop_eq_nil_of_le h]; rfl
theorem wantW_go {Λ : Lg} (h : LgW Λ) {i : Nat} (hi : i < (Λ.base :: Λ.zxs).length) : wantW Λ i = (if (Λ.base :: Λ.zxs).getD i 0 > 0 ∧ (i + 1 = (Λ.base :: Λ.zxs).length ∨ ¬ (Λ.base :: Λ.zxs).getD (i + 1) 0 / 4294967296 = (Λ.base :: Λ.zxs).getD i 0 / 4294967296) then [(Λ.base :: Λ.zxs).getD i 0] else []) ++ wantW Λ (i + 1) := by
  have hb := h.base
  have e1 : wantW Λ (i + 1) = wantF ((Λ.base :: Λ.zxs).drop (i + 1)) := by unfold wantW; rw [if_neg (by rintro ⟨g, -⟩; omega)]
  rw [e1]
  by_cases g : i = 0 ∧ Λ.base = 0
  · obtain ⟨rfl, g⟩ := g
    unfold wantW
    rw [if_pos ⟨rfl, g⟩, if_neg (by rintro ⟨q, -⟩; have e : (Λ.base :: Λ.zxs).getD 0 0 = Λ.base := rfl; omega)]
    rfl
  · have hp : (Λ.base :: Λ.zxs).getD i 0 > 0 := by
      cases i with
      | zero => show Λ.base > 0; have : Λ.base ≠ 0 := fun q => g ⟨rfl, q⟩; omega
      | succ i =>
        rw [List.length_cons] at hi
        have := pos_at h (i := i) (by omega)
        show Λ.zxs.getD i 0 > 0; omega
    unfold wantW
    rw [if_neg g, want_step hi]
    by_cases q : i + 1 = (Λ.base :: Λ.zxs).length ∨ ¬ (Λ.base :: Λ.zxs).getD (i + 1) 0 / 4294967296 = (Λ.base :: Λ.zxs).getD i 0 / 4294967296
    · rw [if_pos q, if_pos ⟨hp, q⟩]
    · rw [if_neg q, if_neg (fun r => q r.2)]
theorem zx_take {es : List En} {base : Int} {i : Nat} (h : i < es.length) : base :: (es.take (i + 1)).map (·.zx) = (base :: (es.take i).map (·.zx)) ++ [es[i].zx] := by
  rw [List.take_succ_eq_append_getElem h, List.map_append, List.map_singleton]; rfl
theorem behind_es {Λ : Lg} {es : List En} (h : EsOf es Λ) (z : Int) : (es.filter fun e => decide (e.zx > z)).map enB = behindB Λ z := by
  have key : ∀ es : List En, (es.filter fun e => decide (e.zx > z)).map enB = (((es.map enB).zip (es.map (·.zx))).filter fun q => decide (q.2 > z)).map (·.1) := by
    intro es
    induction es with
    | nil => rfl
    | cons e es ih =>
      rw [List.map_cons, List.map_cons, List.zip_cons_cons]
      by_cases g : e.zx > z
      · rw [List.filter_cons_of_pos (by simpa using g), List.filter_cons_of_pos (by simpa using g), List.map_cons, List.map_cons, ih]
      · rw [List.filter_cons_of_neg (by simpa using g), List.filter_cons_of_neg (by simpa using g), ih]
  unfold behindB
  rw [← h.b, ← h.z]; exact key es
theorem filter_go {es : List En} {P : En → Bool} {i : Nat} (h : i < es.length) : (es.take (i + 1)).filter P = (es.take i).filter P ++ (if P es[i] = true then [es[i]] else []) := by
  rw [List.take_succ_eq_append_getElem h, List.filter_append]
  by_cases g : P es[i] = true
  · rw [if_pos g, List.filter_cons_of_pos g]; rfl
  · rw [if_neg g, List.filter_cons_of_neg g]; rfl
end Go.Proofs.YtidjhgbdokcphaaGreat

/- Own work, by program: the document's ledger: Open, Entries, Marks: walked. -/

namespace Go.Proofs.YtidjhgbdokcphaaGreat
open Go
theorem r9entries_spec (y w : Nat) (base : Int) (snap : Bs) (a : Option Addr) (c : Nat) (acc cur : Int) (db : Bool) (es : List En) (z : Int) (hn : es.length ≤ 1048576) (hk : ∀ e ∈ es, EnK e) : Fn Tryz.prog 131 #[vptr y, vint z] [gc9 y w base snap (.slice a es.length c) acc cur db, es9 (.slice a es.length c) es] fun v L => (z < base ∧ v = .tuple #[.slice none 0 0, vint 81] ∧ L = [gc9 y w base snap (.slice a es.length c) acc cur db, es9 (.slice a es.length c) es]) ∨
    (¬ z < base ∧ ∃ a2 c2, v = .tuple #[.slice a2 (es.filter fun e => decide (e.zx > z)).length c2, vint 0] ∧ L = [gc9 y w base snap (.slice a es.length c) acc cur db, es9 (.slice a es.length c) es, es9 (.slice a2 (es.filter fun e => decide (e.zx > z)).length c2) (es.filter fun e => decide (e.zx > z))]) := by
 refine Fn.intro (vs := [vptr y, vint z]) Tryz.func131 rfl rfl ?_
 intro F W
 refine G.seq (G.region (G.ag rfl rfl (G.ag rfl rfl (G.nil (G.then_n (G.seq (G.seq (G.region (G.mv rfl rfl (G.mv rfl rfl (G.q (Quiet.nilp rfl) rfl (G.q (Quiet.fieldAddr rfl fo_129_1) rfl ?_))))))))))))
 refine G.q (Quiet.ld rfl ag_3) rfl ?_
 refine G.q (Quiet.int rfl rfl rfl) rfl (G.nil (G.then_n ?_))
 refine G.condD rfl (fun h13 => ?_) (fun h13 => ?_)
 ·refine G.seq (G.region (G.ag rfl rfl (G.ag rfl rfl (G.nil (G.then_n (G.ret (G.then_r ?_)))))))
  exact G.dn (l := [.tmp 4, .tmp 5]) rfl rfl (.inl ⟨h13, rfl, rfl⟩)
 ·refine G.skip (G.then_n (G.seq (G.region (G.ag rfl rfl (G.nil (G.then_n (G.seq (G.seq (G.add (slR_nil 38 11) (G.region (G.ag rfl rfl (G.nil (G.then_n (G.block ?_))))))))))))))
  refine G.loopK (ι := Nat × Value × (List En)) (fun q E => (7, vint q.1) :: (6, q.2.1) :: E) (fun q => [gc9 y w base snap (.slice a es.length c) acc cur db, es9 (.slice a es.length c) es, slR 38 11 q.2.1 q.2.2.length (q.2.2.flatMap enC)]) (fun q => q.1 ≤ es.length ∧ q.2.2 = ((es.take q.1).filter fun e => decide (e.zx > z)) ∧ q.2.2.length ≤ q.1 ∧ ∃ a c, q.2.1 = .slice a q.2.2.length c) (fun q => es.length - q.1) (0, .slice none 0 0, []) (ts := [0, 1, 4, 5]) (.cons rfl (.cons rfl (.cons rfl (.cons rfl (.nil))))) (⟨Nat.zero_le _, rfl, Nat.le_refl _, none, 0, rfl⟩) ⟨rfl, rfl, rfl, rfl, rfl, rfl, trivial⟩ (by (repeat' constructor)) ?_
  rintro ⟨i, u, fs⟩ ⟨hi, hfs, hfl, au, cu, hu⟩
  dsimp only
  dsimp only at hi hfs hfl hu
  subst hu
  refine G.seq (G.seq (G.region (G.mv rfl rfl (G.mv rfl rfl (G.q (Quiet.nilp rfl) rfl (G.q (Quiet.fieldAddr rfl fo_129_3) rfl ?_))))))
  refine G.q (Quiet.ld rfl ag_22) rfl ?_
  refine G.q (Quiet.slen rfl Tryz.underlying22 rfl) rfl (G.q (Quiet.int rfl rfl rfl) rfl (G.nil (G.then_n ?_)))
  refine G.condD rfl (fun h20 => ?_) (fun h20 => ?_)
  ·have hi2 : i < es.length := by omega
   refine G.slShape (T := 38) (v := .slice a es.length c) (by (repeat' constructor)) (by omega) fun be c1 e m _ => ?_
   simp only [Value.slice.injEq, true_and] at e
   obtain ⟨rfl, rfl⟩ := e
   refine G.skip (G.then_n (G.seq (G.block (G.seq (G.region (G.mv rfl rfl (G.q (Quiet.nilp rfl) rfl (G.q (Quiet.fieldAddr rfl fo_129_3) rfl ?_))))))))
   refine G.q (Quiet.ld rfl ag_22) rfl ?_
   refine G.mv rfl rfl ?_
   refine G.q (Quiet.indexAddr rfl rfl el_22 (by omega)) rfl ?_
   refine G.q (Quiet.fieldAddr rfl fo_38_0) rfl ?_
   refine G.q (Quiet.loadRd (sz := 11) (j := i * 11 + 0) (p := es9 (.slice (some ⟨be, 0, none⟩) es.length c) es) (v := vint es[i].zx) rfl ag_3 (by (repeat' constructor)) (fun h hp => slR_rd hp) (by simp) ((en_cell (k := 0) hi2 (by decide)).trans rfl)) rfl ?_
   refine G.mv rfl rfl (G.q (Quiet.int rfl rfl rfl) rfl (G.nil (G.then_n ?_)))
   refine G.condD rfl (fun h32 => ?_) (fun h32 => ?_)
   ·refine G.region (G.mv rfl rfl (G.mv rfl rfl (G.q (Quiet.nilp rfl) rfl (G.q (Quiet.fieldAddr rfl fo_129_3) rfl ?_))))
    refine G.q (Quiet.ld rfl ag_22) rfl ?_
    refine G.mv rfl rfl ?_
    refine G.q (Quiet.indexAddr rfl rfl el_22 (by omega)) rfl ?_
    refine G.q (Quiet.loadRdA (sz := 11) (j := i * 11) (k := 11) (p := es9 (.slice (some ⟨be, 0, none⟩) es.length c) es) (vs := enC es[i]) rfl ag_38 (by (repeat' constructor)) (fun h hp => slR_rd hp) (by simp) (by omega) (by omega) (flatMap_at (f := enC) (sz := 11) (fun _ _ => rfl) hi2)) rfl ?_
    refine G.oq (OpSpec.buildSlice (vs := [_]) el_22 ze_38 rfl rfl rfl rfl (by first | (simp [Value.cells]; done) | (intro v hv; simp only [List.mem_cons, List.not_mem_nil, or_false] at hv; (repeat (first | (subst hv; rfl) | (rcases hv with hv | hv; (subst hv; rfl)))))) (by decide)) ?nx38
    rintro v L' ⟨b8, rfl, rfl⟩
    refine G.oq (OpSpec.append1 rfl rfl rfl el_22 ze_38 rfl rfl ?c40 ?c41 (Nat.le_refl _) ?c42 (by decide)) ?nx43
    case c40 => simp only [List.map_cons, List.map_nil, List.flatten_cons, List.flatten_nil, List.append_nil]; simp only [Value.cells]; intro q hq; exact (hk _ (List.getElem_mem hi2)).cells q (by simpa using hq)
    case c41 => rfl
    case c42 => omega
    rintro v L' ⟨⟨a8, c8, rfl⟩, rfl⟩
    refine G.ag rfl rfl (G.nil (G.blk_n (G.then_n (G.region (G.mv rfl rfl ?_)))))
    refine G.q (Quiet.add rfl rfl (by omega)) rfl ?_
    refine G.ag rfl rfl (G.nil (G.then_n ?_))
    refine G.slCast (T := 38) (sz := 11) (m' := (fs ++ [es[i]]).length) (xs' := (fs ++ [es[i]]).flatMap enC) (by (repeat' constructor)) (by simp) (by rw [List.flatMap_append]; simp [Value.cells]) ?_
    exact G.roundK ((i + 1, .slice a8 (fs.length + 1) c8, fs ++ [es[i]])) (⟨by dsimp only; omega, by dsimp only; rw [filter_go hi2, ← hfs, if_pos (by simpa using h32)], by dsimp only; rw [List.length_append, List.length_singleton]; omega, a8, c8, by simp⟩) (by dsimp only; omega) ⟨rfl, rfl, rfl, rfl, rfl, rfl, trivial⟩ (by (repeat' constructor)) (by ((repeat (apply Have.cons; (repeat (first | exact Pick.here | apply Pick.there)))); apply Have.base; repeat' constructor))
   ·refine G.skip (G.blk_n (G.then_n (G.region (G.mv rfl rfl ?_))))
    refine G.q (Quiet.add rfl rfl (by omega)) rfl ?_
    refine G.ag rfl rfl (G.nil (G.then_n ?_))
    exact G.roundK ((i + 1, .slice au fs.length cu, fs)) (⟨by dsimp only; omega, by dsimp only; rw [filter_go hi2, ← hfs, if_neg (by simpa using h32), List.append_nil], by dsimp only; omega, au, cu, rfl⟩) (by dsimp only; omega) ⟨rfl, rfl, rfl, rfl, rfl, rfl, trivial⟩ (by (repeat' constructor)) (by ((repeat (apply Have.cons; (repeat (first | exact Pick.here | apply Pick.there)))); apply Have.base; repeat' constructor))
  ·have hie : i = es.length := by omega
   rw [hie, List.take_length] at hfs
   subst hfs
   refine G.exit (G.then_e (G.then_e (G.blk_e (G.then_n (G.seq (G.region (G.mv rfl rfl (G.ag rfl rfl (G.ag rfl rfl (G.nil (G.then_n (G.ret ?_))))))))))))
   exact G.dn (l := [.tmp 4, .tmp 5]) rfl rfl (.inr ⟨h13, au, cu, rfl, rfl⟩)

theorem r9marks_spec (y w : Nat) (Λ : Lg) (a : Option Addr) (c : Nat) (es : List En) (hE : EsOf es Λ) (hW : LgW Λ) : Fn Tryz.prog 129 #[vptr y] [gc9 y w Λ.base Λ.snap (.slice a es.length c) Λ.acc Λ.cur Λ.doubt, es9 (.slice a es.length c) es] fun v L => ∃ a2 c2, v = .slice a2 (marksZ Λ).length c2 ∧ L = [gc9 y w Λ.base Λ.snap (.slice a es.length c) Λ.acc Λ.cur Λ.doubt, es9 (.slice a es.length c) es, intR (.slice a2 (marksZ Λ).length c2) (marksZ Λ)] := by
 refine Fn.intro (vs := [vptr y]) Tryz.func129 rfl rfl ?_
 intro F W
 have hn := hE.n
 have hW0 := wantW_0 hW
 refine G.seq (G.region (G.ag rfl rfl (G.nil (G.then_n (G.seq (G.region (G.mv rfl rfl (G.q (Quiet.nilp rfl) rfl (G.q (Quiet.fieldAddr rfl fo_129_1) rfl ?_)))))))))
 refine G.q (Quiet.ld rfl ag_3) rfl ?_
 refine G.oq (OpSpec.buildSlice1 (vs := [_]) el_31 ze_3 rfl rfl rfl rfl rfl (by decide)) ?nx6
 rintro v L' ⟨b3, rfl, rfl⟩
 refine G.ag rfl rfl (G.nil ?_)
 refine G.slMake (b := b3) (n := 1) (c := 1) (xs := ints [Λ.base]) (by (repeat' constructor)) (by decide) (by simp) rfl ?_
 refine G.then_n (G.seq (G.seq (G.region (G.ag rfl rfl (G.nil (G.then_n (G.block ?_)))))))
 refine G.loopK (ι := Nat × Value) (fun q E => (4, vint q.1) :: (3, q.2) :: E) (fun q => [gc9 y w Λ.base Λ.snap (.slice a es.length c) Λ.acc Λ.cur Λ.doubt, es9 (.slice a es.length c) es, slR 3 1 q.2 (q.1 + 1) (ints (Λ.base :: (es.take q.1).map (·.zx)))]) (fun q => q.1 ≤ es.length ∧ ∃ b c, q.2 = .slice (some ⟨b, 0, none⟩) (q.1 + 1) c) (fun q => es.length - q.1) (0, .slice (some ⟨b3, 0, none⟩) 1 1) (ts := [0, 2]) (.cons rfl (.cons rfl (.nil))) (⟨Nat.zero_le _, b3, 1, rfl⟩) ⟨rfl, rfl, rfl, rfl, trivial⟩ (by (repeat' constructor)) ?_
 rintro ⟨i, u⟩ ⟨hi, bu, cu, hu⟩
 dsimp only
 dsimp only at hi hu
 subst hu
 refine G.seq (G.seq (G.region (G.mv rfl rfl (G.mv rfl rfl (G.q (Quiet.nilp rfl) rfl (G.q (Quiet.fieldAddr rfl fo_129_3) rfl ?_))))))
 refine G.q (Quiet.ld rfl ag_22) rfl ?_
 refine G.q (Quiet.slen rfl Tryz.underlying22 rfl) rfl (G.q (Quiet.int rfl rfl rfl) rfl (G.nil (G.then_n ?_)))
 refine G.condD rfl (fun h19 => ?_) (fun h19 => ?_)
 ·have hi2 : i < es.length := by omega
  refine G.slShape (T := 38) (v := .slice a es.length c) (by (repeat' constructor)) (by omega) fun be c1 e m _ => ?_
  simp only [Value.slice.injEq, true_and] at e
  obtain ⟨rfl, rfl⟩ := e
  refine G.skip (G.then_n (G.seq (G.block (G.region (G.mv rfl rfl (G.mv rfl rfl (G.q (Quiet.nilp rfl) rfl (G.q (Quiet.fieldAddr rfl fo_129_3) rfl ?_))))))))
  refine G.q (Quiet.ld rfl ag_22) rfl ?_
  refine G.mv rfl rfl ?_
  refine G.q (Quiet.indexAddr rfl rfl el_22 (by omega)) rfl ?_
  refine G.q (Quiet.fieldAddr rfl fo_38_0) rfl ?_
  refine G.q (Quiet.loadRd (sz := 11) (j := i * 11 + 0) (p := es9 (.slice (some ⟨be, 0, none⟩) es.length c) es) (v := vint es[i].zx) rfl ag_3 (by (repeat' constructor)) (fun h hp => slR_rd hp) (by simp) ((en_cell (k := 0) hi2 (by decide)).trans rfl)) rfl ?_
  refine G.oq (OpSpec.buildSlice1 (vs := [_]) el_31 ze_3 rfl rfl rfl rfl rfl (by decide)) ?nx25
  rintro v L' ⟨b5, rfl, rfl⟩
  refine G.oq (OpSpec.shaped1 (k := i + 1 + 1) ?hk27 (OpSpec.append1 rfl rfl rfl el_31 ze_3 rfl rfl ?h128 ?h229 (Nat.le_refl _) ?h330 (by decide))) ?nx31
  case hk27 => omega
  case h128 => (first | (simp [isCell]; done) | (simp [isCell, setAll, Value.cells]; done))
  case h229 => rfl
  case h330 => omega
  rintro v L' ⟨b7, c7, rfl, rfl⟩
  refine G.ag rfl rfl (G.nil (G.blk_n (G.then_n (G.region (G.mv rfl rfl ?_)))))
  refine G.q (Quiet.add rfl rfl (by omega)) rfl ?_
  refine G.ag rfl rfl (G.nil (G.then_n ?_))
  refine G.slCast (T := 3) (sz := 1) (m' := i + 1 + 1) (xs' := ints (Λ.base :: (es.take (i + 1)).map (·.zx))) (by (repeat' constructor)) rfl (by rw [zx_take hi2]; simp [ints, Value.cells]) ?_
  exact G.roundK ((i + 1, .slice (some ⟨b7, 0, none⟩) (i + 1 + 1) c7)) (⟨by dsimp only; omega, b7, c7, rfl⟩) (by dsimp only; omega) ⟨rfl, rfl, rfl, rfl, trivial⟩ (by (repeat' constructor)) (by ((repeat (apply Have.cons; (repeat (first | exact Pick.here | apply Pick.there)))); apply Have.base; repeat' constructor))
 ·have hie : i = es.length := by omega
  obtain ⟨all, hall⟩ : ∃ all, Λ.base :: Λ.zxs = all := ⟨_, rfl⟩
  have hal : all.length = i + 1 := by rw [← hall, List.length_cons, ← hE.z, List.length_map]; omega
  refine G.slCast (T := 3) (sz := 1) (m' := all.length) (xs' := ints all) (by (repeat' constructor)) (by rw [hal]) (by rw [hie, List.take_length, ← hall, hE.z]) ?_
  rw [← hal]
  obtain ⟨b3, c3, hb3⟩ : ∃ b c, (bu, cu) = (b, c) := ⟨_, _, rfl⟩
  obtain ⟨rfl, rfl⟩ := Prod.mk.injEq .. ▸ hb3
  refine G.exit (G.then_e (G.then_e (G.blk_e (G.then_n (G.seq (G.region (G.ag rfl rfl (G.nil (G.then_n (G.seq (G.seq (G.add (slR_nil 3 1) (G.region (G.ag rfl rfl (G.nil (G.then_n (G.block ?_)))))))))))))))))
  refine G.loopK (ι := Nat × Value × (List Int)) (fun q E => (6, vint q.1) :: (5, q.2.1) :: E) (fun q => [gc9 y w Λ.base Λ.snap (.slice a es.length c) Λ.acc Λ.cur Λ.doubt, es9 (.slice a es.length c) es, intR (.slice (some ⟨bu, 0, none⟩) all.length cu) all, intR q.2.1 q.2.2]) (fun q => q.1 ≤ all.length ∧ q.2.2 ++ wantW Λ q.1 = marksZ Λ ∧ q.2.2.length ≤ q.1 ∧ ∃ a c, q.2.1 = .slice a q.2.2.length c) (fun q => all.length - q.1) (0, .slice none 0 0, []) (ts := [2, 3]) (.cons rfl (.cons rfl (.nil))) (⟨Nat.zero_le _, hW0, Nat.zero_le _, none, 0, rfl⟩) ⟨rfl, rfl, rfl, rfl, trivial⟩ (by (repeat' constructor)) ?_
  rintro ⟨j, u, out⟩ ⟨hj, hout, hol, ao, co, hu⟩
  dsimp only
  dsimp only at hj hout hol hu
  subst hu
  refine G.seq (G.seq (G.region (G.mv rfl rfl (G.mv rfl rfl (G.q (Quiet.slen rfl Tryz.underlying31 rfl) rfl (G.q (Quiet.int rfl rfl rfl) rfl (G.nil (G.then_n ?_))))))))
  refine G.condD rfl (fun h36 => ?_) (fun h36 => ?_)
  ·have hj2 : j < all.length := by omega
   have hgo := wantW_go hW (i := j) (by rw [hall]; exact hj2)
   rw [hall] at hgo
   refine G.skip (G.then_n (G.seq (G.block (G.seq ?_))))
   refine G.draw [] [[0, 1, 2, 3, 4, 5, 6, 7, 8, 9, 10, 11, 12, 13, 14, 15, 16, 17, 18, 19]] mixed (by kernel_rfl) ?_
   refine Phases.go [] (by (repeat' constructor)) ?_
   refine D.kw [1, 4, 5, 6, 7, 8, 9, 10, 11, 12, 13, 14, 15, 16, 17, 18, 19] rfl (Quiet.move rfl) ?_
   refine D.kw [4, 5, 6, 7, 8, 9, 10, 11, 12, 13, 14, 15, 16, 17, 18, 19] rfl (Quiet.add rfl rfl (by omega)) ?_
   refine D.kw [3, 4, 5, 6, 7, 8, 9, 10, 11, 12, 13, 14, 15, 16, 17, 18, 19] rfl (Quiet.move rfl) ?_
   refine D.kw [4, 5, 6, 7, 8, 9, 10, 11, 12, 13, 14, 15, 16, 17, 18, 19] rfl (Quiet.slen rfl Tryz.underlying31 rfl) ?_
   refine D.kw [5, 6, 7, 8, 9, 10, 11, 12, 13, 14, 15, 16, 17, 18, 19] rfl (Quiet.int rfl rfl rfl) ?_
   refine D.kw [6, 7, 8, 9, 10, 11, 12, 13, 14, 15, 16, 17, 18, 19] rfl (Quiet.move rfl) ?_
   refine D.dec (t := 44) rfl (fun h10_44 => ?_) (fun h10_44 => ?_)
   ·refine D.kDT (t := 43) rfl h10_44 ?_
    refine D.gs (t := 44) rfl rfl rfl rfl (by kernel_rfl) ?_
    refine D.gs (t := 44) rfl rfl rfl rfl (by kernel_rfl) ?_
    refine D.gs (t := 44) rfl rfl rfl rfl (by kernel_rfl) ?_
    refine D.gs (t := 44) rfl rfl rfl rfl (by kernel_rfl) ?_
    refine D.gs (t := 44) rfl rfl rfl rfl (by kernel_rfl) ?_
    refine D.gs (t := 44) rfl rfl rfl rfl (by kernel_rfl) ?_
    refine D.gs (t := 44) rfl rfl rfl rfl (by kernel_rfl) ?_
    refine D.gs (t := 44) rfl rfl rfl rfl (by kernel_rfl) ?_
    refine D.gs (t := 44) rfl rfl rfl rfl (by kernel_rfl) ?_
    refine D.gs (t := 44) rfl rfl rfl rfl (by kernel_rfl) ?_
    refine D.gs (t := 44) rfl rfl rfl rfl (by kernel_rfl) ?_
    refine D.gs (t := 44) rfl rfl rfl rfl (by kernel_rfl) ?_
    refine D.kw [19] rfl (Quiet.pickT rfl rfl) ?_
    refine D.kw [] rfl (Quiet.assign rfl) ?_
    refine D.ph (Phases.fin (G.then_n (G.seq (G.region (G.mv rfl rfl (G.mv rfl rfl ?_))))))
    refine G.q (Quiet.indexAddr rfl rfl el_31 (by omega)) rfl ?_
    refine G.q (Quiet.loadEl (p := intR (.slice (some ⟨bu, 0, none⟩) all.length cu) all) (i := j * 1) (v := vint (all.getD (j) 0)) rfl ag_3 (by (repeat' constructor)) (fun h hp => slR_rd hp) (by have hil : j < all.length := (by omega); rw [Nat.mul_one]; simp [ints, List.getD_eq_getElem?_getD, hil])) rfl ?_
    refine G.q (Quiet.int rfl rfl rfl) rfl (G.mv rfl rfl ?_)
    refine G.dec (t := 63) rfl (fun h11_63 => ?_) (fun h11_63 => ?_)
    ·refine G.kDT (t := 62) rfl h11_63 (G.grun (t := 63) rfl rfl rfl (G.mv rfl rfl (G.q (Quiet.pickT rfl rfl) rfl (G.nil (G.then_n (G.condT rfl (G.region (G.mv rfl rfl (G.mv rfl rfl (G.mv rfl rfl ?_))))))))))
     refine G.q (Quiet.indexAddr rfl rfl el_31 (by omega)) rfl ?_
     refine G.q (Quiet.loadEl (p := intR (.slice (some ⟨bu, 0, none⟩) all.length cu) all) (i := j * 1) (v := vint (all.getD (j) 0)) rfl ag_3 (by (repeat' constructor)) (fun h hp => slR_rd hp) (by have hil : j < all.length := (by omega); rw [Nat.mul_one]; simp [ints, List.getD_eq_getElem?_getD, hil])) rfl ?_
     refine G.oq (OpSpec.buildSlice1 (vs := [_]) el_31 ze_3 rfl rfl rfl rfl rfl (by decide)) ?nx57
     rintro v L' ⟨b12, rfl, rfl⟩
     refine G.oq (OpSpec.append1 rfl rfl rfl el_31 ze_3 rfl rfl ?c59 ?c60 (Nat.le_refl _) ?c61 (by decide)) ?nx62
     case c59 => (first | (simp [isCell]; done) | (simp [isCell, setAll, Value.cells]; done))
     case c60 => rfl
     case c61 => omega
     rintro v L' ⟨⟨a12, c12, rfl⟩, rfl⟩
     refine G.ag rfl rfl (G.nil (G.blk_n (G.then_n (G.region (G.mv rfl rfl ?_)))))
     refine G.q (Quiet.add rfl rfl (by omega)) rfl ?_
     refine G.ag rfl rfl (G.nil (G.then_n ?_))
     refine G.slCast (T := 3) (sz := 1) (m' := (out ++ [all.getD j 0]).length) (xs' := ints (out ++ [all.getD j 0])) (by (repeat' constructor)) (by simp) (by simp [ints, Value.cells]) ?_
     exact G.roundK ((j + 1, .slice a12 (out.length + 1) c12, out ++ [all.getD j 0])) (⟨by dsimp only; omega, by dsimp only; rw [hgo, if_pos ⟨h11_63, (.inl (by omega))⟩, ← List.append_assoc] at hout; exact hout, by dsimp only; rw [List.length_append, List.length_singleton]; omega, a12, c12, by simp⟩) (by dsimp only; omega) ⟨rfl, rfl, rfl, rfl, trivial⟩ (by (repeat' constructor)) (by ((repeat (apply Have.cons; (repeat (first | exact Pick.here | apply Pick.there)))); apply Have.base; repeat' constructor))
    ·refine G.kDF (t := 62) rfl h11_63 (G.gskip (t := 63) rfl rfl rfl rfl (G.q (Quiet.pickF rfl rfl) rfl (G.nil (G.then_n (G.condF rfl (G.skip (G.blk_n (G.then_n (G.region (G.mv rfl rfl ?_))))))))))
     refine G.q (Quiet.add rfl rfl (by omega)) rfl ?_
     refine G.ag rfl rfl (G.nil (G.then_n ?_))
     exact G.roundK ((j + 1, .slice ao out.length co, out)) (⟨by dsimp only; omega, by dsimp only; rw [hgo, if_neg (by exact fun g => h11_63 g.1), List.nil_append] at hout; exact hout, by dsimp only; omega, ao, co, rfl⟩) (by dsimp only; omega) ⟨rfl, rfl, rfl, rfl, trivial⟩ (by (repeat' constructor)) (by ((repeat (apply Have.cons; (repeat (first | exact Pick.here | apply Pick.there)))); apply Have.base; repeat' constructor))
   ·refine D.kDF (t := 43) rfl h10_44 ?_
    refine D.gqw [9, 10, 11, 17, 18, 19] (t := 44) rfl rfl rfl (by kernel_rfl) (Quiet.move rfl) ?_
    refine D.gqw [8, 9, 10, 11, 17, 18, 19] (t := 44) rfl rfl rfl (by kernel_rfl) (Quiet.move rfl) ?_
    refine D.gqw [9, 10, 11, 17, 18, 19] (t := 44) rfl rfl rfl (by kernel_rfl) (Quiet.as (v' := vint ((j + 1 : Nat) : Int)) (by congr 1) (Quiet.add rfl rfl (by omega))) ?_
    refine D.gqw [10, 11, 17, 18, 19] (t := 44) rfl rfl rfl (by kernel_rfl) (Quiet.indexAddr rfl rfl el_31 (by omega)) ?_
    refine D.gqw [11, 17, 18, 19] (t := 44) rfl rfl rfl (by kernel_rfl) (Quiet.loadEl (p := intR (.slice (some ⟨bu, 0, none⟩) all.length cu) all) (i := (j + 1) * 1) (v := vint (all.getD ((j + 1)) 0)) rfl ag_3 (by (repeat' constructor)) (fun h hp => slR_rd hp) (by have hil : (j + 1) < all.length := (by omega); rw [Nat.mul_one]; simp [ints, List.getD_eq_getElem?_getD, hil])) ?_
    refine D.gqw [17, 18, 19] (t := 44) rfl rfl rfl (by kernel_rfl) (Quiet.as (v' := vint (all.getD (j + 1) 0 / 4294967296)) (by exact shr32 _) (Quiet.shr rfl rfl (by first | decide | omega))) ?_
    refine D.gqw [14, 15, 16, 17, 18, 19] (t := 44) rfl rfl rfl (by kernel_rfl) (Quiet.move rfl) ?_
    refine D.gqw [14, 15, 16, 17, 18, 19] (t := 44) rfl rfl rfl (by kernel_rfl) (Quiet.move rfl) ?_
    refine D.gqw [15, 16, 17, 18, 19] (t := 44) rfl rfl rfl (by kernel_rfl) (Quiet.indexAddr rfl rfl el_31 (by omega)) ?_
    refine D.gqw [16, 17, 18, 19] (t := 44) rfl rfl rfl (by kernel_rfl) (Quiet.loadEl (p := intR (.slice (some ⟨bu, 0, none⟩) all.length cu) all) (i := j * 1) (v := vint (all.getD (j) 0)) rfl ag_3 (by (repeat' constructor)) (fun h hp => slR_rd hp) (by have hil : j < all.length := (by omega); rw [Nat.mul_one]; simp [ints, List.getD_eq_getElem?_getD, hil])) ?_
    refine D.gqw [17, 18, 19] (t := 44) rfl rfl rfl (by kernel_rfl) (Quiet.as (v' := vint (all.getD j 0 / 4294967296)) (by exact shr32 _) (Quiet.shr rfl rfl (by first | decide | omega))) ?_
    refine D.gqw [18, 19] (t := 44) rfl rfl rfl (by kernel_rfl) (Quiet.int rfl rfl rfl) ?_
    refine D.kw [19] rfl (Quiet.pickF rfl rfl) ?_
    refine D.kw [] rfl (Quiet.assign rfl) ?_
    refine D.ph (Phases.fin (G.then_n (G.seq (G.region (G.mv rfl rfl (G.mv rfl rfl ?_))))))
    refine G.q (Quiet.indexAddr rfl rfl el_31 (by omega)) rfl ?_
    refine G.q (Quiet.loadEl (p := intR (.slice (some ⟨bu, 0, none⟩) all.length cu) all) (i := j * 1) (v := vint (all.getD (j) 0)) rfl ag_3 (by (repeat' constructor)) (fun h hp => slR_rd hp) (by have hil : j < all.length := (by omega); rw [Nat.mul_one]; simp [ints, List.getD_eq_getElem?_getD, hil])) rfl ?_
    refine G.q (Quiet.int rfl rfl rfl) rfl (G.mv rfl rfl ?_)
    refine G.dec (t := 63) rfl (fun h11_63 => ?_) (fun h11_63 => ?_)
    ·refine G.kDT (t := 62) rfl h11_63 (G.grun (t := 63) rfl rfl rfl (G.mv rfl rfl (G.q (Quiet.pickT rfl rfl) rfl (G.nil (G.then_n ?_)))))
     refine G.condN rfl (fun h65 => ?_) (fun h65 => ?_)
     ·refine G.region (G.mv rfl rfl (G.mv rfl rfl (G.mv rfl rfl ?_)))
      refine G.q (Quiet.indexAddr rfl rfl el_31 (by omega)) rfl ?_
      refine G.q (Quiet.loadEl (p := intR (.slice (some ⟨bu, 0, none⟩) all.length cu) all) (i := j * 1) (v := vint (all.getD (j) 0)) rfl ag_3 (by (repeat' constructor)) (fun h hp => slR_rd hp) (by have hil : j < all.length := (by omega); rw [Nat.mul_one]; simp [ints, List.getD_eq_getElem?_getD, hil])) rfl ?_
      refine G.oq (OpSpec.buildSlice1 (vs := [_]) el_31 ze_3 rfl rfl rfl rfl rfl (by decide)) ?nx91
      rintro v L' ⟨b12, rfl, rfl⟩
      refine G.oq (OpSpec.append1 rfl rfl rfl el_31 ze_3 rfl rfl ?c93 ?c94 (Nat.le_refl _) ?c95 (by decide)) ?nx96
      case c93 => (first | (simp [isCell]; done) | (simp [isCell, setAll, Value.cells]; done))
      case c94 => rfl
      case c95 => omega
      rintro v L' ⟨⟨a12, c12, rfl⟩, rfl⟩
      refine G.ag rfl rfl (G.nil (G.blk_n (G.then_n (G.region (G.mv rfl rfl ?_)))))
      refine G.q (Quiet.add rfl rfl (by omega)) rfl ?_
      refine G.ag rfl rfl (G.nil (G.then_n ?_))
      refine G.slCast (T := 3) (sz := 1) (m' := (out ++ [all.getD j 0]).length) (xs' := ints (out ++ [all.getD j 0])) (by (repeat' constructor)) (by simp) (by simp [ints, Value.cells]) ?_
      exact G.roundK ((j + 1, .slice a12 (out.length + 1) c12, out ++ [all.getD j 0])) (⟨by dsimp only; omega, by dsimp only; rw [hgo, if_pos ⟨h11_63, (.inr (by first | exact h65 | simpa using h65))⟩, ← List.append_assoc] at hout; exact hout, by dsimp only; rw [List.length_append, List.length_singleton]; omega, a12, c12, by simp⟩) (by dsimp only; omega) ⟨rfl, rfl, rfl, rfl, trivial⟩ (by (repeat' constructor)) (by ((repeat (apply Have.cons; (repeat (first | exact Pick.here | apply Pick.there)))); apply Have.base; repeat' constructor))
     ·refine G.skip (G.blk_n (G.then_n (G.region (G.mv rfl rfl ?_))))
      refine G.q (Quiet.add rfl rfl (by omega)) rfl ?_
      refine G.ag rfl rfl (G.nil (G.then_n ?_))
      exact G.roundK ((j + 1, .slice ao out.length co, out)) (⟨by dsimp only; omega, by dsimp only; rw [hgo, if_neg (by rintro ⟨-, g | g⟩; exact h10_44 (by omega); exact g (by simpa using h65)), List.nil_append] at hout; exact hout, by dsimp only; omega, ao, co, rfl⟩) (by dsimp only; omega) ⟨rfl, rfl, rfl, rfl, trivial⟩ (by (repeat' constructor)) (by ((repeat (apply Have.cons; (repeat (first | exact Pick.here | apply Pick.there)))); apply Have.base; repeat' constructor))
    ·refine G.kDF (t := 62) rfl h11_63 (G.gskip (t := 63) rfl rfl rfl rfl (G.q (Quiet.pickF rfl rfl) rfl (G.nil (G.then_n (G.condF rfl (G.skip (G.blk_n (G.then_n (G.region (G.mv rfl rfl ?_))))))))))
     refine G.q (Quiet.add rfl rfl (by omega)) rfl ?_
     refine G.ag rfl rfl (G.nil (G.then_n ?_))
     exact G.roundK ((j + 1, .slice ao out.length co, out)) (⟨by dsimp only; omega, by dsimp only; rw [hgo, if_neg (by exact fun g => h11_63 g.1), List.nil_append] at hout; exact hout, by dsimp only; omega, ao, co, rfl⟩) (by dsimp only; omega) ⟨rfl, rfl, rfl, rfl, trivial⟩ (by (repeat' constructor)) (by ((repeat (apply Have.cons; (repeat (first | exact Pick.here | apply Pick.there)))); apply Have.base; repeat' constructor))
  ·have hje : j = all.length := by omega
   have hend := wantW_end (Λ := Λ) (i := j) (by rw [hall]; omega)
   rw [hend, List.append_nil] at hout
   subst hout
   refine G.exit (G.then_e (G.then_e (G.blk_e (G.then_n (G.seq (G.region (G.mv rfl rfl (G.ag rfl rfl (G.nil (G.then_n (G.ret ?_)))))))))))
   exact G.dn (l := [.tmp 2]) rfl rfl ⟨ao, co, rfl, rfl⟩

end Go.Proofs.YtidjhgbdokcphaaGreat

/- Own work, by program: OverEntry: walked. -/

namespace Go.Proofs.YtidjhgbdokcphaaGreat
open Go
section
variable {W : World} {n : Nat} {ds : List Deferred} {E : Env} {L R : List HP} {X : Act → World → Prop}
theorem G.bigHead {α : Type} {f : α → HP} {x : α} {l m : List α} (hm : m = x :: l) (hL : Pick (bigR f m) L R) (h : G W n ds E (f x :: bigR f l :: R) X) : G W n ds E L X := by
  subst hm
  exact G.focus hL (G.unfold (q := [f x, bigR f l]) (fun _ hp => big_cons hp) h)
end
theorem drop_cell {zs l : List Value} {o k n : Nat} (h : (zs.drop o).take n = l) (hk : k < n) : zs[o + k]? = l[k]? := by
  rw [← h, List.getElem?_take_of_lt hk, List.getElem?_drop]
theorem spl_drop' {l vs : List Value} {off k : Nat} (hl : off + vs.length ≤ l.length) (h : off + vs.length ≤ k) : (spl l off vs).drop k = l.drop k := by
  unfold spl
  have h1 : (l.take off ++ vs).length = off + vs.length := by simp; omega
  rw [List.drop_append, h1, List.drop_eq_nil_of_le (by omega), List.nil_append, List.drop_drop]
  congr 1
  omega
theorem over9_spec (e : En) (hg : EnG e) : Fn Tryz.prog 132 #[.agg (enC e).toArray] [entR e] fun v L => v = .tuple #[] ∧ L = [] := by
 obtain ⟨zx, ses, xid, ⟨kind, path, data, aclV, acl, own, num, err, subsV⟩, subs⟩ := e
 refine Fn.intro (vs := [.agg (enC (⟨zx, ses, xid, ⟨kind, path, data, aclV, acl, own, num, err, subsV⟩, subs⟩ : En)).toArray]) Tryz.func132 rfl rfl ?_
 intro F W
 have hgs := hg.many
 have hga := hg.x.many
 have hgx := hg.subs
 dsimp only at hgs hga hgx
 refine G.focus (p := entR (⟨zx, ses, xid, ⟨kind, path, data, aclV, acl, own, num, err, subsV⟩, subs⟩ : En)) (by (repeat' constructor)) (G.unfold (q := [slR 210 2 aclV acl.length (acl.flatMap acC), slR 36 8 subsV subs.length (subs.flatMap ptC), bigR aclR subs]) (fun _ hp => hp) ?_)
 simp only [List.cons_append, List.nil_append]
 refine G.slAny (v := aclV) (by (repeat' constructor)) fun aa ca e1 hal => ?_
 subst e1
 refine G.slAny (v := subsV) (by (repeat' constructor)) fun as1 cs1 e1 hsl => ?_
 subst e1
 refine G.seq (G.region ?_)
 refine G.oq (OpSpec.box rfl) ?nx1
 rintro v L' ⟨b1, rfl, rfl⟩
 refine G.nil ?_
 refine G.ptCast (b := b1) (l' := [vint zx, vint ses, vint xid, vint kind, vstr path, vstr data, .slice aa acl.length ca, vint own, vint num, vint err, .slice as1 subs.length cs1]) (by (repeat' constructor)) (by exact rfl) ?_
 refine G.then_n (G.seq (G.seq (G.region (G.ag rfl rfl (G.nil (G.then_n (G.block ?_)))))))
 rw [show bigR aclR subs = bigR aclR (subs.drop 0) from rfl]
 refine G.loopK (ι := Nat × (List Value)) (fun q E => (2, vint q.1) :: E) (fun q => [slR 36 8 (.slice as1 subs.length cs1) subs.length q.2, bigR aclR (subs.drop q.1)]) (fun q => q.1 ≤ subs.length ∧ q.2.length = subs.length * 8 ∧ ∀ k (hk : k < subs.length), q.1 ≤ k → ((q.2.drop (k * 8)).take 8) = ptC subs[k]) (fun q => subs.length - q.1) (0, subs.flatMap ptC) (ts := [1]) (.cons rfl (.nil)) (⟨Nat.zero_le _, hsl, fun k hk _ => flatMap_at (f := ptC) (sz := 8) (fun _ _ => rfl) hk⟩) ⟨rfl, rfl, trivial⟩ (by (repeat' constructor)) ?_
 rintro ⟨i, zs⟩ ⟨hi, hzl, hzk⟩
 dsimp only
 dsimp only at hi hzl hzk
 refine G.seq (G.seq (G.region (G.mv rfl rfl (G.q (Quiet.fieldAddr rfl fo_38_3) rfl (G.q (Quiet.fieldAddr rfl fo_36_7) rfl ?_)))))
 refine G.q (Quiet.ld rfl ag_34) rfl ?_
 refine G.q (Quiet.slen rfl Tryz.underlying34 rfl) rfl (G.q (Quiet.int rfl rfl rfl) rfl (G.nil (G.then_n ?_)))
 refine G.condD rfl (fun h13 => ?_) (fun h13 => ?_)
 ·have hi2 : i < subs.length := by omega
  have hyk := (hgx _ (List.getElem_mem hi2)).many
  refine G.slShape (T := 36) (sz := 8) (v := .slice as1 subs.length cs1) (xs := zs) (by (repeat' constructor)) (by omega) fun bo bo' e0 mbo _ => ?_
  simp only [Value.slice.injEq, true_and] at e0
  obtain ⟨rfl, rfl⟩ := e0
  refine G.bigHead (f := aclR) (x := subs[i]) (l := subs.drop (i + 1)) (List.drop_eq_getElem_cons hi2) (by (repeat' constructor)) ?_
  rw [show aclR subs[i] = slR 210 2 subs[i].aclV subs[i].acl.length (subs[i].acl.flatMap acC) from rfl]
  obtain ⟨va, hva⟩ : ∃ va, subs[i].aclV = va := ⟨_, rfl⟩
  rw [hva]
  refine G.slAny (v := va) (by (repeat' constructor)) fun ay cy e1 hyl => ?_
  subst e1
  refine G.skip (G.then_n (G.seq (G.block (G.seq (G.region (G.q (Quiet.fieldAddr rfl fo_38_3) rfl (G.q (Quiet.fieldAddr rfl fo_36_7) rfl ?_)))))))
  refine G.q (Quiet.ld rfl ag_34) rfl ?_
  refine G.mv rfl rfl ?_
  refine G.q (Quiet.indexAddr rfl rfl el_34 (by omega)) rfl ?_
  refine G.q (Quiet.fieldAddr rfl fo_36_3) rfl ?_
  refine G.q (Quiet.to (v' := .slice ay subs[i].acl.length cy) (Quiet.loadRd (sz := 8) (j := i * 8 + 3) (p := slR 36 8 (.slice (some ⟨bo, 0, none⟩) subs.length cs1) subs.length zs) (v := subs[i].aclV) rfl ag_33 (by (repeat' constructor)) (fun h hp => slR_rd hp) (by omega) ((drop_cell (hzk i hi2 (Nat.le_refl _)) (by decide)).trans rfl)) hva) rfl ?_
  refine G.ag rfl rfl (G.nil (G.then_n (G.seq (G.seq (G.region (G.ag rfl rfl (G.nil (G.then_n (G.block ?_)))))))))
  refine G.loopK (ι := Nat × (List Value)) (fun q E => (4, vint q.1) :: E) (fun q => [slR 210 2 (.slice ay subs[i].acl.length cy) subs[i].acl.length q.2]) (fun q => q.1 ≤ subs[i].acl.length ∧ q.2.length = subs[i].acl.length * 2) (fun q => subs[i].acl.length - q.1) (0, subs[i].acl.flatMap acC) (ts := [1, 2, 3, 8, 9, 10, 11, 12, 13, 16, 17, 18, 19, 20, 21, 22]) (.cons rfl (.cons rfl (.cons rfl (.cons rfl (.cons rfl (.cons rfl (.cons rfl (.cons rfl (.cons rfl (.cons rfl (.cons rfl (.cons rfl (.cons rfl (.cons rfl (.cons rfl (.cons rfl (.nil))))))))))))))))) (⟨Nat.zero_le _, hyl⟩) ⟨rfl, rfl, rfl, rfl, rfl, rfl, rfl, rfl, rfl, rfl, rfl, rfl, rfl, rfl, rfl, rfl, rfl, trivial⟩ (by (repeat' constructor)) ?_
  rintro ⟨k, ws⟩ ⟨hkk, hwl⟩
  dsimp only
  dsimp only at hkk hwl
  refine G.seq (G.seq (G.region (G.mv rfl rfl (G.mv rfl rfl (G.q (Quiet.slen rfl Tryz.underlying33 rfl) rfl (G.q (Quiet.int rfl rfl rfl) rfl (G.nil (G.then_n ?_))))))))
  refine G.condD rfl (fun h26 => ?_) (fun h26 => ?_)
  ·have hk2 : k < subs[i].acl.length := by omega
   refine G.slShape (T := 210) (sz := 2) (v := .slice ay subs[i].acl.length cy) (xs := ws) (by (repeat' constructor)) (by omega) fun bq bq' e0 mbq _ => ?_
   simp only [Value.slice.injEq, true_and] at e0
   obtain ⟨rfl, rfl⟩ := e0
   refine G.skip (G.then_n (G.seq (G.block (G.region (G.mv rfl rfl (G.mv rfl rfl ?_))))))
   refine G.q (Quiet.to (v' := .agg [vint (-3), vstr []].toArray) (Quiet.build (us := [(0, _)]) fl_210 ze_210 rfl rfl (by simp [isCell])) rfl) rfl ?_
   refine G.q (Quiet.indexAddr rfl rfl el_33 (by omega)) rfl ?_
   refine G.oq (OpSpec.storeRdA (sz := 2) (j := k * 2) (k := 2) (vs := [vint (-3), vstr []]) rfl rfl (by simp [isCell]) sz_210 rfl ?ho26 ?hi27) ?nx28
   case ho26 => omega
   case hi27 => omega
   rintro v L' rfl
   refine G.nil (G.blk_n (G.then_n (G.region (G.mv rfl rfl ?_))))
   refine G.q (Quiet.add rfl rfl (by omega)) rfl ?_
   refine G.ag rfl rfl (G.nil (G.then_n ?_))
   exact G.roundK ((k + 1, spl ws (k * 2) [vint (-3), vstr []])) (⟨by dsimp only; omega, by dsimp only; rw [spl_length (by simp; omega)]; exact hwl⟩) (by dsimp only; omega) ⟨rfl, rfl, rfl, rfl, rfl, rfl, rfl, rfl, rfl, rfl, rfl, rfl, rfl, rfl, rfl, rfl, rfl, trivial⟩ (by (repeat' constructor)) (by ((repeat (apply Have.cons; (repeat (first | exact Pick.here | apply Pick.there)))); apply Have.base; repeat' constructor))
  ·refine G.exit (G.then_e (G.then_e (G.blk_e (G.then_n (G.region (G.q (Quiet.fieldAddr rfl fo_38_3) rfl (G.q (Quiet.fieldAddr rfl fo_36_7) rfl ?_)))))))
   refine G.q (Quiet.ld rfl ag_34) rfl ?_
   refine G.mv rfl rfl ?_
   refine G.q (Quiet.to (v' := .agg (ptC (⟨-3, [], [], .slice none 0 0, [], 0, 0, 0, .slice none 0 0⟩ : Pt)).toArray) (Quiet.build (us := [(0, _)]) fl_36 ze_36 rfl rfl (by simp [isCell])) rfl) rfl ?_
   refine G.q (Quiet.indexAddr rfl rfl el_34 (by omega)) rfl ?_
   refine G.oq (OpSpec.storeRdA (sz := 8) (j := i * 8) (k := 8) (vs := ptC (⟨-3, [], [], .slice none 0 0, [], 0, 0, 0, .slice none 0 0⟩ : Pt)) rfl rfl (by simp [ptC, isCell]) sz_36 rfl ?ho37 ?hi38) ?nx39
   case ho37 => omega
   case hi38 => omega
   rintro v L' rfl
   refine G.nil (G.blk_n (G.then_n (G.region (G.mv rfl rfl ?_))))
   refine G.q (Quiet.add rfl rfl (by omega)) rfl ?_
   refine G.ag rfl rfl (G.nil (G.then_n ?_))
   exact G.roundK ((i + 1, spl zs (i * 8) (ptC (⟨-3, [], [], .slice none 0 0, [], 0, 0, 0, .slice none 0 0⟩ : Pt)))) (⟨by dsimp only; omega, by dsimp only; rw [spl_length (by show i * 8 + 8 ≤ _; omega)]; exact hzl, fun k hk hik => by dsimp only; rw [spl_drop' (by show i * 8 + 8 ≤ _; omega) (by show i * 8 + 8 ≤ k * 8; dsimp only at hik; omega)]; exact hzk k hk (by dsimp only at hik; omega)⟩) (by dsimp only; omega) ⟨rfl, rfl, trivial⟩ (by (repeat' constructor)) (by ((repeat (apply Have.cons; (repeat (first | exact Pick.here | apply Pick.there)))); apply Have.base; repeat' constructor))
 ·refine G.exit (G.then_e (G.then_e (G.blk_e (G.then_n (G.seq (G.seq (G.region (G.ag rfl rfl (G.nil (G.then_n (G.block ?_)))))))))))
  refine G.loopK (ι := Nat × (List Value)) (fun q E => (5, vint q.1) :: E) (fun q => [slR 210 2 (.slice aa acl.length ca) acl.length q.2]) (fun q => q.1 ≤ acl.length ∧ q.2.length = acl.length * 2) (fun q => acl.length - q.1) (0, acl.flatMap acC) (ts := [1]) (.cons rfl (.nil)) (⟨Nat.zero_le _, hal⟩) ⟨rfl, rfl, trivial⟩ (by (repeat' constructor)) ?_
  rintro ⟨j, ys⟩ ⟨hj, hyl⟩
  dsimp only
  dsimp only at hj hyl
  refine G.seq (G.seq (G.region (G.mv rfl rfl (G.q (Quiet.fieldAddr rfl fo_38_3) rfl (G.q (Quiet.fieldAddr rfl fo_36_3) rfl ?_)))))
  refine G.q (Quiet.ld rfl ag_33) rfl ?_
  refine G.q (Quiet.slen rfl Tryz.underlying33 rfl) rfl (G.q (Quiet.int rfl rfl rfl) rfl (G.nil (G.then_n ?_)))
  refine G.condD rfl (fun h44 => ?_) (fun h44 => ?_)
  ·have hj2 : j < acl.length := by omega
   refine G.slShape (T := 210) (sz := 2) (v := .slice aa acl.length ca) (xs := ys) (by (repeat' constructor)) (by omega) fun bo bo' e0 mbo _ => ?_
   simp only [Value.slice.injEq, true_and] at e0
   obtain ⟨rfl, rfl⟩ := e0
   refine G.skip (G.then_n (G.seq (G.block (G.region (G.q (Quiet.fieldAddr rfl fo_38_3) rfl (G.q (Quiet.fieldAddr rfl fo_36_3) rfl ?_))))))
   refine G.q (Quiet.ld rfl ag_33) rfl ?_
   refine G.mv rfl rfl ?_
   refine G.q (Quiet.to (v' := .agg [vint (-3), vstr [111, 118, 101, 114]].toArray) (Quiet.build (us := [(0, _), (1, _)]) fl_210 ze_210 rfl rfl (by simp [isCell])) rfl) rfl ?_
   refine G.q (Quiet.indexAddr rfl rfl el_33 (by omega)) rfl ?_
   refine G.oq (OpSpec.storeRdA (sz := 2) (j := j * 2) (k := 2) (vs := [vint (-3), vstr [111, 118, 101, 114]]) rfl rfl (by simp [isCell]) sz_210 rfl ?ho55 ?hi56) ?nx57
   case ho55 => omega
   case hi56 => omega
   rintro v L' rfl
   refine G.nil (G.blk_n (G.then_n (G.region (G.mv rfl rfl ?_))))
   refine G.q (Quiet.add rfl rfl (by omega)) rfl ?_
   refine G.ag rfl rfl (G.nil (G.then_n ?_))
   exact G.roundK ((j + 1, spl ys (j * 2) [vint (-3), vstr [111, 118, 101, 114]])) (⟨by dsimp only; omega, by dsimp only; rw [spl_length (by simp; omega)]; exact hyl⟩) (by dsimp only; omega) ⟨rfl, rfl, trivial⟩ (by (repeat' constructor)) (by ((repeat (apply Have.cons; (repeat (first | exact Pick.here | apply Pick.there)))); apply Have.base; repeat' constructor))
  ·refine G.exit (G.then_e (G.then_e (G.blk_e (G.then_n (G.seq (G.region (G.q (Quiet.fieldAddr rfl fo_38_3) rfl (G.q (Quiet.fieldAddr rfl fo_36_7) rfl ?_))))))))
   refine G.q (Quiet.ld rfl ag_34) rfl ?_
   refine G.q (Quiet.to (v' := .agg (ptC (⟨-4, [], [], .slice none 0 0, [], 0, 0, 0, .slice none 0 0⟩ : Pt)).toArray) (Quiet.build (us := [(0, _)]) fl_36 ze_36 rfl rfl (by simp [isCell])) rfl) rfl ?_
   refine G.oq (OpSpec.buildSlice (vs := [_]) el_34 ze_36 rfl rfl rfl rfl (by first | (simp [Value.cells]; done) | (intro v hv; simp only [List.mem_cons, List.not_mem_nil, or_false] at hv; (repeat (first | (subst hv; rfl) | (rcases hv with hv | hv; (subst hv; rfl)))))) (by decide)) ?nx64
   rintro v L' ⟨b14, rfl, rfl⟩
   refine G.oq (OpSpec.append1 rfl rfl rfl el_34 ze_36 rfl rfl ?c66 ?c67 (Nat.le_refl _) ?c68 (by decide)) ?nx69
   case c66 => simp only [List.map_cons, List.map_nil, List.flatten_cons, List.flatten_nil, List.append_nil]; simp [Value.cells, ptC, isCell]
   case c67 => rfl
   case c68 => omega
   rintro v L' ⟨⟨a14, c14, rfl⟩, rfl⟩
   refine G.ag rfl rfl (G.nil (G.then_n (G.seq (G.region (G.q (Quiet.fieldAddr rfl fo_38_3) rfl (G.q (Quiet.fieldAddr rfl fo_36_3) rfl ?_))))))
   refine G.q (Quiet.ld rfl ag_33) rfl ?_
   refine G.q (Quiet.to (v' := .agg [vint (-4), vstr []].toArray) (Quiet.build (us := [(0, _)]) fl_210 ze_210 rfl rfl (by simp [isCell])) rfl) rfl ?_
   refine G.oq (OpSpec.buildSlice (vs := [_]) el_33 ze_210 rfl rfl rfl rfl (by first | (simp [Value.cells]; done) | (intro v hv; simp only [List.mem_cons, List.not_mem_nil, or_false] at hv; (repeat (first | (subst hv; rfl) | (rcases hv with hv | hv; (subst hv; rfl)))))) (by decide)) ?nx75
   rintro v L' ⟨b15, rfl, rfl⟩
   refine G.oq (OpSpec.append1 rfl rfl rfl el_33 ze_210 rfl rfl ?c77 ?c78 (Nat.le_refl _) ?c79 (by decide)) ?nx80
   case c77 => simp only [List.map_cons, List.map_nil, List.flatten_cons, List.flatten_nil, List.append_nil]; simp [Value.cells, isCell]
   case c78 => rfl
   case c79 => omega
   rintro v L' ⟨⟨a15, c15, rfl⟩, rfl⟩
   refine G.ag rfl rfl (G.nil (G.then_n (G.seq ?_)))
   refine G.slShape (T := 36) (sz := 8) (v := .slice a14 (subs.length + 1) c14) (xs := _) (by (repeat' constructor)) (by omega) fun bs bs' e0 mbs _ => ?_
   simp only [Value.slice.injEq, true_and] at e0
   obtain ⟨rfl, rfl⟩ := e0
   refine G.region (G.mv rfl rfl (G.mv rfl rfl (G.q (Quiet.slen rfl Tryz.underlying34 rfl) rfl ?_)))
   refine G.q (Quiet.as (v' := vint (subs.length : Nat)) (by congr 1; omega) (Quiet.sub rfl rfl (by omega))) rfl ?_
   refine G.q (Quiet.indexAddr rfl rfl el_34 (by omega)) rfl ?_
   refine G.q (Quiet.fieldAddr rfl fo_36_4) rfl ?_
   refine G.oq (OpSpec.storeRd (sz := 8) (j := subs.length * 8 + 4) rfl rfl rfl sz_3 ?ho86 ?hi87) ?nx88
   case ho86 => simp
   case hi87 => omega
   rintro v L' rfl
   refine G.nil (G.then_n ?_)
   refine G.slShape (T := 210) (sz := 2) (v := .slice a15 (acl.length + 1) c15) (xs := _) (by (repeat' constructor)) (by omega) fun bz bz' e0 mbz _ => ?_
   simp only [Value.slice.injEq, true_and] at e0
   obtain ⟨rfl, rfl⟩ := e0
   refine G.region (G.mv rfl rfl (G.mv rfl rfl (G.q (Quiet.slen rfl Tryz.underlying33 rfl) rfl ?_)))
   refine G.q (Quiet.as (v' := vint (acl.length : Nat)) (by congr 1; omega) (Quiet.sub rfl rfl (by omega))) rfl ?_
   refine G.q (Quiet.indexAddr rfl rfl el_33 (by omega)) rfl ?_
   refine G.q (Quiet.fieldAddr rfl fo_210_0) rfl ?_
   refine G.oq (OpSpec.storeRd (sz := 2) (j := acl.length * 2 + 0) rfl rfl rfl sz_3 ?ho93 ?hi94) ?nx95
   case ho93 => simp
   case hi94 => omega
   rintro v L' rfl
   refine G.nil (G.done_n ?_)
   exact G.dn (l := []) rfl rfl ⟨rfl, rfl⟩

end Go.Proofs.YtidjhgbdokcphaaGreat

/- Own work, by program: pick, text, does; LedgerEpochs: walked. -/

namespace Go.Proofs.YtidjhgbdokcphaaGreat
open Go
end Go.Proofs.YtidjhgbdokcphaaGreat

/- Own work, by program: same, told, equal: walked. -/

namespace Go.Proofs.YtidjhgbdokcphaaGreat
open Go
theorem same_step {a b : List En} {i : Nat} (h1 : i < a.length) (h2 : i < b.length) (h : (a.take i).map enB = (b.take i).map enB) (he : enB a[i] = enB b[i]) : (a.take (i + 1)).map enB = (b.take (i + 1)).map enB := by
  rw [List.take_succ_eq_append_getElem h1, List.take_succ_eq_append_getElem h2, List.map_append, List.map_append, h]
  simp [he]
theorem same_bad {a b : List En} {i : Nat} (h1 : i < a.length) (h2 : i < b.length) (he : ¬ enB a[i] = enB b[i]) : ¬ a.map enB = b.map enB := by
  intro h
  have h3 : (a.map enB)[i]? = (b.map enB)[i]? := by rw [h]
  simp [h1, h2] at h3
  exact he h3
theorem same9_spec (va vb : Value) (a b : List En) (pa pe qa qe : HP) (ha : ∀ h : Hp, pa h → rdS 11 h va a.length (a.flatMap enC)) (hae : ∀ e ∈ a, EnL pe e) (hb : ∀ h : Hp, qa h → rdS 11 h vb b.length (b.flatMap enC)) (hbe : ∀ e ∈ b, EnL qe e) (hl : a.length ≤ 4294967296) (hm : b.length ≤ 4294967296) : Fn Tryz.prog 30 #[va, vb] [pa, pe, qa, qe] fun v L => v = .bool (decide (a.map enB = b.map enB)) ∧ L = [pa, pe, qa, qe] := by
 refine Fn.intro (vs := [va, vb]) Tryz.func30 rfl rfl ?_
 intro F W
 refine G.rdAny (p := pa) ha (by (repeat' constructor)) fun aa ca e _ => ?_
 subst e
 refine G.rdAny (p := qa) hb (by (repeat' constructor)) fun ab cb e _ => ?_
 subst e
 refine G.seq (G.region (G.ag rfl rfl (G.nil (G.then_n (G.seq (G.seq (G.region (G.mv rfl rfl (G.q (Quiet.slen rfl Tryz.underlying22 rfl) rfl (G.mv rfl rfl (G.q (Quiet.slen rfl Tryz.underlying22 rfl) rfl (G.q (Quiet.int rfl rfl rfl) rfl (G.nil (G.then_n ?_))))))))))))))
 refine G.condN rfl (fun h10 => ?_) (fun h10 => ?_)
 ·refine G.seq (G.region (G.ag rfl rfl (G.nil (G.then_n (G.ret (G.then_r ?_))))))
  exact G.dn (l := [.tmp 4]) rfl rfl ⟨congrArg Value.bool (decide_eq_false (fun h => by have h2 := congrArg List.length h; rw [List.length_map, List.length_map] at h2; omega)).symm, rfl⟩
 ·have hlen : a.length = b.length := by omega
  refine G.skip (G.then_n (G.seq (G.seq (G.region (G.ag rfl rfl (G.nil (G.then_n (G.block ?_))))))))
  refine G.loopK (ι := Nat) (fun q E => (5, vint q) :: E) (fun q => []) (fun q => q ≤ a.length ∧ (a.take q).map enB = (b.take q).map enB) (fun q => a.length - q) (0) (ts := [0, 1]) (.cons rfl (.cons rfl (.nil))) (⟨Nat.zero_le _, rfl⟩) ⟨rfl, rfl, rfl, trivial⟩ (by (repeat' constructor)) ?_
  rintro i ⟨hi, ht⟩
  refine G.seq (G.seq (G.region (G.mv rfl rfl (G.mv rfl rfl (G.q (Quiet.slen rfl Tryz.underlying22 rfl) rfl (G.q (Quiet.int rfl rfl rfl) rfl (G.nil (G.then_n ?_))))))))
  refine G.condD rfl (fun h14 => ?_) (fun h14 => ?_)
  ·have hi2 : i < a.length := by omega
   have hi3 : i < b.length := by omega
   have hea := hae _ (List.getElem_mem hi2)
   have heb := hbe _ (List.getElem_mem hi3)
   refine G.rdShape (p := pa) ha (by (repeat' constructor)) (by omega) fun ba oa e => ?_
   subst e
   refine G.rdShape (p := qa) hb (by (repeat' constructor)) (by omega) fun bb ob e => ?_
   subst e
   refine G.skip (G.then_n (G.seq (G.block (G.seq ?_))))
   refine G.draw [] [[0, 1, 2, 3, 4, 5, 6, 7, 8, 9, 10]] mixed (by kernel_rfl) ?_
   refine Phases.go [pa, pe, qa, qe] (by (repeat' constructor)) ?_
   refine D.kw [2, 3, 4, 9, 10] rfl (Quiet.move rfl) ?_
   refine D.kw [2, 3, 4, 9, 10] rfl (Quiet.move rfl) ?_
   refine D.kw [3, 4, 9, 10] rfl (Quiet.indexAddr rfl rfl el_22 (by omega)) ?_
   refine D.kw [4, 9, 10] rfl (Quiet.loadRdA (sz := 11) (j := i * 11) (k := 11) (p := pa) (vs := enC a[i]) rfl ag_38 (by (repeat' constructor)) ha (by simp) (by omega) (by omega) (flatMap_at (f := enC) (sz := 11) (fun _ _ => rfl) (by omega))) ?_
   refine D.m rfl (by kernel_rfl) (OpSpec.call Tryz.func77 rfl rfl (vs := [_]) rfl (r2put_spec a[i] pe hea)) (by (repeat' constructor)) ?nx17
   refine D.kw [7, 8, 9, 10] rfl (Quiet.move rfl) ?_
   refine D.kw [7, 8, 9, 10] rfl (Quiet.move rfl) ?_
   refine D.kw [8, 9, 10] rfl (Quiet.indexAddr rfl rfl el_22 (by omega)) ?_
   refine D.kw [9, 10] rfl (Quiet.loadRdA (sz := 11) (j := i * 11) (k := 11) (p := qa) (vs := enC b[i]) rfl ag_38 (by (repeat' constructor)) hb (by simp) (by omega) (by omega) (flatMap_at (f := enC) (sz := 11) (fun _ _ => rfl) (by omega))) ?_
   refine D.m rfl (by kernel_rfl) (OpSpec.call Tryz.func77 rfl rfl (vs := [_]) rfl (r2put_spec b[i] qe heb)) (by (repeat' constructor)) ?nx23
   refine D.kw [] rfl (Quiet.strne rfl rfl) ?_
   refine D.ph (Phases.fin (G.then_n ?_))
   refine G.condN rfl (fun h27 => ?_) (fun h27 => ?_)
   ·refine G.seq (G.region (G.ag rfl rfl (G.nil (G.then_n (G.ret (G.blk_r (G.then_r (G.then_r (G.blk_r (G.then_r ?_))))))))))
    exact G.dn (l := [.tmp 4]) rfl rfl ⟨congrArg Value.bool (decide_eq_false (same_bad hi2 hi3 (by simpa using h27))).symm, rfl⟩
   ·refine G.skip (G.blk_n (G.then_n (G.region (G.mv rfl rfl ?_))))
    refine G.q (Quiet.add rfl rfl (by omega)) rfl ?_
    refine G.ag rfl rfl (G.nil (G.then_n ?_))
    exact G.roundK (i + 1) (⟨by omega, same_step hi2 hi3 ht (by simpa using h27)⟩) (by omega) ⟨rfl, rfl, rfl, trivial⟩ (by (repeat' constructor)) (by ((repeat (apply Have.cons; (repeat (first | exact Pick.here | apply Pick.there)))); apply Have.base; repeat' constructor))
  ·refine G.exit (G.then_e (G.then_e (G.blk_e (G.then_n (G.seq (G.region (G.ag rfl rfl (G.nil (G.then_n (G.ret ?_))))))))))
   exact G.dn (l := [.tmp 4]) rfl rfl ⟨congrArg Value.bool (decide_eq_true (by have hie : i = a.length := (by omega); rw [hie, List.take_length, hlen, List.take_length] at ht; exact ht)).symm, rfl⟩

end Go.Proofs.YtidjhgbdokcphaaGreat

/- Own work: what both ledgers tell of their entries. -/

namespace Go.Proofs.YtidjhgbdokcphaaGreat
open Go

def entsB (Λ : Lg) (z : Int) : List Bs := if z < Λ.base then [] else behindB Λ z
def entsE (Λ : Lg) (z : Int) : Int := if z < Λ.base then 81 else 0
theorem sep_add {p : HP} {L : List HP} {h : Hp} (hp : ∀ h, p h) (hs : sep L h) : sep (p :: L) h := ⟨fun _ => none, _, fun _ => .inl rfl, fun _ _ e => (by cases e), fun _ _ e => e, hp _, hs⟩
theorem lent2_spec (g x : Nat) (Λ : Lg) (z : Int) (hW : LgW Λ) : Fn Tryz.prog 16 #[vptr g, vint z] [lgR g x Λ] fun v L => ∃ (es : List En) (a : Option Addr) (c : Nat), es.map enB = entsB Λ z ∧ es.length ≤ 1048576 ∧ (∀ e ∈ es, EnK e ∧ EnG e) ∧ v = .tuple #[.slice a es.length c, vint (entsE Λ z)] ∧ L = [lgR g x Λ, es9 (.slice a es.length c) es, bigR entR es] := by
  intro F w hs
  refine (lentries_spec g x Λ z hW.i F w hs).mono ?_
  rintro e w' ⟨v, L, hK, he, hs2, hk⟩
  rcases hK with ⟨h1, rfl, rfl⟩ | ⟨h1, es, he2, hek, a, c, rfl, rfl⟩
  · refine ⟨_, [lgR g x Λ, es9 (.slice none 0 0) [], bigR entR []], ⟨[], none, 0, by unfold entsB; rw [if_pos h1]; rfl, Nat.zero_le _, fun e he => (by cases he), by unfold entsE; rw [if_pos h1]; rfl, rfl⟩, he, ?_, hk⟩
    have q := sep_add (p := es9 (.slice none 0 0) []) (slR_nil _ _) (sep_add (p := bigR entR []) (fun h => big_nil h) hs2)
    exact sep_perm ((List.Perm.swap _ _ _).trans (List.Perm.cons _ (List.Perm.swap _ _ _) |>.symm.trans ((List.Perm.swap _ _ _).trans (List.Perm.cons _ (List.Perm.swap _ _ _))) |>.symm |> fun h => h.symm)) q
  · obtain ⟨hB, hG⟩ := behind_B hW he2
    have hbl : es.length ≤ 1048576 := by
      have h8 := congrArg List.length hB
      have h9 : (behindB Λ z).length ≤ Λ.ents.length := by
        unfold behindB; rw [List.length_map]
        refine Nat.le_trans (List.length_filter_le _ _) ?_
        rw [List.length_zip]; omega
      rw [List.length_map] at h8
      have := hW.few; omega
    exact ⟨_, _, ⟨es, a, c, by unfold entsB; rw [if_neg h1]; exact hB, hbl, fun e he => ⟨hek e he, hG e he⟩, by unfold entsE; rw [if_neg h1], rfl⟩, he, hs2, hk⟩
theorem r9ent2_spec (y w : Nat) (Λ : Lg) (a : Option Addr) (c : Nat) (es : List En) (z : Int) (hE : EsOf es Λ) : Fn Tryz.prog 131 #[vptr y, vint z] [gc9 y w Λ.base Λ.snap (.slice a es.length c) Λ.acc Λ.cur Λ.doubt, es9 (.slice a es.length c) es] fun v L => ∃ (fs : List En) (a2 : Option Addr) (c2 : Nat), fs.map enB = entsB Λ z ∧ (∀ e ∈ fs, e ∈ es) ∧ fs.length ≤ 1048576 ∧ v = .tuple #[.slice a2 fs.length c2, vint (entsE Λ z)] ∧ L = [gc9 y w Λ.base Λ.snap (.slice a es.length c) Λ.acc Λ.cur Λ.doubt, es9 (.slice a es.length c) es, es9 (.slice a2 fs.length c2) fs] := by
  intro F u hs
  refine (r9entries_spec y w Λ.base Λ.snap a c Λ.acc Λ.cur Λ.doubt es z hE.n (fun e he => (hE.k e he).1) F u hs).mono ?_
  rintro e w' ⟨v, L, hK, he, hs2, hk⟩
  rcases hK with ⟨h1, rfl, rfl⟩ | ⟨h1, a2, c2, rfl, rfl⟩
  · refine ⟨_, [gc9 y w Λ.base Λ.snap (.slice a es.length c) Λ.acc Λ.cur Λ.doubt, es9 (.slice a es.length c) es, es9 (.slice none 0 0) []], ⟨[], none, 0, by unfold entsB; rw [if_pos h1]; rfl, fun e he => (by cases he), Nat.zero_le _, by unfold entsE; rw [if_pos h1]; rfl, rfl⟩, he, ?_, hk⟩
    have q := sep_add (p := es9 (.slice none 0 0) []) (slR_nil _ _) hs2
    exact sep_perm ((List.Perm.swap _ _ _).trans (List.Perm.cons _ (List.Perm.swap _ _ _))) q
  · refine ⟨_, _, ⟨_, a2, c2, ?_, fun e he => (List.mem_filter.1 he).1, ?_, by unfold entsE; rw [if_neg h1], rfl⟩, he, hs2, hk⟩
    · unfold entsB; rw [if_neg h1]; exact behind_es hE z
    · have := hE.n; exact Nat.le_trans (List.length_filter_le _ _) this
end Go.Proofs.YtidjhgbdokcphaaGreat

/- Own work: whatever lies on a disk, what opens as a ledger is a well-formed one: plain. -/

namespace Go.Proofs.YtidjhgbdokcphaaGreat
open Go

theorem partF_long : ∀ (f : Nat) (s : Bs) (out : List Bs) (num : Int) (l : List Bs), (∀ x ∈ out, x.length ≤ 4000) → partF f s out num = some l → ∀ x ∈ l, x.length ≤ 4000
  | 0, _, _, _, _, _, h => by cases h
  | f + 1, s, out, num, l, ho, h => by
    unfold partF at h
    split at h
    · split at h
      · cases h; exact ho
      · cases h
    split at h
    · cases h
    split at h
    · cases h
    split at h
    · cases h
    rename_i h0 h1 h2 h3
    refine partF_long f _ _ num l (fun x hx => ?_) h
    rcases List.mem_append.1 hx with hx | hx
    · exact ho x hx
    · rw [List.mem_singleton] at hx; subst hx
      rw [sub_len (by omega)]; omega
theorem open_I {δ : Dk} (hok : δ.Ok) (hs : 2 ≤ δ.now.length ∧ δ.now.length ≤ 32768) (ha : δ.acts + 10000000 < 4611686018427387904) {ω : Wl} (h : openZ δ = some ω) : WlI δ ω ∧ ω.doubt = false ∧ (∀ s ∈ ω.recs, s.length ≤ 4000) ∧ ω.recs.length ≤ 1048576 ∧ (0 ≤ ω.a ∧ ω.a ≤ 9223372036854775807) ∧ (0 ≤ ω.b ∧ ω.b ≤ 9223372036854775807) := by
  obtain ⟨f1, f2⟩ := open_facts hok hs.1 h
  rcases hb : bestZ δ with _ | m
  · rw [openZ_none hb] at h; cases h
  · rw [openZ_some hb] at h
    have hm := bestZ_some hok hb
    unfold openB at h
    split at h
    · cases h
    · rename_i l hp
      have e := Option.some.inj h
      subst e
      have hlm := laidZ_many l
      have hhl := half_le hs
      have hc := hm.count
      have har := hm.area
      dsimp only at f2
      refine ⟨⟨hs, ha, hm.area, ⟨by dsimp only; omega, hc.2⟩, ⟨by dsimp only; omega, Int.le_refl _⟩, f2⟩, rfl, partF_long _ _ _ _ _ (fun x hx => by cases hx) hp, by dsimp only; omega, hm.a, hm.b⟩
theorem snap_W {many : Nat} : ∀ (l : List Bs) (sn sn' : Bs) (u : List Bs), sn.length ≤ many → snapZ many sn l = some (sn', u) → sn'.length ≤ many ∧ ∀ s ∈ u, s ∈ l
  | [], sn, sn', u, hl, h => by
    unfold snapZ at h
    split at h
    · cases h
    · cases h; exact ⟨hl, fun s hs => hs⟩
  | r :: t, sn, sn', u, hl, h => by
    unfold snapZ at h
    split at h
    · split at h
      · rename_i h1 h2
        obtain ⟨q1, q2⟩ := snap_W t _ _ _ (by rw [List.length_append]; omega) h
        exact ⟨q1, fun s hs => List.mem_cons_of_mem _ (q2 s hs)⟩
      · cases h
    · cases h; exact ⟨hl, fun s hs => hs⟩
theorem ents_W : ∀ (u : List Bs) (Λ Λ' : Lg), LgW Λ → (∀ s ∈ u, s.length ≤ 4000) → entsZ Λ u = some Λ' → LgW Λ' ∧ Λ'.acc = Λ.acc ∧ Λ'.cur = Λ.cur ∧ Λ'.doubt = Λ.doubt
  | [], Λ, Λ', hW, _, h => by cases h; exact ⟨hW, rfl, rfl, rfl⟩
  | s :: t, Λ, Λ', hW, hs, h => by
    cases hg : getZ s with
    | none => rw [ents_none hg] at h; cases h
    | some e =>
      by_cases hb : e.zx ≤ lastZ Λ ∨ Λ.ents.length = 200
      · rw [ents_bad hg hb] at h; cases h
      · rw [ents_step hg hb] at h
        have hfw := hW.few
        have hWk : LgW (Λ.keep s e.zx) := by
          refine ⟨?_, ?_, hW.base, hW.snap, hW.rows.keep ⟨e, hg, rfl⟩ (get_zx64 hg) (show lastF Λ.base Λ.zxs < e.zx from Int.not_le.1 (fun q => hb (.inl q))), hW.eps⟩
          · show (Λ.ents ++ [s]).length ≤ 200; rw [List.length_append, List.length_singleton]
            have : Λ.ents.length ≠ 200 := fun q => hb (.inr q)
            omega
          · intro x hx
            rcases List.mem_append.1 (show x ∈ Λ.ents ++ [s] from hx) with hx | hx
            · exact hW.each x hx
            · rw [List.mem_singleton] at hx; subst hx; exact hs x (List.mem_cons_self ..)
        exact ents_W t (Λ.keep s e.zx) Λ' hWk (fun x hx => hs x (List.mem_cons_of_mem _ hx)) h
theorem openL_W {ω : Wl} {Λ : Lg} (hr : ∀ s ∈ ω.recs, s.length ≤ 4000) (hb : 0 ≤ ω.b) (h : openLZ ω = some Λ) : LgW Λ ∧ Λ.acc = ω.a ∧ Λ.cur = ω.b ∧ Λ.doubt = false := by
  unfold openLZ at h
  split at h
  · cases h
  rename_i h0
  cases hq : ω.recs with
  | nil => rw [hq] at h; cases h
  | cons r t =>
    rw [hq] at h hr
    cases hlh : lhZ r with
    | none => have h2 : (match lhZ r with | none => none | some (base, n) => if base < 0 then none else restZ ω.a ω.b base (snapZ n [] t)) = some Λ := h
              rw [hlh] at h2; cases h2
    | some bn =>
    obtain ⟨base, n⟩ := bn
    have h2 : (match lhZ r with | none => none | some (base, n) => if base < 0 then none else restZ ω.a ω.b base (snapZ n [] t)) = some Λ := h
    rw [hlh] at h2
    replace h : (if base < 0 then none else restZ ω.a ω.b base (snapZ n [] t)) = some Λ := h2
    split at h
    · cases h
    rename_i h1
    have hbase : I64 base ∧ n ≤ 65536 := by
      unfold lhZ at hlh
      split at hlh
      · rename_i q hq2
        have e : q = (base, n) := Option.some.inj hlh
        subst e
        have e1 : base = (numR (some r)).1 := by have := congrArg (fun x => x.1.1) hq2; exact this.symm
        have e2 : n = (cntX (numR (some r)).2).1 := by have := congrArg (fun x => x.1.2) hq2; exact this.symm
        exact ⟨by rw [e1]; exact numR_i64 _, by rw [e2]; exact cntX_le _⟩
      · cases hlh
    cases hs : snapZ n [] t with
    | none => rw [hs] at h; cases h
    | some x =>
      obtain ⟨sn, u⟩ := x
      rw [hs] at h
      obtain ⟨q1, q2⟩ := snap_W t [] sn u (Nat.zero_le _) hs
      have hW0 : LgW ⟨ω.a, ω.b, base, sn, [], [], false⟩ := ⟨Nat.zero_le _, fun s hs => (by cases hs), ⟨by show 0 ≤ base; omega, hbase.1.2⟩, by show sn.length ≤ 65536; omega, trivial, ⟨hb, by show ω.b ≤ ω.a; omega, by show ω.a ≤ 1073741824; omega⟩⟩
      exact ents_W u _ Λ hW0 (fun s hs2 => hr s (List.mem_cons_of_mem _ (q2 s hs2))) h
end Go.Proofs.YtidjhgbdokcphaaGreat

/- Own work, by program: what is asked of both ledgers: walked. -/

namespace Go.Proofs.YtidjhgbdokcphaaGreat
open Go
set_option maxHeartbeats 1000000 in
theorem asks9_spec (s d g xg x y w : Nat) (Λ : Lg) (hW : LgW Λ) (o : Op9) (k : Int) : Fn Tryz.prog 73 #[vptr s, .agg (op9K o k).toArray] [ptc s [vptr d, vptr g, vptr x, vptr y] 62, lgR g xg Λ, rgR y w Λ] fun v L => v = .bool true ∧ L = [ptc s [vptr d, vptr g, vptr x, vptr y] 62, lgR g xg Λ, rgR y w Λ] := by
 refine Fn.intro (vs := [vptr s, .agg (op9K o k).toArray]) Tryz.func73 rfl rfl ?_
 intro F W
 have hfew := hW.few
 have hmk : (marksZ Λ).length ≤ 4294967296 := by have h1 := mk_lens (Λ.base :: Λ.zxs) _ (Nat.le_refl _); rw [List.take_length, List.length_cons] at h1; have h2 := hW.rows.len; unfold marksZ; omega
 refine G.seq (G.region ?_)
 refine G.oq (OpSpec.box rfl) ?nx1
 rintro v L' ⟨b3, rfl, rfl⟩
 refine G.ag rfl rfl (G.nil ?_)
 refine G.ptCast (b := b3) (l' := op9K o k) (by (repeat' constructor)) (by exact rfl) ?_
 refine G.then_n (G.seq (G.seq (G.region (G.q (Quiet.fieldAddr rfl fo_73_0) rfl ?_))))
 refine G.q (Quiet.ld rfl ag_3) rfl ?_
 refine G.nil (G.then_n (G.block (G.seq (G.region (G.q (Quiet.int rfl rfl rfl) rfl (G.ag rfl rfl (G.nil (G.then_n ?_))))))))
 refine G.condD rfl (fun h19 => ?_) (fun h19 => ?_)
 ·refine G.seq (G.region (G.mv rfl rfl (G.q (Quiet.nilp rfl) rfl (G.q (Quiet.fieldAddr rfl fo_62_1) rfl ?_))))
  refine G.q (Quiet.ld rfl ag_28) rfl ?_
  refine G.oq (OpSpec.call Tryz.func15 rfl rfl (vs := [_]) rfl (lmarks_spec g xg Λ hW.i)) ?nx11
  rintro v L' ⟨am, cm, rfl, rfl⟩
  refine G.ag rfl rfl (G.nil (G.then_n (G.seq ?_)))
  refine G.rgOpen (y := y) (by (repeat' constructor)) fun a c es hE => ?_
  refine G.region (G.mv rfl rfl (G.mv rfl rfl (G.q (Quiet.nilp rfl) rfl (G.q (Quiet.fieldAddr rfl fo_62_3) rfl ?_))))
  refine G.q (Quiet.ld rfl ag_60) rfl ?_
  refine G.oq (OpSpec.call Tryz.func129 rfl rfl (vs := [_]) rfl (r9marks_spec y w Λ a c es hE hW)) ?nx17
  rintro v L' ⟨a2, c2, rfl, rfl⟩
  refine G.oq (OpSpec.call Tryz.func14 rfl rfl (vs := [_, _]) rfl (numbers9_spec _ _ (marksZ Λ) (marksZ Λ) (intR (.slice am (marksZ Λ).length cm) (marksZ Λ)) (intR (.slice a2 (marksZ Λ).length c2) (marksZ Λ)) (fun h hp => slR_rd hp) (fun h hp => slR_rd hp) hmk hmk)) ?nx19
  rintro v L' ⟨rfl, rfl⟩; rw [decide_eq_true rfl]
  refine G.ag rfl rfl (G.nil (G.then_n (G.seq (G.seq (G.region (G.ag rfl rfl (G.nil (G.then_n (G.block ?_)))))))))
  obtain ⟨nm, hnm⟩ : ∃ nm, (marksZ Λ).length = nm := ⟨_, rfl⟩
  rw [hnm]
  refine G.slCast (T := 3) (sz := 1) (m' := nm) (xs' := ints (marksZ Λ)) (by (repeat' constructor)) (by exact hnm) (by exact rfl) ?_
  refine G.loopK (ι := Nat × (List Value)) (fun q E => (7, vint q.1) :: E) (fun q => [slR 3 1 (.slice am nm cm) nm q.2]) (fun q => q.1 ≤ nm) (fun q => nm - q.1) (0, ints (marksZ Λ)) (ts := [0, 4, 5, 6]) (.cons rfl (.cons rfl (.cons rfl (.cons rfl (.nil))))) (Nat.zero_le _) ⟨rfl, rfl, rfl, rfl, rfl, trivial⟩ (by (repeat' constructor)) ?_
  rintro ⟨i, ys⟩ hi
  dsimp only
  dsimp only at hi
  refine G.seq (G.seq (G.region (G.mv rfl rfl (G.mv rfl rfl (G.q (Quiet.slen rfl Tryz.underlying31 rfl) rfl (G.q (Quiet.int rfl rfl rfl) rfl (G.nil (G.then_n ?_))))))))
  refine G.condD rfl (fun h36 => ?_) (fun h36 => ?_)
  ·have hi2 : i < nm := by omega
   refine G.slShape (T := 3) (sz := 1) (v := .slice am nm cm) (xs := ys) (by (repeat' constructor)) (by omega) fun bo bo' e0 mbo _ => ?_
   simp only [Value.slice.injEq, true_and] at e0
   obtain ⟨rfl, rfl⟩ := e0
   refine G.skip (G.then_n (G.seq (G.block (G.region (G.mv rfl rfl (G.mv rfl rfl ?_))))))
   refine G.q (Quiet.indexAddr rfl rfl el_31 (by omega)) rfl ?_
   refine G.oq (OpSpec.storeRd (sz := 1) (j := i * 1) rfl rfl rfl sz_3 ?ho29 ?hi30) ?nx31
   case ho29 => omega
   case hi30 => omega
   rintro v L' rfl
   refine G.nil (G.blk_n (G.then_n (G.region (G.mv rfl rfl ?_))))
   refine G.q (Quiet.add rfl rfl (by omega)) rfl ?_
   refine G.ag rfl rfl (G.nil (G.then_n ?_))
   exact G.roundK ((i + 1, ys.set (i * 1) (vint (-1)))) (by dsimp only; omega) (by dsimp only; omega) ⟨rfl, rfl, rfl, rfl, rfl, trivial⟩ (by (repeat' constructor)) (by ((repeat (apply Have.cons; (repeat (first | exact Pick.here | apply Pick.there)))); apply Have.base; repeat' constructor))
  ·refine G.exit (G.then_e (G.then_e (G.blk_e (G.then_n (G.seq ?_)))))
   refine G.draw [] [[0, 1, 2, 3, 4, 5, 6, 7, 8, 9, 10, 11, 12, 13, 14, 15, 16, 17, 18, 19, 20, 21, 22, 23, 24, 25, 26, 27, 28, 29, 30, 31, 32, 33, 34, 35, 36, 37, 38, 39, 40, 41, 42, 43, 44, 45, 46, 47, 48, 49, 50, 51, 52, 53, 54, 55, 56, 57, 58, 59, 60, 61, 62, 63, 64, 65, 66, 67, 68, 69, 70, 71, 72, 73, 74, 75, 76, 77, 78]] mixed (by kernel_rfl) ?_
   refine Phases.go [ptc s _ _, lgR g xg Λ, ptc y _ _, slR 38 11 _ es.length _] (by (repeat' constructor)) ?_
   refine D.kw [1, 2, 3, 4, 5, 6, 7, 8, 9, 10, 11, 12, 13, 14, 15, 16, 17, 18, 19, 20, 21, 22, 23, 24, 25, 26, 27, 28, 29, 30, 31, 32, 33, 34, 35, 36, 37, 38, 39, 40, 41, 42, 43, 44, 45, 46, 47, 48, 49, 50, 51, 52, 53, 54, 55, 56, 57, 58, 59, 60, 61, 62, 63, 64, 65, 66, 67, 68, 69, 70, 71, 72, 73, 74, 75, 76, 77, 78] rfl (Quiet.move rfl) ?_
   refine D.kw [2, 3, 4, 5, 6, 7, 8, 9, 10, 11, 12, 13, 14, 15, 16, 17, 18, 19, 20, 21, 22, 23, 24, 25, 26, 27, 28, 29, 30, 31, 32, 33, 34, 35, 36, 37, 38, 39, 40, 41, 42, 43, 44, 45, 46, 47, 48, 49, 50, 51, 52, 53, 54, 55, 56, 57, 58, 59, 60, 61, 62, 63, 64, 65, 66, 67, 68, 69, 70, 71, 72, 73, 74, 75, 76, 77, 78] rfl (Quiet.move rfl) ?_
   refine D.gqw [3, 4, 5, 6, 11, 12, 13, 14, 15, 16, 17, 18, 19, 20, 21, 22, 23, 24, 25, 26, 27, 28, 29, 30, 31, 32, 33, 34, 35, 36, 37, 38, 39, 40, 41, 42, 43, 44, 45, 46, 47, 48, 49, 50, 51, 52, 53, 54, 55, 56, 57, 58, 59, 60, 61, 62, 63, 64, 65, 66, 67, 68, 69, 70, 71, 72, 73, 74, 75, 76, 77, 78] (t := 43) rfl rfl rfl (by kernel_rfl) (Quiet.move rfl) ?_
   refine D.gqw [4, 5, 6, 11, 12, 13, 14, 15, 16, 17, 18, 19, 20, 21, 22, 23, 24, 25, 26, 27, 28, 29, 30, 31, 32, 33, 34, 35, 36, 37, 38, 39, 40, 41, 42, 43, 44, 45, 46, 47, 48, 49, 50, 51, 52, 53, 54, 55, 56, 57, 58, 59, 60, 61, 62, 63, 64, 65, 66, 67, 68, 69, 70, 71, 72, 73, 74, 75, 76, 77, 78] (t := 43) rfl rfl rfl (by kernel_rfl) (Quiet.nilp rfl) ?_
   refine D.gqw [5, 6, 11, 12, 13, 14, 15, 16, 17, 18, 19, 20, 21, 22, 23, 24, 25, 26, 27, 28, 29, 30, 31, 32, 33, 34, 35, 36, 37, 38, 39, 40, 41, 42, 43, 44, 45, 46, 47, 48, 49, 50, 51, 52, 53, 54, 55, 56, 57, 58, 59, 60, 61, 62, 63, 64, 65, 66, 67, 68, 69, 70, 71, 72, 73, 74, 75, 76, 77, 78] (t := 43) rfl rfl rfl (by kernel_rfl) (Quiet.fieldAddr rfl fo_62_1) ?_
   refine D.gqw [6, 11, 12, 13, 14, 15, 16, 17, 18, 19, 20, 21, 22, 23, 24, 25, 26, 27, 28, 29, 30, 31, 32, 33, 34, 35, 36, 37, 38, 39, 40, 41, 42, 43, 44, 45, 46, 47, 48, 49, 50, 51, 52, 53, 54, 55, 56, 57, 58, 59, 60, 61, 62, 63, 64, 65, 66, 67, 68, 69, 70, 71, 72, 73, 74, 75, 76, 77, 78] (t := 43) rfl rfl rfl (by kernel_rfl) (Quiet.ld rfl ag_28) ?_
   refine D.gm (t := 43) rfl rfl rfl (by kernel_rfl) (OpSpec.call Tryz.func17 rfl rfl (vs := [_]) rfl (llast_spec g xg Λ hW.i)) (by (repeat' constructor)) ?nx39
   refine D.gqw [8, 9, 10, 11, 12, 13, 14, 15, 16, 17, 18, 19, 20, 21, 22, 23, 24, 25, 26, 27, 28, 29, 30, 31, 32, 33, 34, 35, 36, 37, 38, 39, 40, 41, 42, 43, 44, 45, 46, 47, 48, 49, 50, 51, 52, 53, 54, 55, 56, 57, 58, 59, 60, 61, 62, 63, 64, 65, 66, 67, 68, 69, 70, 71, 72, 73, 74, 75, 76, 77, 78] (t := 43) rfl rfl rfl (by kernel_rfl) (Quiet.move rfl) ?_
   refine D.gqw [9, 10, 11, 12, 13, 14, 15, 16, 17, 18, 19, 20, 21, 22, 23, 24, 25, 26, 27, 28, 29, 30, 31, 32, 33, 34, 35, 36, 37, 38, 39, 40, 41, 42, 43, 44, 45, 46, 47, 48, 49, 50, 51, 52, 53, 54, 55, 56, 57, 58, 59, 60, 61, 62, 63, 64, 65, 66, 67, 68, 69, 70, 71, 72, 73, 74, 75, 76, 77, 78] (t := 43) rfl rfl rfl (by kernel_rfl) (Quiet.nilp rfl) ?_
   refine D.gqw [10, 11, 12, 13, 14, 15, 16, 17, 18, 19, 20, 21, 22, 23, 24, 25, 26, 27, 28, 29, 30, 31, 32, 33, 34, 35, 36, 37, 38, 39, 40, 41, 42, 43, 44, 45, 46, 47, 48, 49, 50, 51, 52, 53, 54, 55, 56, 57, 58, 59, 60, 61, 62, 63, 64, 65, 66, 67, 68, 69, 70, 71, 72, 73, 74, 75, 76, 77, 78] (t := 43) rfl rfl rfl (by kernel_rfl) (Quiet.fieldAddr rfl fo_62_3) ?_
   refine D.gqw [11, 12, 13, 14, 15, 16, 17, 18, 19, 20, 21, 22, 23, 24, 25, 26, 27, 28, 29, 30, 31, 32, 33, 34, 35, 36, 37, 38, 39, 40, 41, 42, 43, 44, 45, 46, 47, 48, 49, 50, 51, 52, 53, 54, 55, 56, 57, 58, 59, 60, 61, 62, 63, 64, 65, 66, 67, 68, 69, 70, 71, 72, 73, 74, 75, 76, 77, 78] (t := 43) rfl rfl rfl (by kernel_rfl) (Quiet.ld rfl ag_60) ?_
   refine D.gm (t := 43) rfl rfl rfl (by kernel_rfl) (OpSpec.call Tryz.func130 rfl rfl (vs := [_]) rfl (r9last_spec y w Λ.base Λ.snap a c Λ.acc Λ.cur Λ.doubt es hE.n)) (by (repeat' constructor)) ?nx45
   rw [hE.lastF]
   refine D.gqw [13, 14, 15, 16, 17, 18, 19, 20, 21, 22, 23, 24, 25, 26, 27, 28, 29, 30, 31, 32, 33, 34, 35, 36, 37, 38, 39, 40, 41, 42, 43, 44, 45, 46, 47, 48, 49, 50, 51, 52, 53, 54, 55, 56, 57, 58, 59, 60, 61, 62, 63, 64, 65, 66, 67, 68, 69, 70, 71, 72, 73, 74, 75, 76, 77, 78] (t := 43) rfl rfl rfl (by kernel_rfl) (Quiet.as (v' := .bool true) (by simp) (Quiet.int rfl rfl rfl)) ?_
   refine D.kw [14, 15, 16, 17, 18, 19, 20, 21, 22, 23, 24, 25, 26, 27, 28, 29, 30, 31, 32, 33, 34, 35, 36, 37, 38, 39, 40, 41, 42, 43, 44, 45, 46, 47, 48, 49, 50, 51, 52, 53, 54, 55, 56, 57, 58, 59, 60, 61, 62, 63, 64, 65, 66, 67, 68, 69, 70, 71, 72, 73, 74, 75, 76, 77, 78] rfl (Quiet.pickT rfl rfl) ?_
   refine D.kw [15, 16, 17, 18, 19, 20, 21, 22, 23, 24, 25, 26, 27, 28, 29, 30, 31, 32, 33, 34, 35, 36, 37, 38, 39, 40, 41, 42, 43, 44, 45, 46, 47, 48, 49, 50, 51, 52, 53, 54, 55, 56, 57, 58, 59, 60, 61, 62, 63, 64, 65, 66, 67, 68, 69, 70, 71, 72, 73, 74, 75, 76, 77, 78] rfl (Quiet.move rfl) ?_
   refine D.gqw [16, 17, 18, 19, 27, 28, 29, 30, 31, 32, 33, 34, 35, 36, 37, 38, 39, 40, 41, 42, 43, 44, 45, 46, 47, 48, 49, 50, 51, 52, 53, 54, 55, 56, 57, 58, 59, 60, 61, 62, 63, 64, 65, 66, 67, 68, 69, 70, 71, 72, 73, 74, 75, 76, 77, 78] (t := 56) rfl rfl rfl (by kernel_rfl) (Quiet.move rfl) ?_
   refine D.gqw [17, 18, 19, 27, 28, 29, 30, 31, 32, 33, 34, 35, 36, 37, 38, 39, 40, 41, 42, 43, 44, 45, 46, 47, 48, 49, 50, 51, 52, 53, 54, 55, 56, 57, 58, 59, 60, 61, 62, 63, 64, 65, 66, 67, 68, 69, 70, 71, 72, 73, 74, 75, 76, 77, 78] (t := 56) rfl rfl rfl (by kernel_rfl) (Quiet.nilp rfl) ?_
   refine D.gqw [18, 19, 27, 28, 29, 30, 31, 32, 33, 34, 35, 36, 37, 38, 39, 40, 41, 42, 43, 44, 45, 46, 47, 48, 49, 50, 51, 52, 53, 54, 55, 56, 57, 58, 59, 60, 61, 62, 63, 64, 65, 66, 67, 68, 69, 70, 71, 72, 73, 74, 75, 76, 77, 78] (t := 56) rfl rfl rfl (by kernel_rfl) (Quiet.fieldAddr rfl fo_62_1) ?_
   refine D.gqw [19, 27, 28, 29, 30, 31, 32, 33, 34, 35, 36, 37, 38, 39, 40, 41, 42, 43, 44, 45, 46, 47, 48, 49, 50, 51, 52, 53, 54, 55, 56, 57, 58, 59, 60, 61, 62, 63, 64, 65, 66, 67, 68, 69, 70, 71, 72, 73, 74, 75, 76, 77, 78] (t := 56) rfl rfl rfl (by kernel_rfl) (Quiet.ld rfl ag_28) ?_
   refine D.gm (t := 56) rfl rfl rfl (by kernel_rfl) (OpSpec.call Tryz.func81 rfl rfl (vs := [_]) rfl (lbase_spec g xg Λ)) (by (repeat' constructor)) ?nx52
   refine D.gqw [21, 22, 23, 24, 25, 26, 27, 28, 29, 30, 31, 32, 33, 34, 35, 36, 37, 38, 39, 40, 41, 42, 43, 44, 45, 46, 47, 48, 49, 50, 51, 52, 53, 54, 55, 56, 57, 58, 59, 60, 61, 62, 63, 64, 65, 66, 67, 68, 69, 70, 71, 72, 73, 74, 75, 76, 77, 78] (t := 56) rfl rfl rfl (by kernel_rfl) (Quiet.move rfl) ?_
   refine D.gqw [22, 23, 24, 25, 26, 27, 28, 29, 30, 31, 32, 33, 34, 35, 36, 37, 38, 39, 40, 41, 42, 43, 44, 45, 46, 47, 48, 49, 50, 51, 52, 53, 54, 55, 56, 57, 58, 59, 60, 61, 62, 63, 64, 65, 66, 67, 68, 69, 70, 71, 72, 73, 74, 75, 76, 77, 78] (t := 56) rfl rfl rfl (by kernel_rfl) (Quiet.nilp rfl) ?_
   refine D.gqw [23, 24, 25, 26, 27, 28, 29, 30, 31, 32, 33, 34, 35, 36, 37, 38, 39, 40, 41, 42, 43, 44, 45, 46, 47, 48, 49, 50, 51, 52, 53, 54, 55, 56, 57, 58, 59, 60, 61, 62, 63, 64, 65, 66, 67, 68, 69, 70, 71, 72, 73, 74, 75, 76, 77, 78] (t := 56) rfl rfl rfl (by kernel_rfl) (Quiet.fieldAddr rfl fo_62_3) ?_
   refine D.gqw [24, 25, 26, 27, 28, 29, 30, 31, 32, 33, 34, 35, 36, 37, 38, 39, 40, 41, 42, 43, 44, 45, 46, 47, 48, 49, 50, 51, 52, 53, 54, 55, 56, 57, 58, 59, 60, 61, 62, 63, 64, 65, 66, 67, 68, 69, 70, 71, 72, 73, 74, 75, 76, 77, 78] (t := 56) rfl rfl rfl (by kernel_rfl) (Quiet.ld rfl ag_60) ?_
   refine D.gqw [25, 26, 27, 28, 29, 30, 31, 32, 33, 34, 35, 36, 37, 38, 39, 40, 41, 42, 43, 44, 45, 46, 47, 48, 49, 50, 51, 52, 53, 54, 55, 56, 57, 58, 59, 60, 61, 62, 63, 64, 65, 66, 67, 68, 69, 70, 71, 72, 73, 74, 75, 76, 77, 78] (t := 56) rfl rfl rfl (by kernel_rfl) (Quiet.nilp rfl) ?_
   refine D.gqw [26, 27, 28, 29, 30, 31, 32, 33, 34, 35, 36, 37, 38, 39, 40, 41, 42, 43, 44, 45, 46, 47, 48, 49, 50, 51, 52, 53, 54, 55, 56, 57, 58, 59, 60, 61, 62, 63, 64, 65, 66, 67, 68, 69, 70, 71, 72, 73, 74, 75, 76, 77, 78] (t := 56) rfl rfl rfl (by kernel_rfl) (Quiet.fieldAddr rfl fo_129_1) ?_
   refine D.gqw [27, 28, 29, 30, 31, 32, 33, 34, 35, 36, 37, 38, 39, 40, 41, 42, 43, 44, 45, 46, 47, 48, 49, 50, 51, 52, 53, 54, 55, 56, 57, 58, 59, 60, 61, 62, 63, 64, 65, 66, 67, 68, 69, 70, 71, 72, 73, 74, 75, 76, 77, 78] (t := 56) rfl rfl rfl (by kernel_rfl) (Quiet.ld rfl ag_3) ?_
   refine D.gqw [28, 29, 30, 31, 32, 33, 34, 35, 36, 37, 38, 39, 40, 41, 42, 43, 44, 45, 46, 47, 48, 49, 50, 51, 52, 53, 54, 55, 56, 57, 58, 59, 60, 61, 62, 63, 64, 65, 66, 67, 68, 69, 70, 71, 72, 73, 74, 75, 76, 77, 78] (t := 56) rfl rfl rfl (by kernel_rfl) (Quiet.as (v' := .bool true) (by simp) (Quiet.int rfl rfl rfl)) ?_
   refine D.kw [29, 30, 31, 32, 33, 34, 35, 36, 37, 38, 39, 40, 41, 42, 43, 44, 45, 46, 47, 48, 49, 50, 51, 52, 53, 54, 55, 56, 57, 58, 59, 60, 61, 62, 63, 64, 65, 66, 67, 68, 69, 70, 71, 72, 73, 74, 75, 76, 77, 78] rfl (Quiet.pickT rfl rfl) ?_
   refine D.kw [30, 31, 32, 33, 34, 35, 36, 37, 38, 39, 40, 41, 42, 43, 44, 45, 46, 47, 48, 49, 50, 51, 52, 53, 54, 55, 56, 57, 58, 59, 60, 61, 62, 63, 64, 65, 66, 67, 68, 69, 70, 71, 72, 73, 74, 75, 76, 77, 78] rfl (Quiet.move rfl) ?_
   refine D.gqw [31, 32, 33, 34, 42, 43, 44, 45, 46, 47, 48, 49, 50, 51, 52, 53, 54, 55, 56, 57, 58, 59, 60, 61, 62, 63, 64, 65, 66, 67, 68, 69, 70, 71, 72, 73, 74, 75, 76, 77, 78] (t := 71) rfl rfl rfl (by kernel_rfl) (Quiet.move rfl) ?_
   refine D.gqw [32, 33, 34, 42, 43, 44, 45, 46, 47, 48, 49, 50, 51, 52, 53, 54, 55, 56, 57, 58, 59, 60, 61, 62, 63, 64, 65, 66, 67, 68, 69, 70, 71, 72, 73, 74, 75, 76, 77, 78] (t := 71) rfl rfl rfl (by kernel_rfl) (Quiet.nilp rfl) ?_
   refine D.gqw [33, 34, 42, 43, 44, 45, 46, 47, 48, 49, 50, 51, 52, 53, 54, 55, 56, 57, 58, 59, 60, 61, 62, 63, 64, 65, 66, 67, 68, 69, 70, 71, 72, 73, 74, 75, 76, 77, 78] (t := 71) rfl rfl rfl (by kernel_rfl) (Quiet.fieldAddr rfl fo_62_1) ?_
   refine D.gqw [34, 42, 43, 44, 45, 46, 47, 48, 49, 50, 51, 52, 53, 54, 55, 56, 57, 58, 59, 60, 61, 62, 63, 64, 65, 66, 67, 68, 69, 70, 71, 72, 73, 74, 75, 76, 77, 78] (t := 71) rfl rfl rfl (by kernel_rfl) (Quiet.ld rfl ag_28) ?_
   refine D.gm (t := 71) rfl rfl rfl (by kernel_rfl) (OpSpec.call Tryz.func82 rfl rfl (vs := [_]) rfl (lsnap_spec g xg Λ)) (by (repeat' constructor)) ?nx66
   refine D.gqw [36, 37, 38, 39, 40, 41, 42, 43, 44, 45, 46, 47, 48, 49, 50, 51, 52, 53, 54, 55, 56, 57, 58, 59, 60, 61, 62, 63, 64, 65, 66, 67, 68, 69, 70, 71, 72, 73, 74, 75, 76, 77, 78] (t := 71) rfl rfl rfl (by kernel_rfl) (Quiet.move rfl) ?_
   refine D.gqw [37, 38, 39, 40, 41, 42, 43, 44, 45, 46, 47, 48, 49, 50, 51, 52, 53, 54, 55, 56, 57, 58, 59, 60, 61, 62, 63, 64, 65, 66, 67, 68, 69, 70, 71, 72, 73, 74, 75, 76, 77, 78] (t := 71) rfl rfl rfl (by kernel_rfl) (Quiet.nilp rfl) ?_
   refine D.gqw [38, 39, 40, 41, 42, 43, 44, 45, 46, 47, 48, 49, 50, 51, 52, 53, 54, 55, 56, 57, 58, 59, 60, 61, 62, 63, 64, 65, 66, 67, 68, 69, 70, 71, 72, 73, 74, 75, 76, 77, 78] (t := 71) rfl rfl rfl (by kernel_rfl) (Quiet.fieldAddr rfl fo_62_3) ?_
   refine D.gqw [39, 40, 41, 42, 43, 44, 45, 46, 47, 48, 49, 50, 51, 52, 53, 54, 55, 56, 57, 58, 59, 60, 61, 62, 63, 64, 65, 66, 67, 68, 69, 70, 71, 72, 73, 74, 75, 76, 77, 78] (t := 71) rfl rfl rfl (by kernel_rfl) (Quiet.ld rfl ag_60) ?_
   refine D.gqw [40, 41, 42, 43, 44, 45, 46, 47, 48, 49, 50, 51, 52, 53, 54, 55, 56, 57, 58, 59, 60, 61, 62, 63, 64, 65, 66, 67, 68, 69, 70, 71, 72, 73, 74, 75, 76, 77, 78] (t := 71) rfl rfl rfl (by kernel_rfl) (Quiet.nilp rfl) ?_
   refine D.gqw [41, 42, 43, 44, 45, 46, 47, 48, 49, 50, 51, 52, 53, 54, 55, 56, 57, 58, 59, 60, 61, 62, 63, 64, 65, 66, 67, 68, 69, 70, 71, 72, 73, 74, 75, 76, 77, 78] (t := 71) rfl rfl rfl (by kernel_rfl) (Quiet.fieldAddr rfl fo_129_2) ?_
   refine D.gqw [42, 43, 44, 45, 46, 47, 48, 49, 50, 51, 52, 53, 54, 55, 56, 57, 58, 59, 60, 61, 62, 63, 64, 65, 66, 67, 68, 69, 70, 71, 72, 73, 74, 75, 76, 77, 78] (t := 71) rfl rfl rfl (by kernel_rfl) (Quiet.ld rfl ag_9) ?_
   refine D.gqw [43, 44, 45, 46, 47, 48, 49, 50, 51, 52, 53, 54, 55, 56, 57, 58, 59, 60, 61, 62, 63, 64, 65, 66, 67, 68, 69, 70, 71, 72, 73, 74, 75, 76, 77, 78] (t := 71) rfl rfl rfl (by kernel_rfl) (Quiet.as (v' := .bool true) (by simp) (Quiet.streq rfl rfl)) ?_
   refine D.kw [44, 45, 46, 47, 48, 49, 50, 51, 52, 53, 54, 55, 56, 57, 58, 59, 60, 61, 62, 63, 64, 65, 66, 67, 68, 69, 70, 71, 72, 73, 74, 75, 76, 77, 78] rfl (Quiet.pickT rfl rfl) ?_
   refine D.kw [45, 46, 47, 48, 49, 50, 51, 52, 53, 54, 55, 56, 57, 58, 59, 60, 61, 62, 63, 64, 65, 66, 67, 68, 69, 70, 71, 72, 73, 74, 75, 76, 77, 78] rfl (Quiet.move rfl) ?_
   refine D.gqw [46, 47, 48, 49, 50, 51, 59, 60, 61, 62, 63, 64, 65, 66, 67, 68, 69, 70, 71, 72, 73, 74, 75, 76, 77, 78] (t := 86) rfl rfl rfl (by kernel_rfl) (Quiet.move rfl) ?_
   refine D.gqw [47, 48, 49, 50, 51, 59, 60, 61, 62, 63, 64, 65, 66, 67, 68, 69, 70, 71, 72, 73, 74, 75, 76, 77, 78] (t := 86) rfl rfl rfl (by kernel_rfl) (Quiet.nilp rfl) ?_
   refine D.gqw [48, 49, 50, 51, 59, 60, 61, 62, 63, 64, 65, 66, 67, 68, 69, 70, 71, 72, 73, 74, 75, 76, 77, 78] (t := 86) rfl rfl rfl (by kernel_rfl) (Quiet.fieldAddr rfl fo_62_1) ?_
   refine D.gqw [49, 50, 51, 59, 60, 61, 62, 63, 64, 65, 66, 67, 68, 69, 70, 71, 72, 73, 74, 75, 76, 77, 78] (t := 86) rfl rfl rfl (by kernel_rfl) (Quiet.ld rfl ag_28) ?_
   refine D.gqw [50, 51, 59, 60, 61, 62, 63, 64, 65, 66, 67, 68, 69, 70, 71, 72, 73, 74, 75, 76, 77, 78] (t := 86) rfl rfl rfl (by kernel_rfl) (Quiet.nilp rfl) ?_
   refine D.gqw [51, 59, 60, 61, 62, 63, 64, 65, 66, 67, 68, 69, 70, 71, 72, 73, 74, 75, 76, 77, 78] (t := 86) rfl rfl rfl (by kernel_rfl) (Quiet.fieldAddr rfl fo_79_0) ?_
   refine D.gm (t := 86) rfl rfl rfl (by kernel_rfl) (OpSpec.call Tryz.func33 rfl rfl (vs := [_]) rfl (lacc_spec g xg Λ)) (by (repeat' constructor)) ?nx82
   refine D.gqw [53, 54, 55, 56, 57, 58, 59, 60, 61, 62, 63, 64, 65, 66, 67, 68, 69, 70, 71, 72, 73, 74, 75, 76, 77, 78] (t := 86) rfl rfl rfl (by kernel_rfl) (Quiet.move rfl) ?_
   refine D.gqw [54, 55, 56, 57, 58, 59, 60, 61, 62, 63, 64, 65, 66, 67, 68, 69, 70, 71, 72, 73, 74, 75, 76, 77, 78] (t := 86) rfl rfl rfl (by kernel_rfl) (Quiet.nilp rfl) ?_
   refine D.gqw [55, 56, 57, 58, 59, 60, 61, 62, 63, 64, 65, 66, 67, 68, 69, 70, 71, 72, 73, 74, 75, 76, 77, 78] (t := 86) rfl rfl rfl (by kernel_rfl) (Quiet.fieldAddr rfl fo_62_3) ?_
   refine D.gqw [56, 57, 58, 59, 60, 61, 62, 63, 64, 65, 66, 67, 68, 69, 70, 71, 72, 73, 74, 75, 76, 77, 78] (t := 86) rfl rfl rfl (by kernel_rfl) (Quiet.ld rfl ag_60) ?_
   refine D.gqw [57, 58, 59, 60, 61, 62, 63, 64, 65, 66, 67, 68, 69, 70, 71, 72, 73, 74, 75, 76, 77, 78] (t := 86) rfl rfl rfl (by kernel_rfl) (Quiet.nilp rfl) ?_
   refine D.gqw [58, 59, 60, 61, 62, 63, 64, 65, 66, 67, 68, 69, 70, 71, 72, 73, 74, 75, 76, 77, 78] (t := 86) rfl rfl rfl (by kernel_rfl) (Quiet.fieldAddr rfl fo_129_4) ?_
   refine D.gqw [59, 60, 61, 62, 63, 64, 65, 66, 67, 68, 69, 70, 71, 72, 73, 74, 75, 76, 77, 78] (t := 86) rfl rfl rfl (by kernel_rfl) (Quiet.ld rfl ag_3) ?_
   refine D.gqw [60, 61, 62, 63, 64, 65, 66, 67, 68, 69, 70, 71, 72, 73, 74, 75, 76, 77, 78] (t := 86) rfl rfl rfl (by kernel_rfl) (Quiet.as (v' := .bool true) (by simp) (Quiet.int rfl rfl rfl)) ?_
   refine D.kw [61, 62, 63, 64, 65, 66, 67, 68, 69, 70, 71, 72, 73, 74, 75, 76, 77, 78] rfl (Quiet.pickT rfl rfl) ?_
   refine D.kw [62, 63, 64, 65, 66, 67, 68, 69, 70, 71, 72, 73, 74, 75, 76, 77, 78] rfl (Quiet.move rfl) ?_
   refine D.gqw [63, 64, 65, 66, 67, 68, 76, 77, 78] (t := 103) rfl rfl rfl (by kernel_rfl) (Quiet.move rfl) ?_
   refine D.gqw [64, 65, 66, 67, 68, 76, 77, 78] (t := 103) rfl rfl rfl (by kernel_rfl) (Quiet.nilp rfl) ?_
   refine D.gqw [65, 66, 67, 68, 76, 77, 78] (t := 103) rfl rfl rfl (by kernel_rfl) (Quiet.fieldAddr rfl fo_62_1) ?_
   refine D.gqw [66, 67, 68, 76, 77, 78] (t := 103) rfl rfl rfl (by kernel_rfl) (Quiet.ld rfl ag_28) ?_
   refine D.gqw [67, 68, 76, 77, 78] (t := 103) rfl rfl rfl (by kernel_rfl) (Quiet.nilp rfl) ?_
   refine D.gqw [68, 76, 77, 78] (t := 103) rfl rfl rfl (by kernel_rfl) (Quiet.fieldAddr rfl fo_79_0) ?_
   refine D.gm (t := 103) rfl rfl rfl (by kernel_rfl) (OpSpec.call Tryz.func34 rfl rfl (vs := [_]) rfl (lcur_spec g xg Λ)) (by (repeat' constructor)) ?nx98
   refine D.gqw [70, 71, 72, 73, 74, 75, 76, 77, 78] (t := 103) rfl rfl rfl (by kernel_rfl) (Quiet.move rfl) ?_
   refine D.gqw [71, 72, 73, 74, 75, 76, 77, 78] (t := 103) rfl rfl rfl (by kernel_rfl) (Quiet.nilp rfl) ?_
   refine D.gqw [72, 73, 74, 75, 76, 77, 78] (t := 103) rfl rfl rfl (by kernel_rfl) (Quiet.fieldAddr rfl fo_62_3) ?_
   refine D.gqw [73, 74, 75, 76, 77, 78] (t := 103) rfl rfl rfl (by kernel_rfl) (Quiet.ld rfl ag_60) ?_
   refine D.gqw [74, 75, 76, 77, 78] (t := 103) rfl rfl rfl (by kernel_rfl) (Quiet.nilp rfl) ?_
   refine D.gqw [75, 76, 77, 78] (t := 103) rfl rfl rfl (by kernel_rfl) (Quiet.fieldAddr rfl fo_129_5) ?_
   refine D.gqw [76, 77, 78] (t := 103) rfl rfl rfl (by kernel_rfl) (Quiet.ld rfl ag_3) ?_
   refine D.gqw [77, 78] (t := 103) rfl rfl rfl (by kernel_rfl) (Quiet.as (v' := .bool true) (by simp) (Quiet.int rfl rfl rfl)) ?_
   refine D.kw [78] rfl (Quiet.pickT rfl rfl) ?_
   refine D.kw [] rfl (Quiet.assign rfl) ?_
   refine D.ph (Phases.fin (G.then_n (G.ret (G.blk_r (G.then_r ?_)))))
   refine G.rgFold (y := y) (w := w) Λ a c es (by (repeat' constructor)) hE rfl rfl rfl rfl ?_
   exact G.dn (l := [.tmp 4]) rfl rfl ⟨rfl, rfl⟩
 ·refine G.seq (G.region (G.q (Quiet.int rfl rfl rfl) rfl (G.ag rfl rfl (G.nil (G.then_n ?_)))))
  refine G.condD rfl (fun h120 => ?_) (fun h120 => ?_)
  ·refine G.seq ?_
   refine G.draw [6] [[0, 1, 2, 3, 4, 5, 6], [7, 8, 9, 10, 11]] mixed (by kernel_rfl) ?_
   refine Phases.go [] (by (repeat' constructor)) ?_
   refine D.kw [1, 2, 3, 6] rfl (Quiet.move rfl) ?_
   refine D.kw [2, 3, 6] rfl (Quiet.nilp rfl) ?_
   refine D.kw [3, 6] rfl (Quiet.fieldAddr rfl fo_62_1) ?_
   refine D.kw [6] rfl (Quiet.ld rfl ag_28) ?_
   refine D.kw [5, 6] rfl (Quiet.fieldAddr rfl fo_73_1) ?_
   refine D.kw [6] rfl (Quiet.ld rfl ag_3) ?_
   refine D.h rfl (by kernel_rfl) (OpSpec.call Tryz.func16 rfl rfl (vs := [_, _]) rfl (lent2_spec g xg Λ o.n hW)) (by (repeat' constructor)) ?nx115
   rintro v L' ⟨e1, a1, c1, hb1, hn1, hk1, rfl, rfl⟩
   refine D.ph ?_
   refine Phases.go [] (by (repeat' constructor)) ?_
   refine D.kw [8, 9, 10, 11] rfl (Quiet.move rfl) ?_
   refine D.kw [10, 11] rfl (Quiet.extract rfl rfl) ?_
   refine D.kw [11] rfl (Quiet.extract rfl rfl) ?_
   refine D.kw [11] rfl (Quiet.assign rfl) ?_
   refine D.kw [] rfl (Quiet.assign rfl) ?_
   refine D.ph (Phases.fin (G.then_n (G.seq ?_)))
   refine G.draw [6] [[0, 1, 2, 3, 4, 5, 6], [7, 8, 9, 10, 11]] mixed (by kernel_rfl) ?_
   refine Phases.go [] (by (repeat' constructor)) ?_
   refine D.kw [1, 2, 3, 6] rfl (Quiet.move rfl) ?_
   refine D.kw [2, 3, 6] rfl (Quiet.nilp rfl) ?_
   refine D.kw [3, 6] rfl (Quiet.fieldAddr rfl fo_62_1) ?_
   refine D.kw [6] rfl (Quiet.ld rfl ag_28) ?_
   refine D.kw [5, 6] rfl (Quiet.fieldAddr rfl fo_73_1) ?_
   refine D.kw [6] rfl (Quiet.ld rfl ag_3) ?_
   refine D.h rfl (by kernel_rfl) (OpSpec.call Tryz.func16 rfl rfl (vs := [_, _]) rfl (lent2_spec g xg Λ o.n hW)) (by (repeat' constructor)) ?nx125
   rintro v L' ⟨e2, a3, c3, hb2, hn2, hk2, rfl, rfl⟩
   refine D.ph ?_
   refine Phases.go [] (by (repeat' constructor)) ?_
   refine D.kw [8, 9, 10, 11] rfl (Quiet.move rfl) ?_
   refine D.kw [10, 11] rfl (Quiet.extract rfl rfl) ?_
   refine D.kw [11] rfl (Quiet.extract rfl rfl) ?_
   refine D.kw [11] rfl (Quiet.assign rfl) ?_
   refine D.kw [] rfl (Quiet.assign rfl) ?_
   refine D.ph (Phases.fin (G.then_n (G.seq ?_)))
   refine G.rgOpen (y := y) (by (repeat' constructor)) fun a c es hE => ?_
   refine G.draw [6] [[0, 1, 2, 3, 4, 5, 6], [7, 8, 9, 10, 11]] mixed (by kernel_rfl) ?_
   refine Phases.go [] (by (repeat' constructor)) ?_
   refine D.kw [1, 2, 3, 6] rfl (Quiet.move rfl) ?_
   refine D.kw [2, 3, 6] rfl (Quiet.nilp rfl) ?_
   refine D.kw [3, 6] rfl (Quiet.fieldAddr rfl fo_62_3) ?_
   refine D.kw [6] rfl (Quiet.ld rfl ag_60) ?_
   refine D.kw [5, 6] rfl (Quiet.fieldAddr rfl fo_73_1) ?_
   refine D.kw [6] rfl (Quiet.ld rfl ag_3) ?_
   refine D.h rfl (by kernel_rfl) (OpSpec.call Tryz.func131 rfl rfl (vs := [_, _]) rfl (r9ent2_spec y w Λ a c es o.n hE)) (by (repeat' constructor)) ?nx135
   rintro v L' ⟨fs, a2, c2, hfs, hmem, hfn, rfl, rfl⟩
   refine D.ph ?_
   refine Phases.go [] (by (repeat' constructor)) ?_
   refine D.kw [8, 9, 10, 11] rfl (Quiet.move rfl) ?_
   refine D.kw [10, 11] rfl (Quiet.extract rfl rfl) ?_
   refine D.kw [11] rfl (Quiet.extract rfl rfl) ?_
   refine D.kw [11] rfl (Quiet.assign rfl) ?_
   refine D.kw [] rfl (Quiet.assign rfl) ?_
   refine D.ph (Phases.fin (G.then_n (G.seq (G.region (G.mv rfl rfl (G.mv rfl rfl ?_))))))
   refine G.oq (OpSpec.call Tryz.func30 rfl rfl (vs := [_, _]) rfl (same9_spec _ _ e1 fs (es9 (.slice a1 e1.length c1) e1) (bigR entR e1) (es9 (.slice a2 fs.length c2) fs) (bigR entR es) (fun h hp => slR_rd hp) (fun e he => entL he (hk1 e he).1 (hk1 e he).2) (fun h hp => slR_rd hp) (fun e he => entL (hmem e he) (hE.k e (hmem e he)).1 (hE.k e (hmem e he)).2) (by omega) (by omega))) ?nx139
   rintro v L' ⟨rfl, rfl⟩; rw [decide_eq_true (hb1.trans hfs.symm)]
   refine G.ag rfl rfl (G.nil (G.then_n (G.seq (G.seq (G.region (G.ag rfl rfl (G.nil (G.then_n (G.block ?_)))))))))
   have hsl : (e1.flatMap enC).length = e1.length * 11 := flatMap_len (sz := 11) (fun _ _ => rfl)
   rw [show bigR entR e1 = bigR entR (e1.drop 0) from rfl]
   refine G.loopK (ι := Nat × (List Value)) (fun q E => (15, vint q.1) :: E) (fun q => [slR 38 11 (.slice a1 e1.length c1) e1.length q.2, bigR entR (e1.drop q.1)]) (fun q => q.1 ≤ e1.length ∧ q.2.length = e1.length * 11 ∧ ∀ k (hk : k < e1.length), q.1 ≤ k → ((q.2.drop (k * 11)).take 11) = enC e1[k]) (fun q => e1.length - q.1) (0, e1.flatMap enC) (ts := [4, 8, 9, 10, 11, 12, 13, 14]) (.cons rfl (.cons rfl (.cons rfl (.cons rfl (.cons rfl (.cons rfl (.cons rfl (.cons rfl (.nil))))))))) (⟨Nat.zero_le _, hsl, fun k hk _ => flatMap_at (f := enC) (sz := 11) (fun _ _ => rfl) hk⟩) ⟨rfl, rfl, rfl, rfl, rfl, rfl, rfl, rfl, rfl, trivial⟩ (by (repeat' constructor)) ?_
   rintro ⟨i, zs⟩ ⟨hi, hzl, hzk⟩
   dsimp only
   dsimp only at hi hzl hzk
   refine G.seq (G.seq (G.region (G.mv rfl rfl (G.mv rfl rfl (G.q (Quiet.slen rfl Tryz.underlying22 rfl) rfl (G.q (Quiet.int rfl rfl rfl) rfl (G.nil (G.then_n ?_))))))))
   refine G.condD rfl (fun h158 => ?_) (fun h158 => ?_)
   ·have hi2 : i < e1.length := by omega
    refine G.slShape (T := 38) (sz := 11) (v := .slice a1 e1.length c1) (xs := zs) (by (repeat' constructor)) (by omega) fun bo bo' e0 mbo _ => ?_
    simp only [Value.slice.injEq, true_and] at e0
    obtain ⟨rfl, rfl⟩ := e0
    refine G.bigHead (f := entR) (x := e1[i]) (l := e1.drop (i + 1)) (List.drop_eq_getElem_cons hi2) (by (repeat' constructor)) ?_
    refine G.skip (G.then_n (G.seq (G.block (G.seq (G.region (G.mv rfl rfl (G.mv rfl rfl ?_)))))))
    refine G.q (Quiet.indexAddr rfl rfl el_22 (by omega)) rfl ?_
    refine G.q (Quiet.loadRdA (sz := 11) (j := i * 11) (k := 11) (p := slR 38 11 (.slice (some ⟨bo, 0, none⟩) e1.length c1) e1.length zs) (vs := enC e1[i]) rfl ag_38 (by (repeat' constructor)) (fun h hp => slR_rd hp) (by simp) (by omega) (by omega) (hzk i hi2 (Nat.le_refl _))) rfl ?_
    refine G.oq (OpSpec.call Tryz.func132 rfl rfl (vs := [_]) rfl (over9_spec e1[i] (hk1 _ (List.getElem_mem hi2)).2)) ?nx150
    rintro v L' ⟨rfl, rfl⟩
    refine G.nil (G.then_n (G.region (G.mv rfl rfl (G.mv rfl rfl ?_))))
    refine G.q (Quiet.to (v' := .agg (enC (⟨-1, 0, 0, pt0, []⟩ : En)).toArray) (Quiet.buildN (pl := [(0, 1), (1, 1), (2, 1), (3, 8)]) (us := [(0, _)]) (cells := enC (⟨-1, 0, 0, pt0, []⟩ : En)) Tryz.underlying38 (by kernel_rfl) ze_38 rfl rfl) rfl) rfl ?_
    refine G.q (Quiet.indexAddr rfl rfl el_22 (by omega)) rfl ?_
    refine G.oq (OpSpec.storeRdA (sz := 11) (j := i * 11) (k := 11) (vs := enC (⟨-1, 0, 0, pt0, []⟩ : En)) rfl rfl (by decide) sz_38 rfl ?ho156 ?hi157) ?nx158
    case ho156 => omega
    case hi157 => omega
    rintro v L' rfl
    refine G.nil (G.blk_n (G.then_n (G.region (G.mv rfl rfl ?_))))
    refine G.q (Quiet.add rfl rfl (by omega)) rfl ?_
    refine G.ag rfl rfl (G.nil (G.then_n ?_))
    exact G.roundK ((i + 1, spl zs (i * 11) (enC (⟨-1, 0, 0, pt0, []⟩ : En)))) (⟨by dsimp only; omega, by dsimp only; rw [spl_length (by show i * 11 + 11 ≤ _; omega)]; exact hzl, fun k hk hik => by dsimp only; rw [spl_drop' (by show i * 11 + 11 ≤ _; omega) (by show i * 11 + 11 ≤ k * 11; dsimp only at hik; omega)]; exact hzk k hk (by dsimp only at hik; omega)⟩) (by dsimp only; omega) ⟨rfl, rfl, rfl, rfl, rfl, rfl, rfl, rfl, rfl, trivial⟩ (by (repeat' constructor)) (by ((repeat (apply Have.cons; (repeat (first | exact Pick.here | apply Pick.there)))); apply Have.base; repeat' constructor))
   ·refine G.exit (G.then_e (G.then_e (G.blk_e (G.then_n (G.seq (G.region (G.mv rfl rfl (G.mv rfl rfl ?_))))))))
    refine G.oq (OpSpec.call Tryz.func30 rfl rfl (vs := [_, _]) rfl (same9_spec _ _ e2 fs (es9 (.slice a3 e2.length c3) e2) (bigR entR e2) (es9 (.slice a2 fs.length c2) fs) (bigR entR es) (fun h hp => slR_rd hp) (fun e he => entL he (hk2 e he).1 (hk2 e he).2) (fun h hp => slR_rd hp) (fun e he => entL (hmem e he) (hE.k e (hmem e he)).1 (hE.k e (hmem e he)).2) (by omega) (by omega))) ?nx163
    rintro v L' ⟨rfl, rfl⟩; rw [decide_eq_true (hb2.trans hfs.symm)]
    refine G.ag rfl rfl (G.nil (G.then_n (G.seq (G.region (G.mv rfl rfl (G.mv rfl rfl (G.grun (t := 174) rfl rfl rfl (G.mv rfl rfl (G.q (Quiet.pickT rfl rfl) rfl (G.mv rfl rfl (G.grun (t := 177) rfl rfl rfl (G.mv rfl rfl (G.grun (t := 177) rfl rfl rfl (G.mv rfl rfl (G.grun (t := 177) rfl rfl rfl ?_)))))))))))))))
    refine G.q (Quiet.as (v' := .bool true) (by simp) (Quiet.int rfl rfl rfl)) rfl ?_
    refine G.q (Quiet.pickT rfl rfl) rfl (G.mv rfl rfl (G.grun (t := 182) rfl rfl rfl (G.mv rfl rfl (G.grun (t := 182) rfl rfl rfl (G.mv rfl rfl (G.grun (t := 182) rfl rfl rfl ?_))))))
    refine G.q (Quiet.as (v' := .bool true) (by simp) (Quiet.int rfl rfl rfl)) rfl ?_
    refine G.q (Quiet.pickT rfl rfl) rfl (G.ag rfl rfl (G.nil (G.then_n (G.ret (G.blk_r (G.then_r ?_))))))
    refine G.rgFold (y := y) (w := w) Λ a c es (by (repeat' constructor)) hE rfl rfl rfl rfl ?_
    exact G.dn (l := [.tmp 4]) rfl rfl ⟨rfl, rfl⟩
  ·refine G.skip (G.blk_n (G.then_n (G.seq (G.region (G.ag rfl rfl (G.nil (G.then_n (G.ret ?_))))))))
   exact G.dn (l := [.tmp 4]) rfl rfl ⟨rfl, rfl⟩

theorem fill_op (n : Int) : Instr.fill (fun i => [(0, 1), (1, 1), (2, 1), (3, 11), (14, 1), (15, 1), (16, 1)].toArray[i]?) ([.int .i64 0, .int .i64 0, .int .i64 0, .int .i64 0, .int .i64 0, .int .i64 0, .int .i64 0, .string (bs []), .string (bs []), .slice none 0 0, .int .i64 0, .int .i64 0, .int .i64 0, .slice none 0 0, .slice none 0 0, .string (bs []), .slice none 0 0] : List Value).toArray [(0, .int .i64 9), (1, vint n)] = some (op9K (⟨0, n, 0, en0, nilV, [], [], nilV, []⟩ : Op9) 9).toArray := by kernel_rfl
theorem whole9_spec (s d g xg x y w : Nat) (Λ : Lg) (hW : LgW Λ) : Fn Tryz.prog 25 #[vptr s] [ptc s [vptr d, vptr g, vptr x, vptr y] 62, lgR g xg Λ, rgR y w Λ] fun v L => v = .bool true ∧ L = [ptc s [vptr d, vptr g, vptr x, vptr y] 62, lgR g xg Λ, rgR y w Λ] := by
 refine Fn.intro (vs := [vptr s]) Tryz.func25 rfl rfl ?_
 intro F W
 have hbs := hW.base
 refine G.seq (G.region (G.ag rfl rfl (G.nil (G.then_n (G.seq (G.seq (G.region (G.mv rfl rfl (G.q (Quiet.nilp rfl) rfl (G.q (Quiet.fieldAddr rfl fo_62_1) rfl ?_))))))))))
 refine G.q (Quiet.ld rfl ag_28) rfl ?_
 refine G.q (Quiet.ptreq rfl rfl Tryz.underlying28) rfl (G.mv rfl rfl (G.grun (t := 11) rfl rfl rfl (G.mv rfl rfl (G.grun (t := 11) rfl rfl rfl (G.q (Quiet.nilp rfl) rfl (G.grun (t := 11) rfl rfl rfl (G.q (Quiet.fieldAddr rfl fo_62_3) rfl (G.grun (t := 11) rfl rfl rfl ?_))))))))
 refine G.q (Quiet.ld rfl ag_60) rfl ?_
 refine G.grun (t := 11) rfl rfl rfl (G.q (Quiet.ptreq rfl rfl Tryz.underlying60) rfl (G.q (Quiet.pickF rfl rfl) rfl (G.nil (G.then_n (G.condF rfl (G.skip (G.then_n (G.seq (G.region (G.mv rfl rfl ?_))))))))))
 refine G.q (Quiet.to (v' := .agg (op9K (⟨0, 0, 0, en0, nilV, [], [], nilV, []⟩ : Op9) 8).toArray) (Quiet.buildN (pl := [(0, 1), (1, 1), (2, 1), (3, 11), (14, 1), (15, 1), (16, 1)]) (us := [(0, _)]) (cells := op9K (⟨0, 0, 0, en0, nilV, [], [], nilV, []⟩ : Op9) 8) Tryz.underlying73 (by kernel_rfl) ze_73 rfl rfl) rfl) rfl ?_
 refine G.oq (OpSpec.call Tryz.func73 rfl rfl (vs := [_, _]) rfl (asks9_spec s d g xg x y w Λ hW (⟨0, 0, 0, en0, nilV, [], [], nilV, []⟩ : Op9) 8)) ?nx14
 rintro v L' ⟨rfl, rfl⟩
 refine G.ag rfl rfl (G.nil (G.then_n (G.seq ?_)))
 refine G.rgOpen (y := y) (by (repeat' constructor)) fun a c es hE => ?_
 refine G.region (G.mv rfl rfl (G.mv rfl rfl (G.q (Quiet.nilp rfl) rfl (G.q (Quiet.fieldAddr rfl fo_62_3) rfl ?_))))
 refine G.q (Quiet.ld rfl ag_60) rfl ?_
 refine G.q (Quiet.nilp rfl) rfl (G.q (Quiet.fieldAddr rfl fo_129_1) rfl ?_)
 refine G.q (Quiet.ld rfl ag_3) rfl ?_
 refine G.q (Quiet.to (v' := .agg (op9K (⟨0, Λ.base, 0, en0, nilV, [], [], nilV, []⟩ : Op9) 9).toArray) (Quiet.buildN (pl := [(0, 1), (1, 1), (2, 1), (3, 11), (14, 1), (15, 1), (16, 1)]) (us := [(0, _), (1, vint (Λ.base))]) (cells := op9K (⟨0, Λ.base, 0, en0, nilV, [], [], nilV, []⟩ : Op9) 9) Tryz.underlying73 (by kernel_rfl) ze_73 rfl (fill_op _)) rfl) rfl ?_
 refine G.rgFold (y := y) (w := w) Λ a c es (by (repeat' constructor)) hE rfl rfl rfl rfl ?_
 refine G.oq (OpSpec.call Tryz.func73 rfl rfl (vs := [_, _]) rfl (asks9_spec s d g xg x y w Λ hW (⟨0, Λ.base, 0, en0, nilV, [], [], nilV, []⟩ : Op9) 9)) ?nx25
 rintro v L' ⟨rfl, rfl⟩
 refine G.ag rfl rfl (G.nil (G.then_n (G.seq ?_)))
 refine G.rgOpen (y := y) (by (repeat' constructor)) fun a c es hE => ?_
 refine G.region (G.mv rfl rfl (G.mv rfl rfl (G.q (Quiet.nilp rfl) rfl (G.q (Quiet.fieldAddr rfl fo_62_3) rfl ?_))))
 refine G.q (Quiet.ld rfl ag_60) rfl ?_
 refine G.q (Quiet.nilp rfl) rfl (G.q (Quiet.fieldAddr rfl fo_129_1) rfl ?_)
 refine G.q (Quiet.ld rfl ag_3) rfl ?_
 refine G.q (Quiet.sub rfl rfl (by omega)) rfl ?_
 refine G.q (Quiet.to (v' := .agg (op9K (⟨0, Λ.base - 1, 0, en0, nilV, [], [], nilV, []⟩ : Op9) 9).toArray) (Quiet.buildN (pl := [(0, 1), (1, 1), (2, 1), (3, 11), (14, 1), (15, 1), (16, 1)]) (us := [(0, _), (1, vint (Λ.base - 1))]) (cells := op9K (⟨0, Λ.base - 1, 0, en0, nilV, [], [], nilV, []⟩ : Op9) 9) Tryz.underlying73 (by kernel_rfl) ze_73 rfl (fill_op _)) rfl) rfl ?_
 refine G.rgFold (y := y) (w := w) Λ a c es (by (repeat' constructor)) hE rfl rfl rfl rfl ?_
 refine G.oq (OpSpec.call Tryz.func73 rfl rfl (vs := [_, _]) rfl (asks9_spec s d g xg x y w Λ hW (⟨0, (Λ.base - 1), 0, en0, nilV, [], [], nilV, []⟩ : Op9) 9)) ?nx37
 rintro v L' ⟨rfl, rfl⟩
 refine G.ag rfl rfl (G.nil (G.then_n (G.seq (G.region (G.mv rfl rfl (G.mv rfl rfl (G.grun (t := 43) rfl rfl rfl (G.mv rfl rfl (G.q (Quiet.pickT rfl rfl) rfl (G.mv rfl rfl (G.grun (t := 46) rfl rfl rfl (G.mv rfl rfl (G.q (Quiet.pickT rfl rfl) rfl (G.ag rfl rfl (G.nil (G.then_n (G.ret ?_)))))))))))))))))
 exact G.dn (l := [.tmp 2]) rfl rfl ⟨rfl, rfl⟩

theorem wholeN_spec (s d x : Nat) : Fn Tryz.prog 25 #[vptr s] [ptc s [vptr d, .pointer none, vptr x, .pointer none] 62] fun v L => v = .bool true ∧ L = [ptc s [vptr d, .pointer none, vptr x, .pointer none] 62] := by
 refine Fn.intro (vs := [vptr s]) Tryz.func25 rfl rfl ?_
 intro F W
 refine G.seq (G.region (G.ag rfl rfl (G.nil (G.then_n (G.seq (G.seq (G.region (G.mv rfl rfl (G.q (Quiet.nilp rfl) rfl (G.q (Quiet.fieldAddr rfl fo_62_1) rfl ?_))))))))))
 refine G.q (Quiet.ld rfl ag_28) rfl ?_
 refine G.q (Quiet.ptreq rfl rfl Tryz.underlying28) rfl (G.mv rfl rfl (G.gskip (t := 11) rfl rfl rfl rfl (G.gskip (t := 11) rfl rfl rfl rfl (G.gskip (t := 11) rfl rfl rfl rfl (G.gskip (t := 11) rfl rfl rfl rfl (G.gskip (t := 11) rfl rfl rfl rfl (G.q (Quiet.pickT rfl rfl) rfl (G.nil (G.then_n (G.condT rfl (G.seq (G.region (G.ag rfl rfl (G.nil (G.then_n (G.ret (G.then_r ?_)))))))))))))))))
 exact G.dn (l := [.tmp 2]) rfl rfl ⟨rfl, rfl⟩

end Go.Proofs.YtidjhgbdokcphaaGreat

