/- Own work, some of it printed by program, texts that were built one by one and are laid one behind the other here: the document's reader of bytes in memory. | rows of ACLs, parts of transactions, entries, as plain data. | entries as bytes, and back: plain. | entries in memory. | package wire, entries: walked. | package wire: entries laid and read: walked. | a ledger as plain data, in memory, and what its calls do. | package ledger: walked. | package ledger: Append, Sync, Accept, Adopt: walked. | a ledger as plain data: read out of its records; Cut, Install, Compact, Entries; on a disk that lives. | package ledger: Format, parse, Open, Marks, Entries: walked. | a ledger on a disk that lives: all its calls. | the first example of law 09, reckoned. | the first example of law 09: walked. | LedgerMarks, plain: the marks of entries; entries behind a number. | the document's writer: numbers of 64 bits; cells of lists. -/
import Derived.Test.YtidjhgbdokcphaaGreatCLOpensP2
import Derived.Test.YtidjhgbdokcphaaGreatCLOpensP0
import Derived.Test.YtidjhgbdokcphaaGreatCLOpensP1
set_option linter.unusedSimpArgs false
set_option linter.unusedVariables false
set_option maxRecDepth 100000
/- Own work: the document's reader of bytes in memory. -/

namespace Go.Proofs.YtidjhgbdokcphaaGreat
open Go

def rfW (r : Nat) (s : Bs) (at' : Nat) (e : Int) : HP := fun h => ∃ _y : Unit, (at' ≤ s.length ∧ s.length ≤ 2147483648) ∧ sep [ptc r [vstr s, vint at', vint e] 208] h
def rfR (r : Nat) (st : Rs) : HP := fun h => ∃ y : Bs × (Nat × Int), stW y.1 y.2.1 y.2.2 = st ∧ sep [rfW r y.1 y.2.1 y.2.2] h
section
variable {P : Program} {W : World} {n : Nat} {ds : List Deferred} {E : Env} {L R : List HP} {X : Act → World → Prop}
theorem G.rfOpen {r : Nat} {s : Bs} {k : Nat} {e : Int} (hL : Pick (rfW r s k e) L R) (h : k ≤ s.length → s.length ≤ 2147483648 → G W n ds E (ptc r [vstr s, vint k, vint e] 208 :: R) X) : G W n ds E L X :=
  G.focus hL (G.open (q := fun _ : Unit => [ptc r [vstr s, vint k, vint e] 208]) (φ := fun _ => k ≤ s.length ∧ s.length ≤ 2147483648) (fun _ hp => hp) fun _ hy => h hy.1 hy.2)
theorem G.rfFold {r : Nat} (s : Bs) (k : Nat) (e : Int) {l : List Value} (hL : Picks [ptc r l 208] L R) (hl : l = [vstr s, vint k, vint e]) (hk : k ≤ s.length) (hs : s.length ≤ 2147483648) (h : G W n ds E (rfW r s k e :: R) X) : G W n ds E L X := by
  subst hl
  exact G.fold hL (fun _ hp => ⟨(), ⟨hk, hs⟩, hp⟩) h
theorem Fn.rfUp {f : FuncId} {args : Array Value} {r : Nat} {α : Type} {d : α} {p : Pa α} {v : α → Value} (h : ∀ s k e, Fn P f args [rfW r s k e] fun u L => ∃ k' e', stW s k' e' = (runP d p (stW s k e)).2 ∧ u = v (runP d p (stW s k e)).1 ∧ L = [rfW r s k' e']) (st : Rs) :
    Fn P f args [rfR r st] fun u L => u = v (runP d p st).1 ∧ L = [rfR r (runP d p st).2] := by
  intro F w hs
  obtain ⟨h1, h2, hd, a1, a2, ⟨y, hy, hp⟩, hF⟩ := hs
  subst hy
  have hs' : St ([rfW r y.1 y.2.1 y.2.2] ++ F) w := sep_flat ⟨h1, h2, hd, a1, a2, hp, hF⟩
  refine (h _ _ _ F w hs').mono ?_
  rintro e w' ⟨u, L, ⟨k', e', h3, rfl, rfl⟩, he, hs2, hk⟩
  refine ⟨_, _, ⟨rfl, rfl⟩, he, sep_imp (fun hh hq => ⟨(y.1, (k', e')), h3, hh, fun _ => none, fun _ => .inr rfl, fun _ _ e => e, fun _ _ e => (by cases e), hq, trivial⟩) hs2, hk⟩
theorem Fn.rfEnd {f : FuncId} {args : Array Value} {r : Nat} (h : ∀ s k e, Fn P f args [rfW r s k e] fun u L => ∃ e1, (e1 = 0 ↔ stW s k e = some []) ∧ u = vint e1 ∧ L = [rfW r s k e1]) (st : Rs) :
    Fn P f args [rfR r st] fun u L => ∃ e1, (e1 = 0 ↔ st = some []) ∧ u = vint e1 ∧ ∃ st', L = [rfR r st'] := by
  intro F w hs
  obtain ⟨h1, h2, hd, a1, a2, ⟨y, hy, hp⟩, hF⟩ := hs
  subst hy
  have hs' : St ([rfW r y.1 y.2.1 y.2.2] ++ F) w := sep_flat ⟨h1, h2, hd, a1, a2, hp, hF⟩
  refine (h _ _ _ F w hs').mono ?_
  rintro e w' ⟨u, L, ⟨e1, h3, rfl, rfl⟩, he, hs2, hk⟩
  refine ⟨_, _, ⟨e1, h3, rfl, _, rfl⟩, he, sep_imp (fun hh hq => ⟨(y.1, (y.2.1, e1)), rfl, hh, fun _ => none, fun _ => .inr rfl, fun _ _ e => e, fun _ _ e => (by cases e), hq, trivial⟩) hs2, hk⟩
theorem rfW_up {r : Nat} {s : Bs} {k : Nat} {e : Int} {h : Hp} (hp : sep [rfW r s k e] h) : rfR r (stW s k e) h := ⟨(s, (k, e)), rfl, hp⟩
theorem G.rfUpF {r : Nat} {s : Bs} {k : Nat} {e : Int} {st : Rs} (hL : Pick (rfW r s k e) L R) (hs : stW s k e = st) (h : G W n ds E (rfR r st :: R) X) : G W n ds E L X := by
  subst hs; exact G.fold (.cons hL .nil) (fun _ hp => rfW_up hp) h
theorem G.rfLook {r : Nat} {st : Rs} (hL : Pick (rfR r st) L R) (h : ∀ s k e, stW s k e = st → k ≤ s.length → s.length ≤ 2147483648 → G W n ds E (ptc r [vstr s, vint k, vint e] 208 :: R) X) : G W n ds E L X :=
  G.focus hL (G.open (q := fun y : Bs × (Nat × Int) => [rfW r y.1 y.2.1 y.2.2]) (φ := fun y : Bs × (Nat × Int) => stW y.1 y.2.1 y.2.2 = st) (fun _ hp => hp) fun y hy => G.rfOpen .here fun h1 h2 => h _ _ _ hy h1 h2)
end
section
variable {P : Program} {E : Env} {L : List HP} {ty : TypeId}
theorem Quiet.remU8 {t t' : TypeId} {x y : Operand} {a b : Int} (hx : ev E x = some (.int .u8 a)) (hy : ev E y = some (.int .u8 b)) (h0 : 0 ≤ a) (hb : 0 < b) :
    Quiet P ⟨none, .binOp .rem t x y t', ty, "", #[], none⟩ E L (.int .u8 (a % b)) := by
  intro ρ w ha _
  have e : a.tmod b = a % b := Int.tmod_eq_emod_of_nonneg h0
  simp [execOp, ha x _ hx, ha y _ hy, eqGuard, binOp, Op.intDiv, Bind.bind, Sem.bind, Pure.pure, Sem.run, show b ≠ 0 by omega, e]
end
theorem sev_mul {k u x : Nat} (hk : k ≤ 9) (hu : u < 128 ^ k) (hx : x < 128) (h9 : k = 9 → x ≤ 1) : IntKind.u64.wrap ((u : Int) + IntKind.u64.wrap ((x : Int) * ((128 ^ k : Nat) : Int))) = ((u + x * 128 ^ k : Nat) : Int) := by
  have hb : x * 128 ^ k < 18446744073709551616 ∧ u + x * 128 ^ k < 18446744073709551616 := by
    rcases Nat.lt_or_ge k 9 with g | g
    · have h4 : 128 ^ (k + 1) ≤ 128 ^ 9 := Nat.pow_le_pow_right (by decide) (by omega)
      have e9 : (128 : Nat) ^ 9 = 9223372036854775808 := by decide
      have : x * 128 ^ k ≤ 127 * 128 ^ k := Nat.mul_le_mul_right _ (by omega)
      rw [Nat.pow_succ] at h4
      omega
    · have : k = 9 := by omega
      subst this
      have := h9 rfl
      have e9 : (128 : Nat) ^ 9 = 9223372036854775808 := by decide
      have : x * 128 ^ 9 ≤ 1 * 128 ^ 9 := Nat.mul_le_mul_right _ (by omega)
      omega
  have e1 : (x : Int) * ((128 ^ k : Nat) : Int) = ((x * 128 ^ k : Nat) : Int) := by simp
  rw [e1, u64wrap, u64wrap]
  omega
theorem unit_mul {k : Nat} (hk : k < 9) : IntKind.u64.wrap (((128 ^ k : Nat) : Int) * 128) = ((128 ^ (k + 1) : Nat) : Int) := by
  have h4 : 128 ^ (k + 1) ≤ 128 ^ 9 := Nat.pow_le_pow_right (by decide) (by omega)
  have e9 : (128 : Nat) ^ 9 = 9223372036854775808 := by decide
  rw [u64wrap, Nat.pow_succ]
  rw [Nat.pow_succ] at h4
  omega
end Go.Proofs.YtidjhgbdokcphaaGreat

/- Own work: rows of ACLs, parts of transactions, entries, as plain data. -/

namespace Go.Proofs.YtidjhgbdokcphaaGreat
open Go

abbrev Ac := Int × Bs
def acC (a : Ac) : List Value := [vint a.1, vstr a.2]
structure Pt where
  kind : Int
  path : Bs
  data : Bs
  aclV : Value
  acl : List Ac
  own : Int
  num : Int
  err : Int
  subsV : Value
def ptC (x : Pt) : List Value := [vint x.kind, vstr x.path, vstr x.data, x.aclV, vint x.own, vint x.num, vint x.err, x.subsV]
structure En where
  zx : Int
  ses : Int
  xid : Int
  x : Pt
  subs : List Pt
def enC (e : En) : List Value := [vint e.zx, vint e.ses, vint e.xid] ++ ptC e.x
end Go.Proofs.YtidjhgbdokcphaaGreat

/- Own work: entries as bytes, and back: plain. -/
namespace Go.Proofs.YtidjhgbdokcphaaGreat
open Go

abbrev I64 (n : Int) : Prop := -9223372036854775808 ≤ n ∧ n ≤ 9223372036854775807
abbrev nilV : Value := .slice none 0 0
def acB (a : Ac) : Bs := numB a.1 ++ txtB a.2
def aclB (l : List Ac) : Bs := cntB l.length ++ l.flatMap acB
def ptB (y : Pt) : Bs := numB y.kind ++ txtB y.path ++ txtB y.data ++ aclB y.acl ++ [y.own, y.num, y.err].flatMap numB
def subsB (l : List Pt) : Bs := cntB l.length ++ l.flatMap ptB
def enB (e : En) : Bs := [e.zx, e.ses, e.xid].flatMap numB ++ ptB e.x ++ subsB e.subs
def Pt.pl (y : Pt) : Pt := ⟨y.kind, y.path, y.data, nilV, y.acl, y.own, y.num, y.err, nilV⟩
def En.pl (e : En) : En := ⟨e.zx, e.ses, e.xid, e.x.pl, e.subs.map Pt.pl⟩
theorem subsB_pl (l : List Pt) : subsB (l.map Pt.pl) = subsB l := by
  unfold subsB
  rw [List.length_map, List.flatMap_map]; rfl
theorem enB_pl (e : En) : enB e.pl = enB e := by
  unfold enB
  rw [show e.pl.subs = e.subs.map Pt.pl from rfl, subsB_pl]; rfl
/-! ### Readings, whatever the state -/
abbrev Rn (α : Type) := Rs → α × Rs
def retR {α : Type} (x : α) : Rn α := fun st => (x, st)
def bindR {α β : Type} (f : Rn α) (g : α → Rn β) : Rn β := fun st => g (f st).1 (f st).2
def manyR {α : Type} (f : Rn α) : Nat → Rn (List α)
  | 0, st => ([], st)
  | n + 1, st => ((manyR f n st).1 ++ [(f (manyR f n st).2).1], (f (manyR f n st).2).2)
def numR : Rn Int := runP 0 numP
def txtR : Rn Bs := runP [] (txtP 4096)
def cntR : Rn Nat := runP 0 (cntP 256)
def rowsR {α : Type} (f : Rn α) : Rn (List α) := bindR cntR (manyR f)
def acR : Rn Ac := bindR numR fun n => bindR txtR fun s => retR (n, s)
def ptR : Rn Pt := bindR numR fun k => bindR txtR fun p => bindR txtR fun d => bindR (rowsR acR) fun l => bindR numR fun o => bindR numR fun n => bindR numR fun x => retR ⟨k, p, d, nilV, l, o, n, x, nilV⟩
def enR : Rn En := bindR numR fun z => bindR numR fun s => bindR numR fun x => bindR ptR fun y => bindR (rowsR ptR) fun l => retR ⟨z, s, x, y, l⟩
def getR (x : En × Rs) : Option En := match x with
  | (q, some []) => some q
  | _ => none
def getZ (s : Bs) : Option En := getR (enR (some s))
def Strict {α : Type} (f : Rn α) : Prop := (f none).2 = none
theorem Strict.ret {α : Type} (x : α) : Strict (retR x) := rfl
theorem Strict.run {α : Type} (d : α) (p : Pa α) : Strict (runP d p) := rfl
theorem Strict.bind {α β : Type} {f : Rn α} {g : α → Rn β} (hf : Strict f) (hg : ∀ x, Strict (g x)) : Strict (bindR f g) := by
  unfold Strict bindR
  rw [hf]; exact hg _
theorem Strict.many {α : Type} {f : Rn α} (hf : Strict f) : ∀ n, Strict (manyR f n)
  | 0 => rfl
  | n + 1 => by
    have h := Strict.many hf n
    unfold Strict at h ⊢
    show (f (manyR f n none).2).2 = none
    rw [h]; exact hf
theorem Strict.rows {α : Type} {f : Rn α} (hf : Strict f) : Strict (rowsR f) := .bind (.run _ _) (.many hf)
theorem strict_ac : Strict acR := .bind (.run _ _) fun _ => .bind (.run _ _) fun _ => .ret _
theorem strict_pt : Strict ptR := .bind (.run _ _) fun _ => .bind (.run _ _) fun _ => .bind (.run _ _) fun _ => .bind (.rows strict_ac) fun _ => .bind (.run _ _) fun _ => .bind (.run _ _) fun _ => .bind (.run _ _) fun _ => .ret _
def BackR {α : Type} (f : Rn α) (b : Bs) (x : α) : Prop := ∀ r, f (some (b ++ r)) = (x, some r) ∨ (f (some (b ++ r))).2 = none
theorem BackR.bind {α β : Type} {f : Rn α} {g : α → Rn β} {b c : Bs} {x : α} {y : β} (hf : BackR f b x) (hs : ∀ x, Strict (g x)) (hg : BackR (g x) c y) : BackR (bindR f g) (b ++ c) y := by
  intro r
  rw [List.append_assoc]
  rcases hf (c ++ r) with h | h
  · unfold bindR; rw [h]; exact hg r
  · right; unfold bindR; rw [h]; exact hs _
theorem BackR.end_ {α β : Type} {f : Rn α} {g : α → β} {b : Bs} {x : α} (hf : BackR f b x) : BackR (bindR f fun x => retR (g x)) b (g x) := by
  intro r
  rcases hf r with h | h
  · left; unfold bindR retR; rw [h]
  · right; unfold bindR retR; exact h
theorem back_num {n : Int} (h : I64 n) : BackR numR (numB n) n := fun r => .inl (by unfold numR runP; dsimp only; rw [num_back h])
theorem back_txt {s : Bs} (h : s.length < U64) : BackR txtR (txtB s) s := fun r => by
  unfold txtR runP
  dsimp only
  rcases Nat.lt_or_ge 4096 s.length with g | g
  · right; rw [txt_over g h]
  · left; rw [txt_back g (by decide)]
theorem back_cnt {n : Nat} (h : n < U64) : BackR cntR (cntB n) n := fun r => by
  unfold cntR runP
  dsimp only
  rcases Nat.lt_or_ge 256 n with g | g
  · right; rw [cnt_over g h]
  · left; rw [cnt_back g (by decide)]
theorem back_many {α : Type} {f : Rn α} {E : α → Bs} (hs : Strict f) {l : List α} (h : ∀ x ∈ l, BackR f (E x) x) : ∀ i, i ≤ l.length → BackR (manyR f i) ((l.take i).flatMap E) (l.take i)
  | 0, _ => by rw [List.take_zero]; exact fun r => .inl rfl
  | i + 1, hi => by
    have ih := back_many hs h i (by omega)
    rw [List.take_succ_eq_append_getElem (by omega), List.flatMap_append]
    intro r
    rw [List.append_assoc]
    have hx := h l[i] (List.getElem_mem (by omega))
    rcases ih ([l[i]].flatMap E ++ r) with g | g
    · have e : [l[i]].flatMap E = E l[i] := by simp
      rcases hx r with k | k
      · left
        show ((manyR f i _).1 ++ [(f (manyR f i _).2).1], (f (manyR f i _).2).2) = _
        rw [g, e, k]
      · right
        show (f (manyR f i _).2).2 = none
        rw [g, e, k]
    · right
      show (f (manyR f i _).2).2 = none
      rw [g]; exact hs
theorem back_rows {α : Type} {f : Rn α} {E : α → Bs} (hs : Strict f) {l : List α} (hl : l.length < U64) (h : ∀ x ∈ l, BackR f (E x) x) : BackR (rowsR f) (cntB l.length ++ l.flatMap E) l := by
  have := back_many hs h l.length (Nat.le_refl _)
  rw [List.take_length] at this
  exact BackR.bind (back_cnt hl) (fun n => .many hs n) this
/-! ### What may be laid -/
structure AcI (a : Ac) : Prop where
  n : I64 a.1
  s : a.2.length < U64
structure PtI (y : Pt) : Prop where
  kind : I64 y.kind
  own : I64 y.own
  num : I64 y.num
  err : I64 y.err
  path : y.path.length < U64
  data : y.data.length < U64
  many : y.acl.length < U64
  acl : ∀ a ∈ y.acl, AcI a
structure EnI (e : En) : Prop where
  zx : I64 e.zx
  ses : I64 e.ses
  xid : I64 e.xid
  x : PtI e.x
  many : e.subs.length < U64
  subs : ∀ y ∈ e.subs, PtI y
theorem back_ac {a : Ac} (h : AcI a) : BackR acR (acB a) a :=
  BackR.bind (back_num h.n) (fun _ => .bind (.run _ _) fun _ => .ret _) (BackR.end_ (g := fun s => (a.1, s)) (back_txt h.s))
theorem back_pt {y : Pt} (h : PtI y) : BackR ptR (ptB y) y.pl := by
  have e : ptB y = numB y.kind ++ (txtB y.path ++ (txtB y.data ++ (aclB y.acl ++ (numB y.own ++ (numB y.num ++ numB y.err))))) := by
    unfold ptB; simp [List.append_assoc]
  rw [e]
  refine BackR.bind (back_num h.kind) (fun _ => .bind (.run _ _) fun _ => .bind (.run _ _) fun _ => .bind (.rows strict_ac) fun _ => .bind (.run _ _) fun _ => .bind (.run _ _) fun _ => .bind (.run _ _) fun _ => .ret _) ?_
  refine BackR.bind (back_txt h.path) (fun _ => .bind (.run _ _) fun _ => .bind (.rows strict_ac) fun _ => .bind (.run _ _) fun _ => .bind (.run _ _) fun _ => .bind (.run _ _) fun _ => .ret _) ?_
  refine BackR.bind (back_txt h.data) (fun _ => .bind (.rows strict_ac) fun _ => .bind (.run _ _) fun _ => .bind (.run _ _) fun _ => .bind (.run _ _) fun _ => .ret _) ?_
  refine BackR.bind (back_rows strict_ac h.many fun a ha => back_ac (h.acl a ha)) (fun _ => .bind (.run _ _) fun _ => .bind (.run _ _) fun _ => .bind (.run _ _) fun _ => .ret _) ?_
  refine BackR.bind (back_num h.own) (fun _ => .bind (.run _ _) fun _ => .bind (.run _ _) fun _ => .ret _) ?_
  refine BackR.bind (back_num h.num) (fun _ => .bind (.run _ _) fun _ => .ret _) ?_
  exact BackR.end_ (g := fun x => (⟨y.kind, y.path, y.data, nilV, y.acl, y.own, y.num, x, nilV⟩ : Pt)) (back_num h.err)
theorem PtI.pl {y : Pt} (h : PtI y) : PtI y.pl := ⟨h.kind, h.own, h.num, h.err, h.path, h.data, h.many, h.acl⟩
theorem back_en {e : En} (h : EnI e) : BackR enR (enB e) e.pl := by
  have e1 : enB e = numB e.zx ++ (numB e.ses ++ (numB e.xid ++ (ptB e.x ++ (cntB (e.subs.map Pt.pl).length ++ (e.subs.map Pt.pl).flatMap ptB)))) := by
    have : cntB (e.subs.map Pt.pl).length ++ (e.subs.map Pt.pl).flatMap ptB = subsB e.subs := subsB_pl e.subs
    rw [this]
    unfold enB; simp [List.append_assoc]
  rw [e1]
  refine BackR.bind (back_num h.zx) (fun _ => .bind (.run _ _) fun _ => .bind (.run _ _) fun _ => .bind strict_pt fun _ => .bind (.rows strict_pt) fun _ => .ret _) ?_
  refine BackR.bind (back_num h.ses) (fun _ => .bind (.run _ _) fun _ => .bind strict_pt fun _ => .bind (.rows strict_pt) fun _ => .ret _) ?_
  refine BackR.bind (back_num h.xid) (fun _ => .bind strict_pt fun _ => .bind (.rows strict_pt) fun _ => .ret _) ?_
  refine BackR.bind (back_pt h.x) (fun _ => .bind (.rows strict_pt) fun _ => .ret _) ?_
  refine BackR.end_ (g := fun l => (⟨e.zx, e.ses, e.xid, e.x.pl, l⟩ : En)) (back_rows strict_pt (by rw [List.length_map]; exact h.many) fun y hy => ?_)
  obtain ⟨z, hz, rfl⟩ := List.mem_map.1 hy
  exact back_pt (h.subs z hz).pl
theorem get_back {e q : En} (h : EnI e) (hg : getZ (enB e) = some q) : q = e.pl := by
  have hb := back_en h []
  rw [List.append_nil] at hb
  unfold getZ at hg
  rcases hb with hb | hb
  · rw [hb] at hg; exact (Option.some.inj hg).symm
  · unfold getR at hg
    split at hg
    · rename_i q' heq
      rw [heq] at hb; cases hb
    · cases hg
/-! ### What is read was laid so -/
theorem bind_some {α β : Type} {f : Rn α} {g : α → Rn β} (hs : ∀ x, Strict (g x)) {st : Rs} {z : β} {r : Bs} (h : bindR f g st = (z, some r)) : ∃ y s', f st = (y, some s') ∧ g y (some s') = (z, some r) := by
  unfold bindR at h
  cases e : (f st).2 with
  | none =>
    rw [e] at h
    have := hs (f st).1
    unfold Strict at this
    rw [h] at this; cases this
  | some s' =>
    rw [e] at h
    exact ⟨(f st).1, s', by rw [← e], h⟩
theorem num_some {s r : Bs} {n : Int} (h : numR (some s) = (n, some r)) : s = numB n ++ r ∧ I64 n := by
  unfold numR runP at h
  dsimp only at h
  split at h
  · rename_i x hx
    simp only [Prod.mk.injEq, Option.some.injEq] at h
    obtain ⟨rfl, rfl⟩ := h
    exact num_form hx
  · cases h
theorem txt_some {s r x : Bs} (h : txtR (some s) = (x, some r)) : s = txtB x ++ r ∧ x.length ≤ 4096 := by
  unfold txtR runP at h
  dsimp only at h
  split at h
  · rename_i y hy
    simp only [Prod.mk.injEq, Option.some.injEq] at h
    obtain ⟨rfl, rfl⟩ := h
    exact txt_form hy
  · cases h
theorem cnt_some {s r : Bs} {n : Nat} (h : cntR (some s) = (n, some r)) : s = cntB n ++ r ∧ n ≤ 256 := by
  unfold cntR runP at h
  dsimp only at h
  split at h
  · rename_i y hy
    simp only [Prod.mk.injEq, Option.some.injEq] at h
    obtain ⟨rfl, rfl⟩ := h
    exact cnt_form hy
  · cases h
theorem many_some {α : Type} {f : Rn α} {E : α → Bs} {Q : α → Prop} (hs : Strict f) (hf : ∀ s x r, f (some s) = (x, some r) → s = E x ++ r ∧ Q x) : ∀ n s l r, manyR f n (some s) = (l, some r) → s = l.flatMap E ++ r ∧ l.length = n ∧ ∀ x ∈ l, Q x
  | 0, s, l, r, h => by
    simp only [manyR, Prod.mk.injEq, Option.some.injEq] at h
    obtain ⟨rfl, rfl⟩ := h
    exact ⟨rfl, rfl, fun x hx => by cases hx⟩
  | n + 1, s, l, r, h => by
    simp only [manyR, Prod.mk.injEq] at h
    obtain ⟨rfl, h2⟩ := h
    cases e : (manyR f n (some s)).2 with
    | none => rw [e] at h2; unfold Strict at hs; rw [hs] at h2; cases h2
    | some s' =>
      rw [e] at h2
      obtain ⟨h3, h4, h5⟩ := many_some hs hf n s (manyR f n (some s)).1 s' (by rw [← e])
      obtain ⟨h6, h7⟩ := hf s' (f (some s')).1 r (by rw [← h2])
      refine ⟨?_, by simp [h4], fun x hx => ?_⟩
      · rw [List.flatMap_append, List.append_assoc]
        simp only [List.flatMap_cons, List.flatMap_nil, List.append_nil]
        rw [← h6, ← h3]
      · rcases List.mem_append.1 hx with hx | hx
        · exact h5 x hx
        · rw [List.mem_singleton] at hx; subst hx; exact h7
theorem rows_some {α : Type} {f : Rn α} {E : α → Bs} {Q : α → Prop} (hs : Strict f) (hf : ∀ s x r, f (some s) = (x, some r) → s = E x ++ r ∧ Q x) {s : Bs} {l : List α} {r : Bs} (h : rowsR f (some s) = (l, some r)) : s = cntB l.length ++ l.flatMap E ++ r ∧ l.length ≤ 256 ∧ ∀ x ∈ l, Q x := by
  obtain ⟨n, s', h1, h2⟩ := bind_some (fun n => .many hs n) h
  obtain ⟨h3, h4⟩ := cnt_some h1
  obtain ⟨h5, h6, h7⟩ := many_some hs hf n s' l r h2
  subst h6
  exact ⟨by rw [h3, h5, List.append_assoc], h4, h7⟩
structure PtF (y : Pt) : Prop where
  kind : I64 y.kind
  own : I64 y.own
  num : I64 y.num
  err : I64 y.err
  path : y.path.length ≤ 4096
  data : y.data.length ≤ 4096
  many : y.acl.length ≤ 256
  acl : ∀ a ∈ y.acl, I64 a.1 ∧ a.2.length ≤ 4096
  pl : y.pl = y
structure EnF (e : En) : Prop where
  zx : I64 e.zx
  ses : I64 e.ses
  xid : I64 e.xid
  x : PtF e.x
  many : e.subs.length ≤ 256
  subs : ∀ y ∈ e.subs, PtF y
theorem ac_some (s : Bs) (a : Ac) (r : Bs) (h : acR (some s) = (a, some r)) : s = acB a ++ r ∧ (I64 a.1 ∧ a.2.length ≤ 4096) := by
  obtain ⟨n, s1, h1, h2⟩ := bind_some (fun _ => .bind (.run _ _) fun _ => .ret _) h
  obtain ⟨t, s2, h3, h4⟩ := bind_some (fun _ => .ret _) h2
  simp only [retR, Prod.mk.injEq, Option.some.injEq] at h4
  obtain ⟨rfl, rfl⟩ := h4
  obtain ⟨e1, i1⟩ := num_some h1
  obtain ⟨e2, i2⟩ := txt_some h3
  exact ⟨by rw [e1, e2]; unfold acB; rw [List.append_assoc], i1, i2⟩
theorem pt_some (s : Bs) (y : Pt) (r : Bs) (h : ptR (some s) = (y, some r)) : s = ptB y ++ r ∧ PtF y := by
  obtain ⟨k, s1, h1, h⟩ := bind_some (fun _ => .bind (.run _ _) fun _ => .bind (.run _ _) fun _ => .bind (.rows strict_ac) fun _ => .bind (.run _ _) fun _ => .bind (.run _ _) fun _ => .bind (.run _ _) fun _ => .ret _) h
  obtain ⟨p, s2, h2, h⟩ := bind_some (fun _ => .bind (.run _ _) fun _ => .bind (.rows strict_ac) fun _ => .bind (.run _ _) fun _ => .bind (.run _ _) fun _ => .bind (.run _ _) fun _ => .ret _) h
  obtain ⟨d, s3, h3, h⟩ := bind_some (fun _ => .bind (.rows strict_ac) fun _ => .bind (.run _ _) fun _ => .bind (.run _ _) fun _ => .bind (.run _ _) fun _ => .ret _) h
  obtain ⟨l, s4, h4, h⟩ := bind_some (fun _ => .bind (.run _ _) fun _ => .bind (.run _ _) fun _ => .bind (.run _ _) fun _ => .ret _) h
  obtain ⟨o, s5, h5, h⟩ := bind_some (fun _ => .bind (.run _ _) fun _ => .bind (.run _ _) fun _ => .ret _) h
  obtain ⟨n, s6, h6, h⟩ := bind_some (fun _ => .bind (.run _ _) fun _ => .ret _) h
  obtain ⟨x, s7, h7, h⟩ := bind_some (fun _ => .ret _) h
  simp only [retR, Prod.mk.injEq, Option.some.injEq] at h
  obtain ⟨rfl, rfl⟩ := h
  obtain ⟨e1, i1⟩ := num_some h1
  obtain ⟨e2, i2⟩ := txt_some h2
  obtain ⟨e3, i3⟩ := txt_some h3
  obtain ⟨e4, i4, j4⟩ := rows_some strict_ac ac_some h4
  obtain ⟨e5, i5⟩ := num_some h5
  obtain ⟨e6, i6⟩ := num_some h6
  obtain ⟨e7, i7⟩ := num_some h7
  refine ⟨?_, ⟨i1, i5, i6, i7, i2, i3, i4, j4, rfl⟩⟩
  rw [e1, e2, e3, e4, e5, e6, e7]
  unfold ptB aclB
  simp [List.append_assoc]
theorem en_some {s : Bs} {e : En} {r : Bs} (h : enR (some s) = (e, some r)) : s = enB e ++ r ∧ EnF e := by
  obtain ⟨z, s1, h1, h⟩ := bind_some (fun _ => .bind (.run _ _) fun _ => .bind (.run _ _) fun _ => .bind strict_pt fun _ => .bind (.rows strict_pt) fun _ => .ret _) h
  obtain ⟨n, s2, h2, h⟩ := bind_some (fun _ => .bind (.run _ _) fun _ => .bind strict_pt fun _ => .bind (.rows strict_pt) fun _ => .ret _) h
  obtain ⟨x, s3, h3, h⟩ := bind_some (fun _ => .bind strict_pt fun _ => .bind (.rows strict_pt) fun _ => .ret _) h
  obtain ⟨y, s4, h4, h⟩ := bind_some (fun _ => .bind (.rows strict_pt) fun _ => .ret _) h
  obtain ⟨l, s5, h5, h⟩ := bind_some (fun _ => .ret _) h
  simp only [retR, Prod.mk.injEq, Option.some.injEq] at h
  obtain ⟨rfl, rfl⟩ := h
  obtain ⟨e1, i1⟩ := num_some h1
  obtain ⟨e2, i2⟩ := num_some h2
  obtain ⟨e3, i3⟩ := num_some h3
  obtain ⟨e4, i4⟩ := pt_some _ _ _ h4
  obtain ⟨e5, i5, j5⟩ := rows_some strict_pt pt_some h5
  refine ⟨?_, ⟨i1, i2, i3, i4, i5, j5⟩⟩
  rw [e1, e2, e3, e4, e5]
  unfold enB subsB
  simp [List.append_assoc]
theorem get_form {s : Bs} {q : En} (h : getZ s = some q) : s = enB q ∧ EnF q := by
  unfold getZ getR at h
  split at h
  · rename_i q' heq
    cases h
    obtain ⟨h1, h2⟩ := en_some heq
    exact ⟨by rw [h1, List.append_nil], h2⟩
  · cases h
end Go.Proofs.YtidjhgbdokcphaaGreat

/- Own work: entries in memory. -/
namespace Go.Proofs.YtidjhgbdokcphaaGreat
open Go

def Pt.wa (y : Pt) (v : Value) : Pt := ⟨y.kind, y.path, y.data, v, y.acl, y.own, y.num, y.err, y.subsV⟩
def Pt.ws (y : Pt) (v : Value) : Pt := ⟨y.kind, y.path, y.data, y.aclV, y.acl, y.own, y.num, y.err, v⟩
def aclR (y : Pt) : HP := slR 210 2 y.aclV y.acl.length (y.acl.flatMap acC)
def subsR (e : En) : HP := slR 36 8 e.x.subsV e.subs.length (e.subs.flatMap ptC)
def entR (e : En) : HP := sep [aclR e.x, subsR e, bigR aclR e.subs]
structure PtW (p : HP) (y : Pt) : Prop where
  i : PtI y
  acl : ∀ h : Hp, p h → rdS 2 h y.aclV y.acl.length (y.acl.flatMap acC)
structure EnW (p : HP) (e : En) : Prop where
  i : EnI e
  acl : ∀ h : Hp, p h → rdS 2 h e.x.aclV e.x.acl.length (e.x.acl.flatMap acC)
  subs : ∀ h : Hp, p h → rdS 8 h e.x.subsV e.subs.length (e.subs.flatMap ptC)
  each : ∀ y ∈ e.subs, ∀ h : Hp, p h → rdS 2 h y.aclV y.acl.length (y.acl.flatMap acC)
theorem EnW.x {p : HP} {e : En} (h : EnW p e) : PtW p e.x := ⟨h.i.x, h.acl⟩
theorem EnW.sub {p : HP} {e : En} (h : EnW p e) {y : Pt} (hy : y ∈ e.subs) : PtW p y := ⟨h.i.subs y hy, h.each y hy⟩
theorem fm_take {α : Type} (f : α → Bs) (l : List α) (j : Nat) : ((l.take j).flatMap f).length ≤ (l.flatMap f).length := by
  conv => rhs; rw [← List.take_append_drop j l]
  rw [List.flatMap_append, List.length_append]; omega
theorem fm_step {α : Type} (f : α → Bs) {l : List α} {j : Nat} (hj : j < l.length) : (l.take (j + 1)).flatMap f = (l.take j).flatMap f ++ f l[j] := by
  rw [List.take_succ_eq_append_getElem hj, List.flatMap_append]; simp
theorem fm_stepL {α : Type} (f : α → Bs) {l : List α} {j : Nat} (hj : j < l.length) : ((l.take j).flatMap f).length + (f l[j]).length ≤ (l.flatMap f).length := by
  have := fm_take f l (j + 1)
  rw [fm_step f hj, List.length_append] at this
  exact this
theorem many_len {α : Type} (f : Rn α) (st : Rs) : ∀ n, (manyR f n st).1.length = n
  | 0 => rfl
  | n + 1 => by show ((manyR f n st).1 ++ [_]).length = n + 1; rw [List.length_append, many_len f st n]; rfl
theorem cntR_le (st : Rs) : (cntR st).1 ≤ 256 := by
  unfold cntR runP
  split
  · exact Nat.zero_le _
  · split
    · rename_i x hx; exact (cnt_form hx).2
    · exact Nat.zero_le _
theorem one_sep {p : HP} {h : Hp} (hp : p h) : sep [p] h := ⟨h, fun _ => none, fun _ => .inr rfl, fun _ _ e => e, fun _ _ e => (by cases e), hp, trivial⟩
theorem sep_one {b : Nat} {l : List Value} {T : TypeId} {h : Hp} (hp : sep [ptc b l T] h) : ptc b l T h := sep_pt hp
theorem big_one {α : Type} {f : α → HP} {l : List α} {y : α} {h : Hp} (hs : sep [f y, bigR f l] h) : bigR f (l ++ [y]) h :=
  big_perm (List.perm_append_comm (l₁ := [y])) (big_of_cons hs)
section
variable {P : Program} {W : World} {n : Nat} {ds : List Deferred} {E : Env} {L R : List HP} {X : Act → World → Prop} {ty : TypeId}
theorem G.bigAdd {α : Type} {f : α → HP} {l : List α} (y : α) {p : HP} (hp : p = f y) (hL : Picks [p, bigR f l] L R) (h : G W n ds E (bigR f (l ++ [y]) :: R) X) : G W n ds E L X := by
  subst hp
  exact G.fold hL (fun w hw => big_one hw) h
theorem G.wrCast {w : Nat} {bs bs' : Bs} (hL : Pick (wrR w bs) L R) (hb : bs = bs') (h : G W n ds E (wrR w bs' :: R) X) : G W n ds E L X := by
  subst hb; exact G.perm hL.perm h
theorem OpSpec.inL {o : Oper} {p p' q : HP} (h : OpSpec P o E [p] fun _ L' => L' = [p']) : OpSpec P o E [sep [p, q]] fun _ L' => L' = [sep [p', q]] := by
  intro ρ w F ha hs
  have hs' : St ([p] ++ ([q] ++ F)) w := sep_flat (L1 := [p, q]) hs
  refine (h ρ w _ ha hs').mono ?_
  rintro v w' ⟨L', rfl, hs2, hk⟩
  exact ⟨_, rfl, sep_fold (L1 := [p', q]) hs2, hk⟩
theorem OpSpec.inR {o : Oper} {p q q' : HP} (h : OpSpec P o E [q] fun _ L' => L' = [q']) : OpSpec P o E [sep [p, q]] fun _ L' => L' = [sep [p, q']] := by
  intro ρ w F ha hs
  have hs1 : St (p :: q :: F) w := sep_flat (L1 := [p, q]) hs
  have hs' : St ([q] ++ ([p] ++ F)) w := sep_swap hs1
  refine (h ρ w _ ha hs').mono ?_
  rintro v w' ⟨L', rfl, hs2, hk⟩
  exact ⟨_, rfl, sep_fold (L1 := [p, q']) (sep_swap hs2), hk⟩
end
def addrV (a : Nat × Nat) : Value := .pointer (some ⟨a.1, a.2, none⟩)
end Go.Proofs.YtidjhgbdokcphaaGreat

/- Own work, by program: package wire, entries: walked. -/
namespace Go.Proofs.YtidjhgbdokcphaaGreat
open Go
theorem wnums_spec (w : Nat) (bs : Bs) (va : Value) (ns : List Int) (p : HP) (hp : ∀ h : Hp, p h → rdS 1 h va ns.length (ints ns)) (hi : ∀ n ∈ ns, I64 n) (hl : bs.length + (ns.flatMap numB).length ≤ 4294900000) (hn : ns.length ≤ 1048576) : Fn Tryz.prog 189 #[vptr w, va] [wrR w bs, p] fun v L => v = .tuple #[] ∧ L = [wrR w (bs ++ ns.flatMap numB), p] := by
 refine Fn.intro (vs := [vptr w, va]) Tryz.func189 rfl rfl ?_
 intro F W
 refine G.rdAny (p := p) hp (by (repeat' constructor)) fun aa ca e0 _ => ?_
 subst e0
 refine G.seq (G.region (G.mv rfl rfl (G.q (Quiet.slen rfl Tryz.underlying31 rfl) rfl (G.mv rfl rfl (G.nil (G.then_n (G.block ?_)))))))
 refine G.wrCast (w := w) (bs' := bs ++ (ns.take 0).flatMap numB) (by (repeat' constructor)) (by simp) ?_
 refine G.loopK (ι := Nat) (fun q E => (8, vint q) :: E) (fun q => [wrR w (bs ++ (ns.take q).flatMap numB)]) (fun q => q ≤ ns.length) (fun q => ns.length - q) (0) (ts := [0, 6, 7]) (.cons rfl (.cons rfl (.cons rfl (.nil)))) (Nat.zero_le _) ⟨rfl, rfl, rfl, rfl, trivial⟩ (by (repeat' constructor)) ?_
 rintro j hj
 refine G.seq (G.region (G.q (Quiet.int rfl rfl rfl) rfl (G.nil (G.then_n (G.seq ?_)))))
 refine G.condD rfl (fun h9 => ?_) (fun h9 => ?_)
 ·have hj2 : j < ns.length := by omega
  have hft := fm_take numB ns j
  refine G.rdShape (p := p) hp (by (repeat' constructor)) (by omega) fun ba oa e => ?_
  subst e
  refine G.skip (G.then_n (G.seq (G.block (G.seq (G.region ?_)))))
  refine G.q (Quiet.indexAddr rfl rfl el_31 (by omega)) rfl ?_
  refine G.q (Quiet.loadEl (p := p) (i := j * 1) (v := vint ns[j]) rfl ag_3 (by (repeat' constructor)) hp (by simp [hj2])) rfl ?_
  refine G.ag rfl rfl (G.nil (G.then_n (G.region (G.mv rfl rfl (G.mv rfl rfl ?_)))))
  refine G.oq (OpSpec.call Tryz.func102 rfl rfl (vs := [_, _]) rfl (cnum_spec w _ ns[j] (hi _ (List.getElem_mem hj2)) ?hb8)) ?nx9
  case hb8 => rw [List.length_append]; omega
  rintro v L' ⟨rfl, rfl⟩
  refine G.nil (G.blk_n (G.then_n (G.region ?_)))
  refine G.q (Quiet.add rfl rfl (by omega)) rfl ?_
  refine G.mv rfl rfl (G.nil (G.then_n ?_))
  refine G.wrCast (w := w) (bs' := bs ++ (ns.take (j + 1)).flatMap numB) (by (repeat' constructor)) (by rw [fm_step numB hj2, List.append_assoc]) ?_
  exact G.roundK (j + 1) (by omega) (by omega) ⟨rfl, rfl, rfl, rfl, trivial⟩ (by (repeat' constructor)) (by ((repeat (apply Have.cons; (repeat (first | exact Pick.here | apply Pick.there)))); apply Have.base; repeat' constructor))
 ·have hjj : j = ns.length := by omega
  rw [hjj, List.take_length]
  refine G.exit (G.then_e (G.then_e (G.blk_e (G.done_n ?_))))
  exact G.dn (l := []) rfl rfl ⟨rfl, rfl⟩

theorem wacl_spec (w : Nat) (bs : Bs) (a : Ac) (hi : AcI a) (hl : bs.length + (acB a).length ≤ 4294900000) : Fn Tryz.prog 211 #[vptr w, .agg (acC a).toArray] [wrR w bs] fun v L => v = .tuple #[] ∧ L = [wrR w (bs ++ acB a)] := by
 refine Fn.intro (vs := [vptr w, .agg (acC a).toArray]) Tryz.func211 rfl rfl ?_
 intro F W
 have hab : (acB a).length = (numB a.1).length + ((cntB a.2.length).length + a.2.length) := by unfold acB txtB; simp
 refine G.seq (G.region ?_)
 refine G.oq (OpSpec.box rfl) ?nx1
 rintro v L' ⟨b3, rfl, rfl⟩
 refine G.nil ?_
 refine G.ptCast (b := b3) (l' := acC a) (by (repeat' constructor)) rfl ?_
 refine G.then_n (G.seq (G.region (G.mv rfl rfl (G.q (Quiet.fieldAddr rfl fo_210_0) rfl ?_))))
 refine G.q (Quiet.ld rfl ag_3) rfl ?_
 refine G.oq (OpSpec.call Tryz.func102 rfl rfl (vs := [_, _]) rfl (cnum_spec w bs a.1 hi.n (by omega))) ?nx6
 rintro v L' ⟨rfl, rfl⟩
 refine G.nil (G.then_n (G.region (G.mv rfl rfl (G.q (Quiet.fieldAddr rfl fo_210_1) rfl ?_))))
 refine G.q (Quiet.ld rfl ag_9) rfl ?_
 refine G.oq (OpSpec.call Tryz.func209 rfl rfl (vs := [_, _]) rfl (ctext_spec w _ a.2 ?hb11)) ?nx12
 case hb11 => rw [List.length_append]; omega
 rintro v L' ⟨rfl, rfl⟩
 refine G.nil (G.done_n ?_)
 refine G.wrCast (w := w) (bs' := bs ++ acB a) (by (repeat' constructor)) (by unfold acB; rw [List.append_assoc]) ?_
 exact G.dn (l := []) rfl rfl ⟨rfl, rfl⟩

theorem wacls_spec (w : Nat) (bs : Bs) (va : Value) (l : List Ac) (p : HP) (hp : ∀ h : Hp, p h → rdS 2 h va l.length (l.flatMap acC)) (hi : ∀ a ∈ l, AcI a) (hl : bs.length + (cntB l.length ++ l.flatMap acB).length ≤ 4294900000) (hn : l.length ≤ 1048576) : Fn Tryz.prog 210 #[vptr w, va, .func (.func 211) #[] #[]] [wrR w bs, p] fun v L => v = .tuple #[] ∧ L = [wrR w (bs ++ (cntB l.length ++ l.flatMap acB)), p] := by
 refine Fn.intro (vs := [vptr w, va, .func (.func 211) #[] #[]]) Tryz.func210 rfl rfl ?_
 intro F W
 refine G.rdAny (p := p) hp (by (repeat' constructor)) fun aa ca e0 _ => ?_
 subst e0
 rw [List.length_append] at hl
 refine G.seq (G.region (G.mv rfl rfl (G.mv rfl rfl (G.q (Quiet.slen rfl Tryz.underlying33 rfl) rfl ?_))))
 refine G.oq (OpSpec.call Tryz.func103 rfl rfl (vs := [_, _]) rfl (ccount_spec w bs l.length (by omega) (by omega))) ?nx4
 rintro v L' ⟨rfl, rfl⟩
 refine G.nil (G.then_n (G.seq (G.region (G.mv rfl rfl (G.q (Quiet.slen rfl Tryz.underlying33 rfl) rfl (G.mv rfl rfl (G.nil (G.then_n (G.block ?_)))))))))
 refine G.wrCast (w := w) (bs' := bs ++ cntB l.length ++ (l.take 0).flatMap acB) (by (repeat' constructor)) (by simp) ?_
 refine G.loopK (ι := Nat) (fun q E => (14, vint q) :: E) (fun q => [wrR w (bs ++ cntB l.length ++ (l.take q).flatMap acB)]) (fun q => q ≤ l.length) (fun q => l.length - q) (0) (ts := [0, 2, 12, 13]) (.cons rfl (.cons rfl (.cons rfl (.cons rfl (.nil))))) (Nat.zero_le _) ⟨rfl, rfl, rfl, rfl, rfl, trivial⟩ (by (repeat' constructor)) ?_
 rintro j hj
 refine G.seq (G.region (G.q (Quiet.int rfl rfl rfl) rfl (G.nil (G.then_n (G.seq ?_)))))
 refine G.condD rfl (fun h15 => ?_) (fun h15 => ?_)
 ·have hj2 : j < l.length := by omega
  have hft := fm_stepL acB hj2
  refine G.rdShape (p := p) hp (by (repeat' constructor)) (by omega) fun ba oa e => ?_
  subst e
  refine G.skip (G.then_n (G.seq (G.block (G.seq (G.region ?_)))))
  refine G.q (Quiet.indexAddr rfl rfl el_33 (by omega)) rfl ?_
  refine G.q (Quiet.loadRdA (sz := 2) (j := j * 2) (k := 2) (p := p) (vs := acC l[j]) rfl ag_210 (by (repeat' constructor)) hp (by simp) (by omega) (by omega) (flatMap_at (f := acC) (sz := 2) (fun _ _ => rfl) (by omega))) rfl ?_
  refine G.oq (OpSpec.allocA ze_210) ?nx12
  rintro v L' ⟨b7, rfl, rfl⟩
  refine G.oq (OpSpec.storeA rfl rfl ?c14 sz_210 ?c17 ?c15 ?c16) ?nx18
  case c14 => simp [acC, isCell]
  case c17 => rfl
  case c15 => simp [acC]
  case c16 => exact nfz0 _ _
  rintro v L' rfl
  refine G.nil ?_
  refine G.ptCast (b := b7) (l' := acC l[j]) (by (repeat' constructor)) (by exact rfl) ?_
  refine G.then_n (G.region (G.mv rfl rfl (G.mv rfl rfl ?_)))
  refine G.q (Quiet.loadAs (vs := acC l[j]) rfl ag_210 (by (repeat' constructor)) (by simp [acC]) rfl) rfl ?_
  refine G.oq (OpSpec.callV Tryz.func211 rfl rfl (us := []) (vs := [_, _]) (ws := []) rfl rfl (wacl_spec w _ l[j] (hi _ (List.getElem_mem hj2)) ?hb22)) ?nx23
  case hb22 => rw [List.length_append, List.length_append]; omega
  rintro v L' ⟨rfl, rfl⟩
  refine G.nil (G.blk_n (G.then_n (G.region ?_)))
  refine G.q (Quiet.add rfl rfl (by omega)) rfl ?_
  refine G.mv rfl rfl (G.nil (G.then_n ?_))
  refine G.wrCast (w := w) (bs' := bs ++ cntB l.length ++ (l.take (j + 1)).flatMap acB) (by (repeat' constructor)) (by rw [fm_step acB hj2, ← List.append_assoc]) ?_
  exact G.roundK (j + 1) (by omega) (by omega) ⟨rfl, rfl, rfl, rfl, rfl, trivial⟩ (by (repeat' constructor)) (by ((repeat (apply Have.cons; (repeat (first | exact Pick.here | apply Pick.there)))); apply Have.base; repeat' constructor))
 ·have hjj : j = l.length := by omega
  rw [hjj, List.take_length, List.append_assoc]
  refine G.exit (G.then_e (G.then_e (G.blk_e (G.done_n ?_))))
  exact G.dn (l := []) rfl rfl ⟨rfl, rfl⟩

theorem ptB_len (y : Pt) : (ptB y).length = (numB y.kind).length + ((cntB y.path.length).length + y.path.length) + ((cntB y.data.length).length + y.data.length) + (aclB y.acl).length + ([y.own, y.num, y.err].flatMap numB).length := by unfold ptB txtB; simp only [List.length_append]
theorem wpart_spec (w : Nat) (bs : Bs) (y : Pt) (p : HP) (hy : PtW p y) (hl : bs.length + (ptB y).length ≤ 4294900000) (hn : y.acl.length ≤ 1048576) : Fn Tryz.prog 190 #[vptr w, .agg (ptC y).toArray] [wrR w bs, p] fun v L => v = .tuple #[] ∧ L = [wrR w (bs ++ ptB y), p] := by
 refine Fn.intro (vs := [vptr w, .agg (ptC y).toArray]) Tryz.func190 rfl rfl ?_
 intro F W
 have hpl := ptB_len y
 have hal : (cntB y.acl.length ++ y.acl.flatMap acB).length = (aclB y.acl).length := rfl
 have hiy := hy.i
 refine G.seq (G.region ?_)
 refine G.oq (OpSpec.box rfl) ?nx1
 rintro v L' ⟨b3, rfl, rfl⟩
 refine G.nil ?_
 refine G.ptCast (b := b3) (l' := ptC y) (by (repeat' constructor)) rfl ?_
 refine G.then_n (G.seq (G.region (G.mv rfl rfl (G.q (Quiet.fieldAddr rfl fo_36_0) rfl ?_))))
 refine G.q (Quiet.ld rfl ag_3) rfl ?_
 refine G.oq (OpSpec.call Tryz.func102 rfl rfl (vs := [_, _]) rfl (cnum_spec w bs y.kind hiy.kind (by omega))) ?nx6
 rintro v L' ⟨rfl, rfl⟩
 refine G.nil (G.then_n (G.seq (G.region (G.mv rfl rfl (G.q (Quiet.fieldAddr rfl fo_36_1) rfl ?_)))))
 refine G.q (Quiet.ld rfl ag_9) rfl ?_
 refine G.oq (OpSpec.call Tryz.func209 rfl rfl (vs := [_, _]) rfl (ctext_spec w _ y.path ?hb11)) ?nx12
 case hb11 => rw [List.length_append]; omega
 rintro v L' ⟨rfl, rfl⟩
 refine G.nil (G.then_n (G.seq (G.region (G.mv rfl rfl (G.q (Quiet.fieldAddr rfl fo_36_2) rfl ?_)))))
 refine G.q (Quiet.ld rfl ag_9) rfl ?_
 refine G.oq (OpSpec.call Tryz.func209 rfl rfl (vs := [_, _]) rfl (ctext_spec w _ y.data ?hb17)) ?nx18
 case hb17 => simp only [List.length_append, txtB]; omega
 rintro v L' ⟨rfl, rfl⟩
 refine G.nil (G.then_n (G.seq (G.region (G.mv rfl rfl (G.q (Quiet.fieldAddr rfl fo_36_3) rfl ?_)))))
 refine G.q (Quiet.ld rfl ag_33) rfl ?_
 refine G.oq (OpSpec.call Tryz.func210 rfl rfl (vs := [_, _, _]) rfl (wacls_spec w _ _ y.acl p hy.acl hiy.acl ?hb23 hn)) ?nx24
 case hb23 => rw [hal]; simp only [List.length_append, txtB]; omega
 rintro v L' ⟨rfl, rfl⟩
 refine G.nil (G.then_n (G.region (G.mv rfl rfl (G.q (Quiet.fieldAddr rfl fo_36_4) rfl ?_))))
 refine G.q (Quiet.ld rfl ag_3) rfl ?_
 refine G.q (Quiet.fieldAddr rfl fo_36_5) rfl ?_
 refine G.q (Quiet.ld rfl ag_3) rfl ?_
 refine G.q (Quiet.fieldAddr rfl fo_36_6) rfl ?_
 refine G.q (Quiet.ld rfl ag_25) rfl ?_
 refine G.oq (OpSpec.buildSlice1 (vs := [_, _, _]) el_31 ze_3 rfl rfl rfl rfl rfl (by decide)) ?nx33
 rintro v L' ⟨b5, rfl, rfl⟩
 refine G.slMake (b := b5) (n := 3) (c := 3) (xs := ints [y.own, y.num, y.err]) (by (repeat' constructor)) (by decide) (by simp) rfl ?_
 refine G.oq (OpSpec.call Tryz.func189 rfl rfl (vs := [_, _]) rfl (wnums_spec w _ _ [y.own, y.num, y.err] (slR 3 1 (.slice (some ⟨b5, 0, none⟩) 3 3) 3 (ints [y.own, y.num, y.err])) (fun h hp => slR_rd hp) (fun n hn => by simp only [List.mem_cons, List.not_mem_nil, or_false] at hn; rcases hn with rfl | rfl | rfl; exact hiy.own; exact hiy.num; exact hiy.err) ?hb35 (by simp))) ?nx36
 case hb35 => have h9 : (cntB y.acl.length ++ y.acl.flatMap acB).length = (aclB y.acl).length := rfl; simp only [List.length_append, txtB] at h9 ⊢; omega
 rintro v L' ⟨rfl, rfl⟩
 refine G.nil (G.done_n ?_)
 refine G.wrCast (w := w) (bs' := bs ++ ptB y) (by (repeat' constructor)) (by unfold ptB aclB; simp only [List.append_assoc]) ?_
 exact G.dn (l := []) rfl rfl ⟨rfl, rfl⟩

theorem wparts_spec (w : Nat) (bs : Bs) (va : Value) (l : List Pt) (p : HP) (hp : ∀ h : Hp, p h → rdS 8 h va l.length (l.flatMap ptC)) (hi : ∀ y ∈ l, PtW p y ∧ y.acl.length ≤ 1048576) (hl : bs.length + (cntB l.length ++ l.flatMap ptB).length ≤ 4294900000) (hn : l.length ≤ 1048576) (hcl : ∀ y ∈ l, ∀ v ∈ ptC y, isCell v = true) : Fn Tryz.prog 191 #[vptr w, va, .func (.func 190) #[] #[]] [wrR w bs, p] fun v L => v = .tuple #[] ∧ L = [wrR w (bs ++ (cntB l.length ++ l.flatMap ptB)), p] := by
 refine Fn.intro (vs := [vptr w, va, .func (.func 190) #[] #[]]) Tryz.func191 rfl rfl ?_
 intro F W
 refine G.rdAny (p := p) hp (by (repeat' constructor)) fun aa ca e0 _ => ?_
 subst e0
 rw [List.length_append] at hl
 refine G.seq (G.region (G.mv rfl rfl (G.mv rfl rfl (G.q (Quiet.slen rfl Tryz.underlying34 rfl) rfl ?_))))
 refine G.oq (OpSpec.call Tryz.func103 rfl rfl (vs := [_, _]) rfl (ccount_spec w bs l.length (by omega) (by omega))) ?nx4
 rintro v L' ⟨rfl, rfl⟩
 refine G.nil (G.then_n (G.seq (G.region (G.mv rfl rfl (G.q (Quiet.slen rfl Tryz.underlying34 rfl) rfl (G.mv rfl rfl (G.nil (G.then_n (G.block ?_)))))))))
 refine G.wrCast (w := w) (bs' := bs ++ cntB l.length ++ (l.take 0).flatMap ptB) (by (repeat' constructor)) (by simp) ?_
 refine G.loopK (ι := Nat) (fun q E => (14, vint q) :: E) (fun q => [wrR w (bs ++ cntB l.length ++ (l.take q).flatMap ptB)]) (fun q => q ≤ l.length) (fun q => l.length - q) (0) (ts := [0, 2, 12, 13]) (.cons rfl (.cons rfl (.cons rfl (.cons rfl (.nil))))) (Nat.zero_le _) ⟨rfl, rfl, rfl, rfl, rfl, trivial⟩ (by (repeat' constructor)) ?_
 rintro j hj
 refine G.seq (G.region (G.q (Quiet.int rfl rfl rfl) rfl (G.nil (G.then_n (G.seq ?_)))))
 refine G.condD rfl (fun h15 => ?_) (fun h15 => ?_)
 ·have hj2 : j < l.length := by omega
  have hft := fm_stepL ptB hj2
  refine G.rdShape (p := p) hp (by (repeat' constructor)) (by omega) fun ba oa e => ?_
  subst e
  refine G.skip (G.then_n (G.seq (G.block (G.seq (G.region ?_)))))
  refine G.q (Quiet.indexAddr rfl rfl el_34 (by omega)) rfl ?_
  refine G.q (Quiet.loadRdA (sz := 8) (j := j * 8) (k := 8) (p := p) (vs := ptC l[j]) rfl ag_36 (by (repeat' constructor)) hp (by simp) (by omega) (by omega) (flatMap_at (f := ptC) (sz := 8) (fun _ _ => rfl) (by omega))) rfl ?_
  refine G.oq (OpSpec.allocA ze_36) ?nx12
  rintro v L' ⟨b7, rfl, rfl⟩
  refine G.oq (OpSpec.storeA rfl rfl ?c14 sz_36 ?c17 ?c15 ?c16) ?nx18
  case c14 => exact hcl _ (List.getElem_mem hj2)
  case c17 => rfl
  case c15 => simp [ptC]
  case c16 => exact nfz0 _ _
  rintro v L' rfl
  refine G.nil ?_
  refine G.ptCast (b := b7) (l' := ptC l[j]) (by (repeat' constructor)) (by exact rfl) ?_
  refine G.then_n (G.region (G.mv rfl rfl (G.mv rfl rfl ?_)))
  refine G.q (Quiet.loadAs (vs := ptC l[j]) rfl ag_36 (by (repeat' constructor)) (by simp [ptC]) rfl) rfl ?_
  refine G.oq (OpSpec.callV Tryz.func190 rfl rfl (us := []) (vs := [_, _]) (ws := []) rfl rfl (wpart_spec w _ l[j] p (hi _ (List.getElem_mem hj2)).1 ?hb22 (hi _ (List.getElem_mem hj2)).2)) ?nx23
  case hb22 => rw [List.length_append, List.length_append]; omega
  rintro v L' ⟨rfl, rfl⟩
  refine G.nil (G.blk_n (G.then_n (G.region ?_)))
  refine G.q (Quiet.add rfl rfl (by omega)) rfl ?_
  refine G.mv rfl rfl (G.nil (G.then_n ?_))
  refine G.wrCast (w := w) (bs' := bs ++ cntB l.length ++ (l.take (j + 1)).flatMap ptB) (by (repeat' constructor)) (by rw [fm_step ptB hj2, ← List.append_assoc]) ?_
  exact G.roundK (j + 1) (by omega) (by omega) ⟨rfl, rfl, rfl, rfl, rfl, trivial⟩ (by (repeat' constructor)) (by ((repeat (apply Have.cons; (repeat (first | exact Pick.here | apply Pick.there)))); apply Have.base; repeat' constructor))
 ·have hjj : j = l.length := by omega
  rw [hjj, List.take_length, List.append_assoc]
  refine G.exit (G.then_e (G.then_e (G.blk_e (G.done_n ?_))))
  exact G.dn (l := []) rfl rfl ⟨rfl, rfl⟩

theorem enB_len (e : En) : (enB e).length = ([e.zx, e.ses, e.xid].flatMap numB).length + (ptB e.x).length + (subsB e.subs).length := by unfold enB; simp only [List.length_append]
theorem pt_cells {y : Pt} (h1 : isCell y.aclV = true) (h2 : isCell y.subsV = true) : ∀ v ∈ ptC y, isCell v = true := by
  intro v hv
  simp only [ptC, List.mem_cons, List.not_mem_nil, or_false] at hv
  rcases hv with rfl | rfl | rfl | rfl | rfl | rfl | rfl | rfl
  case inr.inr.inr.inl => exact h1
  case inr.inr.inr.inr.inr.inr.inr => exact h2
  all_goals rfl
structure EnL (p : HP) (e : En) : Prop where
  w : EnW p e
  len : (enB e).length ≤ 1073741824
  few : e.subs.length ≤ 1048576 ∧ e.x.acl.length ≤ 1048576 ∧ ∀ y ∈ e.subs, y.acl.length ≤ 1048576
  cx : isCell e.x.aclV = true ∧ isCell e.x.subsV = true
  cs : ∀ y ∈ e.subs, isCell y.aclV = true ∧ isCell y.subsV = true
theorem wentry_spec (w : Nat) (e : En) (p : HP) (he : EnL p e) : Fn Tryz.prog 155 #[vptr w, .agg (enC e).toArray] [wrR w [], p] fun v L => v = .tuple #[] ∧ L = [wrR w (enB e), p] := by
 refine Fn.intro (vs := [vptr w, .agg (enC e).toArray]) Tryz.func155 rfl rfl ?_
 intro F W
 have hel := enB_len e
 have hle := he.len
 have hie := he.w.i
 have hsb : (cntB e.subs.length ++ e.subs.flatMap ptB).length = (subsB e.subs).length := rfl
 refine G.seq (G.region ?_)
 refine G.oq (OpSpec.box rfl) ?nx1
 rintro v L' ⟨b3, rfl, rfl⟩
 refine G.nil ?_
 refine G.ptCast (b := b3) (l' := enC e) (by (repeat' constructor)) (by exact rfl) ?_
 refine G.then_n (G.seq (G.region (G.mv rfl rfl (G.q (Quiet.fieldAddr rfl fo_38_0) rfl ?_))))
 refine G.q (Quiet.ld rfl ag_3) rfl ?_
 refine G.q (Quiet.fieldAddr rfl fo_38_1) rfl ?_
 refine G.q (Quiet.ld rfl ag_3) rfl ?_
 refine G.q (Quiet.fieldAddr rfl fo_38_2) rfl ?_
 refine G.q (Quiet.ld rfl ag_3) rfl ?_
 refine G.oq (OpSpec.buildSlice1 (vs := [_, _, _]) el_31 ze_3 rfl rfl rfl rfl rfl (by decide)) ?nx10
 rintro v L' ⟨b4, rfl, rfl⟩
 refine G.slMake (b := b4) (n := 3) (c := 3) (xs := ints [e.zx, e.ses, e.xid]) (by (repeat' constructor)) (by decide) (by simp) rfl ?_
 refine G.oq (OpSpec.call Tryz.func189 rfl rfl (vs := [_, _]) rfl (wnums_spec w [] _ [e.zx, e.ses, e.xid] (slR 3 1 (.slice (some ⟨b4, 0, none⟩) 3 3) 3 (ints [e.zx, e.ses, e.xid])) (fun h hp => slR_rd hp) (fun n hn => by simp only [List.mem_cons, List.not_mem_nil, or_false] at hn; rcases hn with rfl | rfl | rfl; exact hie.zx; exact hie.ses; exact hie.xid) (by simp only [List.length_nil]; omega) (by simp))) ?nx12
 rintro v L' ⟨rfl, rfl⟩; rw [List.nil_append]
 refine G.nil (G.then_n (G.seq (G.region (G.mv rfl rfl (G.q (Quiet.fieldAddr rfl fo_38_3) rfl ?_)))))
 refine G.q (Quiet.loadAs (vs := ptC e.x) rfl ag_36 (by (repeat' constructor)) (by simp [enC, ptC]) rfl) rfl ?_
 refine G.oq (OpSpec.call Tryz.func190 rfl rfl (vs := [_, _]) rfl (wpart_spec w _ e.x p he.w.x ?hb17 he.few.2.1)) ?nx18
 case hb17 => omega
 rintro v L' ⟨rfl, rfl⟩
 refine G.nil (G.then_n (G.region (G.mv rfl rfl (G.q (Quiet.fieldAddr rfl fo_38_3) rfl (G.q (Quiet.fieldAddr rfl fo_36_7) rfl ?_)))))
 refine G.q (Quiet.ld rfl ag_34) rfl ?_
 refine G.oq (OpSpec.call Tryz.func191 rfl rfl (vs := [_, _, _]) rfl (wparts_spec w _ _ e.subs p he.w.subs (fun y hy => ⟨he.w.sub hy, he.few.2.2 y hy⟩) ?hb24 he.few.1 (fun y hy => pt_cells (he.cs y hy).1 (he.cs y hy).2))) ?nx25
 case hb24 => rw [hsb, List.length_append]; omega
 rintro v L' ⟨rfl, rfl⟩
 refine G.nil (G.done_n ?_)
 refine G.wrCast (w := w) (bs' := enB e) (by (repeat' constructor)) (by unfold enB subsB; simp only [List.append_assoc]) ?_
 exact G.dn (l := []) rfl rfl ⟨rfl, rfl⟩

end Go.Proofs.YtidjhgbdokcphaaGreat

/- Own work, by program: package wire: entries laid and read: walked. -/

namespace Go.Proofs.YtidjhgbdokcphaaGreat
open Go
def entC (m0 m1 m2 : Int) : List Value := [vint m0, vint m1, vint m2, vint 0, vstr [], vstr [], nilV, vint 0, vint 0, vint 0, nilV]
def entB (b3 : Nat) (n0 n1 n2 : Int) : Nat → HP
  | 0 => ptc b3 (entC 0 0 0) 38
  | 1 => ptc b3 (entC n0 0 0) 38
  | 2 => ptc b3 (entC n0 n1 0) 38
  | _ => ptc b3 (entC n0 n1 n2) 38
theorem into_ent (b3 : Nat) (st : Rs) :
    ∀ j (hj : j < [(b3, 0), (b3, 1), (b3, 2)].length) (E : Env) (x y : Operand) (ty : TypeId), ev E x = some (addrV [(b3, 0), (b3, 1), (b3, 2)][j]) → ev E y = some (vint (numR (manyR numR j st).2).1) →
    OpSpec Tryz.prog ⟨none, .store 3 x y, ty, "", #[], none⟩ E [entB b3 (numR (manyR numR 0 st).2).1 (numR (manyR numR 1 st).2).1 (numR (manyR numR 2 st).2).1 j]
      fun _ L' => L' = [entB b3 (numR (manyR numR 0 st).2).1 (numR (manyR numR 1 st).2).1 (numR (manyR numR 2 st).2).1 (j + 1)] := by
  intro j hj E x y ty hx hy
  match j, hj with
  | 0, _ => exact OpSpec.store (off := 0) hx hy rfl sz_3 (by simp [entC]) (nfz0 _ _)
  | 1, _ => exact OpSpec.store (off := 1) hx hy rfl sz_3 (by simp [entC]) (nfz0 _ _)
  | 2, _ => exact OpSpec.store (off := 2) hx hy rfl sz_3 (by simp [entC]) (nfz0 _ _)
def partC (v0 : Int) (v1 v2 : Bs) (v3 : Value) (m0 m1 : Int) : List Value := [vint v0, vstr v1, vstr v2, v3, vint m0, vint m1, vint 0, nilV]
def partB (b3 b4 : Nat) (v0 : Int) (v1 v2 : Bs) (v3 : Value) (n0 n1 n2 : Int) : Nat → HP
  | 0 => sep [ptc b3 (partC v0 v1 v2 v3 0 0) 36, ptc b4 [vint 0] 3]
  | 1 => sep [ptc b3 (partC v0 v1 v2 v3 n0 0) 36, ptc b4 [vint 0] 3]
  | 2 => sep [ptc b3 (partC v0 v1 v2 v3 n0 n1) 36, ptc b4 [vint 0] 3]
  | _ => sep [ptc b3 (partC v0 v1 v2 v3 n0 n1) 36, ptc b4 [vint n2] 3]
theorem into_part (b3 b4 : Nat) (v0 : Int) (v1 v2 : Bs) (v3 : Value) (st : Rs) :
    ∀ j (hj : j < [(b3, 4), (b3, 5), (b4, 0)].length) (E : Env) (x y : Operand) (ty : TypeId), ev E x = some (addrV [(b3, 4), (b3, 5), (b4, 0)][j]) → ev E y = some (vint (numR (manyR numR j st).2).1) →
    OpSpec Tryz.prog ⟨none, .store 3 x y, ty, "", #[], none⟩ E [partB b3 b4 v0 v1 v2 v3 (numR (manyR numR 0 st).2).1 (numR (manyR numR 1 st).2).1 (numR (manyR numR 2 st).2).1 j]
      fun _ L' => L' = [partB b3 b4 v0 v1 v2 v3 (numR (manyR numR 0 st).2).1 (numR (manyR numR 1 st).2).1 (numR (manyR numR 2 st).2).1 (j + 1)] := by
  intro j hj E x y ty hx hy
  match j, hj with
  | 0, _ => exact OpSpec.inL (OpSpec.store (off := 4) hx hy rfl sz_3 (by simp [partC]) (nfz0 _ _))
  | 1, _ => exact OpSpec.inL (OpSpec.store (off := 5) hx hy rfl sz_3 (by simp [partC]) (nfz0 _ _))
  | 2, _ => exact OpSpec.inR (OpSpec.store (off := 0) hx hy rfl sz_3 (by simp) (nfz0 _ _))
theorem wputG_spec (e : En) (p : HP) (he : EnL p e) : Fn Tryz.prog 154 #[.agg (enC e).toArray, .func (.func 155) #[] #[]] [p] fun v L => v = vstr (enB e) ∧ L = [p] := by
 refine Fn.intro (vs := [.agg (enC e).toArray, .func (.func 155) #[] #[]]) Tryz.func154 rfl rfl ?_
 intro F W
 refine G.seq (G.region ?_)
 refine G.oq (OpSpec.box rfl) ?nx1
 rintro v L' ⟨b2, rfl, rfl⟩
 refine G.ag rfl rfl (G.nil ?_)
 refine G.ptCast (b := b2) (l' := enC e) (by (repeat' constructor)) (by exact rfl) ?_
 refine G.then_n (G.seq (G.region ?_))
 refine G.oq (OpSpec.call Tryz.func101 rfl rfl (vs := []) rfl (cnew_spec)) ?nx4
 rintro v L' ⟨cw, rfl, rfl⟩
 refine G.ag rfl rfl (G.nil (G.then_n (G.seq (G.region (G.mv rfl rfl (G.mv rfl rfl ?_))))))
 refine G.q (Quiet.loadAs (vs := enC e) rfl ag_38 (by (repeat' constructor)) (by simp [enC, ptC]) rfl) rfl ?_
 refine G.oq (OpSpec.callV Tryz.func155 rfl rfl (us := []) (vs := [_, _]) (ws := []) rfl rfl (wentry_spec cw e p he)) ?nx8
 rintro v L' ⟨rfl, rfl⟩
 refine G.nil (G.then_n (G.seq (G.region (G.mv rfl rfl ?_))))
 refine G.oq (OpSpec.call Tryz.func104 rfl rfl (vs := [_]) rfl (cbytes_spec _ _)) ?nx10
 rintro v L' ⟨rfl, rfl⟩
 refine G.ag rfl rfl (G.nil (G.then_n (G.ret ?_)))
 exact G.dn (l := [.tmp 4]) rfl rfl ⟨rfl, rfl⟩

theorem wput_spec (e : En) (p : HP) (he : EnL p e) : Fn Tryz.prog 108 #[.agg (enC e).toArray] [p] fun v L => v = vstr (enB e) ∧ L = [p] := by
 refine Fn.intro (vs := [.agg (enC e).toArray]) Tryz.func108 rfl rfl ?_
 intro F W
 refine G.seq (G.region ?_)
 refine G.oq (OpSpec.box rfl) ?nx1
 rintro v L' ⟨b1, rfl, rfl⟩
 refine G.ag rfl rfl (G.nil ?_)
 refine G.ptCast (b := b1) (l' := enC e) (by (repeat' constructor)) (by exact rfl) ?_
 refine G.then_n (G.seq (G.region ?_))
 refine G.q (Quiet.loadAs (vs := enC e) rfl ag_38 (by (repeat' constructor)) (by simp [enC, ptC]) rfl) rfl ?_
 refine G.oq (OpSpec.call Tryz.func154 rfl rfl (vs := [_, _]) rfl (wputG_spec e p he)) ?nx5
 rintro v L' ⟨rfl, rfl⟩
 refine G.ag rfl rfl (G.nil (G.then_n (G.ret ?_)))
 exact G.dn (l := [.tmp 2]) rfl rfl ⟨rfl, rfl⟩

theorem wtext_spec (r : Nat) (st : Rs) : Fn Tryz.prog 192 #[vptr r] [rdR r st] fun v L => v = vstr (txtR st).1 ∧ L = [rdR r (txtR st).2] := by
 refine Fn.intro (vs := [vptr r]) Tryz.func192 rfl rfl ?_
 intro F W
 refine G.seq (G.region (G.ag rfl rfl (G.nil (G.then_n (G.seq (G.region (G.mv rfl rfl ?_)))))))
 refine G.oq (OpSpec.call Tryz.func212 rfl rfl (vs := [_, _]) rfl (rtext_spec r 4096 (by decide) st)) ?nx3
 rintro v L' ⟨rfl, rfl⟩
 refine G.ag rfl rfl (G.nil (G.then_n (G.ret ?_)))
 exact G.dn (l := [.tmp 2]) rfl rfl ⟨rfl, rfl⟩

theorem wnum_spec (r : Nat) (st : Rs) : Fn Tryz.prog 118 #[vptr r] [rdR r st] fun v L => v = vint (numR st).1 ∧ L = [rdR r (numR st).2] := rnum_spec r st
theorem winto_spec (r : Nat) (st : Rs) (va : Value) (ad : List (Nat × Nat)) (q : HP) (hq : ∀ h : Hp, q h → rdS 1 h va ad.length (ad.map addrV)) (B : Nat → HP)
    (hB : ∀ j (hj : j < ad.length) (E : Env) (x y : Operand) (ty : TypeId), ev E x = some (addrV ad[j]) → ev E y = some (vint (numR (manyR numR j st).2).1) → OpSpec Tryz.prog ⟨none, .store 3 x y, ty, "", #[], none⟩ E [B j] fun _ L' => L' = [B (j + 1)]) (hn : ad.length ≤ 1048576) :
    Fn Tryz.prog 156 #[vptr r, va] [rdR r st, q, B 0] fun v L => v = .tuple #[] ∧ L = [rdR r (manyR numR ad.length st).2, q, B ad.length] := by
 refine Fn.intro (vs := [vptr r, va]) Tryz.func156 rfl rfl ?_
 intro F W
 refine G.rdAny (p := q) hq (by (repeat' constructor)) fun aa ca e0 _ => ?_
 subst e0
 refine G.seq (G.region (G.mv rfl rfl (G.q (Quiet.slen rfl Tryz.underlying218 rfl) rfl (G.mv rfl rfl (G.nil (G.then_n (G.block ?_)))))))
 refine G.loopK (ι := Nat) (fun q E => (8, vint q) :: E) (fun q => [rdR r (manyR numR q st).2, B q]) (fun q => q ≤ ad.length) (fun q => ad.length - q) (0) (ts := [0, 6, 7]) (.cons rfl (.cons rfl (.cons rfl (.nil)))) (Nat.zero_le _) ⟨rfl, rfl, rfl, rfl, trivial⟩ (by (repeat' constructor)) ?_
 rintro j hj
 refine G.seq (G.region (G.q (Quiet.int rfl rfl rfl) rfl (G.nil (G.then_n (G.seq ?_)))))
 refine G.condD rfl (fun h9 => ?_) (fun h9 => ?_)
 ·have hj2 : j < ad.length := by omega
  refine G.rdShape (p := q) hq (by (repeat' constructor)) (by omega) fun ba oa e => ?_
  subst e
  refine G.skip (G.then_n (G.seq (G.block (G.seq (G.region ?_)))))
  refine G.q (Quiet.indexAddr rfl rfl el_218 (by omega)) rfl ?_
  refine G.q (Quiet.loadEl (p := q) (i := j * 1) (v := addrV ad[j]) rfl ag_195 (by (repeat' constructor)) hq (by simp [hj2])) rfl ?_
  refine G.ag rfl rfl (G.nil (G.then_n (G.region (G.mv rfl rfl (G.mv rfl rfl ?_)))))
  refine G.oq (OpSpec.call Tryz.func118 rfl rfl (vs := [_]) rfl (wnum_spec r _)) ?nx8
  rintro v L' ⟨rfl, rfl⟩
  refine G.q (Quiet.nilp rfl) rfl ?_
  refine G.oq (hB j hj2 _ _ _ _ rfl rfl) ?nx11
  rintro v L' rfl
  refine G.nil (G.blk_n (G.then_n (G.region ?_)))
  refine G.q (Quiet.add rfl rfl (by omega)) rfl ?_
  refine G.mv rfl rfl (G.nil (G.then_n ?_))
  exact G.roundK (j + 1) (by omega) (by omega) ⟨rfl, rfl, rfl, rfl, trivial⟩ (by (repeat' constructor)) (by ((repeat (apply Have.cons; (repeat (first | exact Pick.here | apply Pick.there)))); apply Have.base; repeat' constructor))
 ·have hjj : j = ad.length := by omega
  rw [hjj]
  refine G.exit (G.then_e (G.then_e (G.blk_e (G.done_n ?_))))
  exact G.dn (l := []) rfl rfl ⟨rfl, rfl⟩

theorem wtacl_spec (r : Nat) (st : Rs) : Fn Tryz.prog 194 #[vptr r] [rdR r st] fun v L => v = .agg (acC (acR st).1).toArray ∧ L = [rdR r (acR st).2] := by
 refine Fn.intro (vs := [vptr r]) Tryz.func194 rfl rfl ?_
 intro F W
 refine G.seq (G.region ?_)
 refine G.oq (OpSpec.allocA ze_210) ?nx1
 rintro v L' ⟨b2, rfl, rfl⟩
 refine G.nil (G.then_n (G.seq (G.region (G.mv rfl rfl ?_))))
 refine G.oq (OpSpec.call Tryz.func118 rfl rfl (vs := [_]) rfl (wnum_spec r st)) ?nx4
 rintro v L' ⟨rfl, rfl⟩
 refine G.ag rfl rfl (G.nil (G.then_n (G.seq (G.region (G.mv rfl rfl (G.mv rfl rfl ?_))))))
 refine G.oq (OpSpec.call Tryz.func192 rfl rfl (vs := [_]) rfl (wtext_spec r _)) ?nx7
 rintro v L' ⟨rfl, rfl⟩
 refine G.q (Quiet.to (v' := .agg (acC (acR st).1).toArray) (Quiet.build (us := [(0, _), (1, _)]) fl_210 ze_210 rfl rfl (by simp [isCell])) rfl) rfl ?_
 refine G.oq (OpSpec.storeA rfl rfl ?c10 sz_210 ?c13 ?c11 ?c12) ?nx14
 case c10 => simp [acC, isCell]
 case c13 => rfl
 case c11 => simp [acC]
 case c12 => exact nfz0 _ _
 rintro v L' rfl
 refine G.nil (G.then_n (G.ret ?_))
 refine G.ptCast (b := b2) (l' := acC (acR st).1) (by (repeat' constructor)) (by exact rfl) ?_
 exact G.done1 rfl (.cellA rfl ag_210 (by (repeat' constructor)) (by simp [acC]) rfl) ⟨rfl, rfl⟩ (by (repeat' constructor)) (by (repeat' constructor))

theorem wracl_spec (r : Nat) (st : Rs) : Fn Tryz.prog 193 #[vptr r, .func (.func 194) #[] #[]] [rdR r st] fun v L => ∃ a c, v = .slice a (rowsR acR st).1.length c ∧ L = [rdR r (rowsR acR st).2, slR 210 2 v (rowsR acR st).1.length ((rowsR acR st).1.flatMap acC)] := by
 refine Fn.intro (vs := [vptr r, .func (.func 194) #[] #[]]) Tryz.func193 rfl rfl ?_
 intro F W
 obtain ⟨m, hm⟩ : ∃ m, m = (cntR st).1 := ⟨_, rfl⟩
 obtain ⟨st1, hst1⟩ : ∃ s, s = (cntR st).2 := ⟨_, rfl⟩
 have hm2 := cntR_le st
 have hrow : rowsR acR st = manyR acR m st1 := by rw [hm, hst1]; rfl
 have hml := many_len acR st1 m
 rw [hrow, hml]
 refine G.seq (G.region (G.ag rfl rfl (G.nil (G.then_n (G.seq (G.add (slR_nil 210 2) (G.region (G.ag rfl rfl (G.nil (G.then_n (G.seq (G.seq (G.region (G.mv rfl rfl ?_))))))))))))))
 refine G.oq (OpSpec.call Tryz.func119 rfl rfl (vs := [_, _]) rfl (rcount_spec r 256 (by decide) st)) ?nx4
 rintro v L' ⟨rfl, rfl⟩; rw [show (runP 0 (cntP 256) st).1 = m from hm.symm, show (runP 0 (cntP 256) st).2 = st1 from hst1.symm]
 refine G.mv rfl rfl (G.nil (G.then_n (G.block ?_)))
 refine G.loopK (ι := Nat × Value) (fun q E => (8, vint q.1) :: (5, q.2) :: E) (fun q => [rdR r (manyR acR q.1 st1).2, slR 210 2 q.2 q.1 ((manyR acR q.1 st1).1.flatMap acC)]) (fun q => q.1 ≤ m ∧ ∃ a c, q.2 = .slice a q.1 c) (fun q => m - q.1) (0, .slice none 0 0) (ts := [0, 1, 4, 7]) (.cons rfl (.cons rfl (.cons rfl (.cons rfl (.nil))))) (⟨Nat.zero_le _, none, 0, rfl⟩) ⟨rfl, rfl, rfl, rfl, rfl, rfl, trivial⟩ (by (repeat' constructor)) ?_
 rintro ⟨j, u⟩ ⟨hj, au, cu, hu⟩
 dsimp only
 dsimp only at hj hu
 subst hu
 refine G.seq (G.region (G.q (Quiet.int rfl rfl rfl) rfl (G.nil (G.then_n (G.seq ?_)))))
 refine G.condD rfl (fun h9 => ?_) (fun h9 => ?_)
 ·have hj2 : j < m := by omega
  refine G.skip (G.then_n (G.seq (G.block (G.region (G.mv rfl rfl (G.mv rfl rfl (G.mv rfl rfl ?_)))))))
  refine G.oq (OpSpec.callV Tryz.func194 rfl rfl (us := []) (vs := [_]) (ws := []) rfl rfl (wtacl_spec r _)) ?nx11
  rintro v L' ⟨rfl, rfl⟩
  refine G.oq (OpSpec.buildSlice (vs := [_]) el_33 ze_210 rfl rfl rfl rfl (by first | (simp [Value.cells]; done) | (intro v hv; simp only [List.mem_cons, List.not_mem_nil, or_false] at hv; (repeat (first | (subst hv; rfl) | (rcases hv with hv | hv; (subst hv; rfl)))))) (by decide)) ?nx13
  rintro v L' ⟨b4, rfl, rfl⟩
  refine G.oq (OpSpec.append1 rfl rfl rfl el_33 ze_210 rfl rfl ?c15 ?c16 (Nat.le_refl _) ?c17 (by decide)) ?nx18
  case c15 => simp only [List.map_cons, List.map_nil, List.flatten_cons, List.flatten_nil, List.append_nil]; simp [Value.cells, acC, isCell]
  case c16 => rfl
  case c17 => omega
  rintro v L' ⟨⟨a5, c5, rfl⟩, rfl⟩
  refine G.ag rfl rfl (G.nil (G.blk_n (G.then_n (G.region ?_))))
  refine G.q (Quiet.add rfl rfl (by omega)) rfl ?_
  refine G.mv rfl rfl (G.nil (G.then_n ?_))
  refine G.slCast (T := 210) (sz := 2) (m' := j + 1) (xs' := (manyR acR (j + 1) st1).1.flatMap acC) (by (repeat' constructor)) (by exact rfl) (by show _ = ((manyR acR j st1).1 ++ [_]).flatMap acC; rw [List.flatMap_append]; simp [Value.cells, acC]) ?_
  exact G.roundK ((j + 1, .slice a5 (j + 1) c5)) (⟨by dsimp only; omega, _, _, rfl⟩) (by dsimp only; omega) ⟨rfl, rfl, rfl, rfl, rfl, rfl, trivial⟩ (by (repeat' constructor)) (by ((repeat (apply Have.cons; (repeat (first | exact Pick.here | apply Pick.there)))); apply Have.base; repeat' constructor))
 ·have hjj : j = m := by omega
  subst hjj
  refine G.exit (G.then_e (G.then_e (G.blk_e (G.then_n (G.seq (G.region (G.mv rfl rfl (G.ag rfl rfl (G.nil (G.then_n (G.ret ?_)))))))))))
  exact G.dn (l := [.tmp 4]) rfl rfl ⟨_, _, rfl, rfl⟩

theorem wtpart_spec (r : Nat) (st : Rs) : Fn Tryz.prog 157 #[vptr r] [rdR r st] fun v L => ∃ aa ca, v = .agg (ptC ((ptR st).1.wa (.slice aa (ptR st).1.acl.length ca))).toArray ∧ L = [rdR r (ptR st).2, aclR ((ptR st).1.wa (.slice aa (ptR st).1.acl.length ca))] := by
 refine Fn.intro (vs := [vptr r]) Tryz.func157 rfl rfl ?_
 intro F W
 refine G.seq (G.region ?_)
 refine G.oq (OpSpec.allocA ze_36) ?nx1
 rintro v L' ⟨b2, rfl, rfl⟩
 refine G.nil (G.then_n (G.seq (G.region ?_)))
 refine G.oq (OpSpec.allocA ze_36) ?nx3
 rintro v L' ⟨b3, rfl, rfl⟩
 refine G.nil (G.then_n (G.seq (G.region (G.mv rfl rfl ?_))))
 refine G.oq (OpSpec.call Tryz.func118 rfl rfl (vs := [_]) rfl (wnum_spec r st)) ?nx6
 rintro v L' ⟨rfl, rfl⟩
 refine G.q (Quiet.fieldAddr rfl fo_36_0) rfl ?_
 refine G.oq (OpSpec.store rfl rfl rfl sz_3 ?c9 ?c10) ?nx11
 case c9 => first | decide | (simp; omega) | simp
 case c10 => exact nfz0 _ _
 rintro v L' rfl
 refine G.nil (G.then_n (G.seq (G.region (G.mv rfl rfl ?_))))
 refine G.oq (OpSpec.call Tryz.func192 rfl rfl (vs := [_]) rfl (wtext_spec r _)) ?nx13
 rintro v L' ⟨rfl, rfl⟩
 refine G.q (Quiet.fieldAddr rfl fo_36_1) rfl ?_
 refine G.oq (OpSpec.store rfl rfl rfl sz_9 ?c16 ?c17) ?nx18
 case c16 => first | decide | (simp; omega) | simp
 case c17 => exact nfz0 _ _
 rintro v L' rfl
 refine G.nil (G.then_n (G.seq (G.region (G.mv rfl rfl ?_))))
 refine G.oq (OpSpec.call Tryz.func192 rfl rfl (vs := [_]) rfl (wtext_spec r _)) ?nx20
 rintro v L' ⟨rfl, rfl⟩
 refine G.q (Quiet.fieldAddr rfl fo_36_2) rfl ?_
 refine G.oq (OpSpec.store rfl rfl rfl sz_9 ?c23 ?c24) ?nx25
 case c23 => first | decide | (simp; omega) | simp
 case c24 => exact nfz0 _ _
 rintro v L' rfl
 refine G.nil (G.then_n (G.seq (G.region (G.mv rfl rfl ?_))))
 refine G.oq (OpSpec.call Tryz.func193 rfl rfl (vs := [_, _]) rfl (wracl_spec r _)) ?nx27
 rintro v L' ⟨aa, ca, rfl, rfl⟩
 refine G.q (Quiet.fieldAddr rfl fo_36_3) rfl ?_
 refine G.oq (OpSpec.store rfl rfl rfl sz_33 ?c30 ?c31) ?nx32
 case c30 => first | decide | (simp; omega) | simp
 case c31 => exact nfz0 _ _
 rintro v L' rfl
 refine G.nil (G.then_n (G.seq (G.region ?_)))
 refine G.oq (OpSpec.alloc ze_3) ?nx33
 rintro v L' ⟨b4, rfl, rfl⟩
 refine G.nil (G.then_n (G.seq (G.region (G.mv rfl rfl (G.q (Quiet.fieldAddr rfl fo_36_4) rfl (G.q (Quiet.fieldAddr rfl fo_36_5) rfl ?_))))))
 refine G.oq (OpSpec.buildSlice1 (vs := [_, _, _]) el_218 ze_195 rfl rfl rfl rfl rfl (by decide)) ?nx38
 rintro v L' ⟨b5, rfl, rfl⟩
 refine G.slMake (b := b5) (n := 3) (c := 3) (xs := [(b3, 4), (b3, 5), (b4, 0)].map addrV) (by (repeat' constructor)) (by decide) (by simp) rfl ?_
 refine G.ptCast (b := b3) (l' := partC (numR st).1 (txtR (numR st).2).1 (txtR (txtR (numR st).2).2).1 (.slice aa (rowsR acR (txtR (txtR (numR st).2).2).2).1.length ca) 0 0) (by (repeat' constructor)) (by exact rfl) ?_
 refine G.fold (p := partB b3 b4 (numR st).1 (txtR (numR st).2).1 (txtR (txtR (numR st).2).2).1 (.slice aa (rowsR acR (txtR (txtR (numR st).2).2).2).1.length ca) (numR (manyR numR 0 (rowsR acR (txtR (txtR (numR st).2).2).2).2).2).1 (numR (manyR numR 1 (rowsR acR (txtR (txtR (numR st).2).2).2).2).2).1 (numR (manyR numR 2 (rowsR acR (txtR (txtR (numR st).2).2).2).2).2).1 0) (q := [ptc b3 (partC (numR st).1 (txtR (numR st).2).1 (txtR (txtR (numR st).2).2).1 (.slice aa (rowsR acR (txtR (txtR (numR st).2).2).2).1.length ca) 0 0) 36, ptc b4 [vint 0] 3]) (by (repeat' constructor)) (fun _ hp => hp) ?_
 refine G.oq (OpSpec.call Tryz.func156 rfl rfl (vs := [_, _]) rfl (winto_spec r (rowsR acR (txtR (txtR (numR st).2).2).2).2 _ [(b3, 4), (b3, 5), (b4, 0)] (slR 195 1 (.slice (some ⟨b5, 0, none⟩) 3 3) 3 ([(b3, 4), (b3, 5), (b4, 0)].map addrV)) (fun h hp => slR_rd hp) (partB b3 b4 (numR st).1 (txtR (numR st).2).1 (txtR (txtR (numR st).2).2).1 (.slice aa (rowsR acR (txtR (txtR (numR st).2).2).2).1.length ca) (numR (manyR numR 0 (rowsR acR (txtR (txtR (numR st).2).2).2).2).2).1 (numR (manyR numR 1 (rowsR acR (txtR (txtR (numR st).2).2).2).2).2).1 (numR (manyR numR 2 (rowsR acR (txtR (txtR (numR st).2).2).2).2).2).1) ?hB40 (by simp))) ?nx41
 case hB40 => exact into_part b3 b4 _ _ _ _ _
 rintro v L' ⟨rfl, rfl⟩
 refine G.nil ?_
 refine G.focus (p := partB b3 b4 (numR st).1 (txtR (numR st).2).1 (txtR (txtR (numR st).2).2).1 (.slice aa (rowsR acR (txtR (txtR (numR st).2).2).2).1.length ca) (numR (manyR numR 0 (rowsR acR (txtR (txtR (numR st).2).2).2).2).2).1 (numR (manyR numR 1 (rowsR acR (txtR (txtR (numR st).2).2).2).2).2).1 (numR (manyR numR 2 (rowsR acR (txtR (txtR (numR st).2).2).2).2).2).1 3) (by (repeat' constructor)) (G.unfold (q := [ptc b3 (partC (numR st).1 (txtR (numR st).2).1 (txtR (txtR (numR st).2).2).1 (.slice aa (rowsR acR (txtR (txtR (numR st).2).2).2).1.length ca) (numR (manyR numR 0 (rowsR acR (txtR (txtR (numR st).2).2).2).2).2).1 (numR (manyR numR 1 (rowsR acR (txtR (txtR (numR st).2).2).2).2).2).1) 36, ptc b4 [vint (numR (manyR numR 2 (rowsR acR (txtR (txtR (numR st).2).2).2).2).2).1] 3]) (fun _ hp => hp) ?_)
 simp only [List.cons_append, List.nil_append]
 refine G.then_n (G.seq (G.region ?_))
 refine G.q (Quiet.ld rfl ag_3) rfl ?_
 refine G.q (Quiet.fieldAddr rfl fo_36_6) rfl ?_
 refine G.oq (OpSpec.store rfl rfl rfl sz_25 ?c45 ?c46) ?nx47
 case c45 => simp [partC]
 case c46 => exact nfz0 _ _
 rintro v L' rfl
 refine G.nil ?_
 refine G.ptCast (b := b3) (l' := ptC ((ptR st).1.wa (.slice aa (rowsR acR (txtR (txtR (numR st).2).2).2).1.length ca))) (by (repeat' constructor)) (by exact rfl) ?_
 refine G.then_n (G.seq (G.region ?_))
 refine G.q (Quiet.loadAs (vs := ptC ((ptR st).1.wa (.slice aa (rowsR acR (txtR (txtR (numR st).2).2).2).1.length ca))) rfl ag_36 (by (repeat' constructor)) (by simp [ptC]) rfl) rfl ?_
 refine G.oq (OpSpec.storeA rfl rfl ?c49 sz_36 ?c52 ?c50 ?c51) ?nx53
 case c49 => exact pt_cells rfl rfl
 case c52 => rfl
 case c50 => simp [ptC]
 case c51 => exact nfz0 _ _
 rintro v L' rfl
 refine G.nil (G.then_n (G.ret ?_))
 refine G.ptCast (b := b2) (l' := ptC ((ptR st).1.wa (.slice aa (rowsR acR (txtR (txtR (numR st).2).2).2).1.length ca))) (by (repeat' constructor)) (by exact rfl) ?_
 exact G.done1 rfl (.cellA rfl ag_36 (by (repeat' constructor)) (by simp [ptC]) rfl) ⟨_, _, rfl, rfl⟩ (by (repeat' constructor)) (by (repeat' constructor))

structure EnK (e : En) : Prop where
  x : isCell e.x.aclV = true ∧ isCell e.x.subsV = true
  subs : ∀ y ∈ e.subs, isCell y.aclV = true ∧ y.subsV = nilV
theorem EnK.cells {e : En} (h : EnK e) : ∀ v ∈ enC e, isCell v = true := by
  intro v hv
  unfold enC at hv
  rcases List.mem_append.1 hv with hv | hv
  · simp at hv; rcases hv with rfl | rfl | rfl <;> rfl
  · exact pt_cells h.x.1 h.x.2 v hv
def pt0 : Pt := ⟨0, [], [], nilV, [], 0, 0, 0, nilV⟩
def en0 : En := ⟨0, 0, 0, pt0, []⟩
theorem entR_0 : ∀ h, entR en0 h := fun h => ⟨fun _ => none, h, fun _ => .inl rfl, fun _ _ e => (by cases e), fun _ _ e => e, slR_nil _ _ _, fun _ => none, h, fun _ => .inl rfl, fun _ _ e => (by cases e), fun _ _ e => e, slR_nil _ _ _, fun _ => none, h, fun _ => .inl rfl, fun _ _ e => (by cases e), fun _ _ e => e, trivial, trivial⟩
def GotZ (s : Bs) (e : En) (er : Int) : Prop := (er = 0 ∧ getZ s = some e.pl ∧ EnK e) ∨ (er = 120 ∧ getZ s = none ∧ e = en0)
theorem wrpart_spec (r : Nat) (st : Rs) : Fn Tryz.prog 158 #[vptr r, .func (.func 157) #[] #[]] [rdR r st] fun v L => ∃ a c, ∃ ys : List Pt, ys.map Pt.pl = (rowsR ptR st).1 ∧ (∀ y ∈ ys, isCell y.aclV = true ∧ y.subsV = nilV) ∧ v = .slice a ys.length c ∧ L = [rdR r (rowsR ptR st).2, slR 36 8 v ys.length (ys.flatMap ptC), bigR aclR ys] := by
 refine Fn.intro (vs := [vptr r, .func (.func 157) #[] #[]]) Tryz.func158 rfl rfl ?_
 intro F W
 obtain ⟨m, hm⟩ : ∃ m, m = (cntR st).1 := ⟨_, rfl⟩
 obtain ⟨st1, hst1⟩ : ∃ s, s = (cntR st).2 := ⟨_, rfl⟩
 have hm2 := cntR_le st
 have hrow : rowsR ptR st = manyR ptR m st1 := by rw [hm, hst1]; rfl
 rw [hrow]
 refine G.seq (G.region (G.ag rfl rfl (G.nil (G.then_n (G.seq (G.add (slR_nil 36 8) ?_))))))
 refine G.add (p := bigR aclR []) (fun h => big_nil h) ?_
 refine G.region (G.ag rfl rfl (G.nil (G.then_n (G.seq (G.seq (G.region (G.mv rfl rfl ?_)))))))
 refine G.oq (OpSpec.call Tryz.func119 rfl rfl (vs := [_, _]) rfl (rcount_spec r 256 (by decide) st)) ?nx4
 rintro v L' ⟨rfl, rfl⟩; rw [show (runP 0 (cntP 256) st).1 = m from hm.symm, show (runP 0 (cntP 256) st).2 = st1 from hst1.symm]
 refine G.mv rfl rfl (G.nil (G.then_n (G.block ?_)))
 refine G.loopK (ι := Nat × Value × (List Pt)) (fun q E => (8, vint q.1) :: (5, q.2.1) :: E) (fun q => [rdR r (manyR ptR q.1 st1).2, slR 36 8 q.2.1 q.1 (q.2.2.flatMap ptC), bigR aclR q.2.2]) (fun q => q.1 ≤ m ∧ (∃ a c, q.2.1 = .slice a q.1 c) ∧ q.2.2.map Pt.pl = (manyR ptR q.1 st1).1 ∧ ∀ y ∈ q.2.2, isCell y.aclV = true ∧ y.subsV = nilV) (fun q => m - q.1) (0, .slice none 0 0, []) (ts := [0, 1, 4, 7]) (.cons rfl (.cons rfl (.cons rfl (.cons rfl (.nil))))) (⟨Nat.zero_le _, ⟨none, 0, rfl⟩, rfl, fun y hy => by cases hy⟩) ⟨rfl, rfl, rfl, rfl, rfl, rfl, trivial⟩ (by (repeat' constructor)) ?_
 rintro ⟨j, u, ys⟩ ⟨hj, ⟨au, cu, hu⟩, hys, hyc⟩
 dsimp only
 dsimp only at hj hu hys hyc
 subst hu
 refine G.seq (G.region (G.q (Quiet.int rfl rfl rfl) rfl (G.nil (G.then_n (G.seq ?_)))))
 refine G.condD rfl (fun h9 => ?_) (fun h9 => ?_)
 ·have hj2 : j < m := by omega
  refine G.skip (G.then_n (G.seq (G.block (G.region (G.mv rfl rfl (G.mv rfl rfl (G.mv rfl rfl ?_)))))))
  refine G.oq (OpSpec.callV Tryz.func157 rfl rfl (us := []) (vs := [_]) (ws := []) rfl rfl (wtpart_spec r _)) ?nx11
  rintro v L' ⟨ab, cb, rfl, rfl⟩; obtain ⟨y, hy⟩ : ∃ y : Pt, y = ((ptR (manyR ptR j st1).2).1.wa (.slice ab (ptR (manyR ptR j st1).2).1.acl.length cb)) := ⟨_, rfl⟩; rw [← hy]; have hyk : isCell y.aclV = true ∧ y.subsV = nilV := by (rw [hy]; exact ⟨rfl, rfl⟩)
  refine G.oq (OpSpec.buildSlice (vs := [_]) el_34 ze_36 rfl rfl rfl rfl (by first | (simp [Value.cells]; done) | (intro v hv; simp only [List.mem_cons, List.not_mem_nil, or_false] at hv; (repeat (first | (subst hv; rfl) | (rcases hv with hv | hv; (subst hv; rfl)))))) (by decide)) ?nx13
  rintro v L' ⟨b4, rfl, rfl⟩
  refine G.oq (OpSpec.append1 rfl rfl rfl el_34 ze_36 rfl rfl ?c15 ?c16 (Nat.le_refl _) ?c17 (by decide)) ?nx18
  case c15 => simp only [List.map_cons, List.map_nil, List.flatten_cons, List.flatten_nil, List.append_nil]; simp only [Value.cells]; intro z hz; exact pt_cells (y := y) hyk.1 (by rw [hyk.2]; rfl) z (by simpa using hz)
  case c16 => rfl
  case c17 => omega
  rintro v L' ⟨⟨a5, c5, rfl⟩, rfl⟩
  refine G.ag rfl rfl (G.nil (G.blk_n (G.then_n (G.region ?_))))
  refine G.q (Quiet.add rfl rfl (by omega)) rfl ?_
  refine G.mv rfl rfl (G.nil (G.then_n ?_))
  refine G.bigAdd (f := aclR) (l := ys) (p := aclR y) y rfl (by (repeat' constructor)) ?_
  refine G.slCast (T := 36) (sz := 8) (m' := j + 1) (xs' := (ys ++ [y]).flatMap ptC) (by (repeat' constructor)) (by exact rfl) (by rw [List.flatMap_append]; simp [Value.cells]) ?_
  exact G.roundK ((j + 1, .slice a5 (j + 1) c5, ys ++ [y])) (⟨by dsimp only; omega, ⟨_, _, rfl⟩, by show (ys ++ [y]).map Pt.pl = (manyR ptR j st1).1 ++ [_]; rw [List.map_append, hys, hy]; rfl, fun z hz => by rcases List.mem_append.1 hz with hz | hz; exact hyc z hz; rw [List.mem_singleton] at hz; subst hz; rw [hy]; exact ⟨rfl, rfl⟩⟩) (by dsimp only; omega) ⟨rfl, rfl, rfl, rfl, rfl, rfl, trivial⟩ (by (repeat' constructor)) (by ((repeat (apply Have.cons; (repeat (first | exact Pick.here | apply Pick.there)))); apply Have.base; repeat' constructor))
 ·have hjj : j = m := by omega
  subst hjj
  have hyl : ys.length = j := by have h := congrArg List.length hys; rw [List.length_map, many_len] at h; exact h
  refine G.slCast (T := 36) (sz := 8) (m' := ys.length) (xs' := ys.flatMap ptC) (by (repeat' constructor)) (by rw [hyl]) rfl ?_
  refine G.exit (G.then_e (G.then_e (G.blk_e (G.then_n (G.seq (G.region (G.mv rfl rfl (G.ag rfl rfl (G.nil (G.then_n (G.ret ?_)))))))))))
  exact G.dn (l := [.tmp 4]) rfl rfl ⟨au, cu, ys, hys, hyc, by rw [hyl], rfl⟩
theorem wtent_spec (r : Nat) (st : Rs) : Fn Tryz.prog 111 #[vptr r] [rdR r st] fun v L => ∃ e : En, e.pl = (enR st).1 ∧ EnK e ∧ v = .agg (enC e).toArray ∧ L = [rdR r (enR st).2, entR e] := by
 refine Fn.intro (vs := [vptr r]) Tryz.func111 rfl rfl ?_
 intro F W
 refine G.seq (G.region ?_)
 refine G.oq (OpSpec.allocA ze_38) ?nx1
 rintro v L' ⟨b2, rfl, rfl⟩
 refine G.nil (G.then_n (G.seq (G.region ?_)))
 refine G.oq (OpSpec.allocA ze_38) ?nx3
 rintro v L' ⟨b3, rfl, rfl⟩
 refine G.nil ?_
 refine G.ptCast (b := b3) (l' := entC 0 0 0) (by (repeat' constructor)) rfl ?_
 refine G.fold (p := entB b3 (numR (manyR numR 0 st).2).1 (numR (manyR numR 1 st).2).1 (numR (manyR numR 2 st).2).1 0) (q := [ptc b3 (entC 0 0 0) 38]) (by (repeat' constructor)) (fun _ hp => (sep_one hp)) ?_
 refine G.then_n (G.seq (G.region (G.mv rfl rfl (G.q (Quiet.fieldAddr rfl fo_38_0) rfl (G.q (Quiet.fieldAddr rfl fo_38_1) rfl (G.q (Quiet.fieldAddr rfl fo_38_2) rfl ?_))))))
 refine G.oq (OpSpec.buildSlice1 (vs := [_, _, _]) el_218 ze_195 rfl rfl rfl rfl rfl (by decide)) ?nx9
 rintro v L' ⟨b5, rfl, rfl⟩
 refine G.slMake (b := b5) (n := 3) (c := 3) (xs := [(b3, 0), (b3, 1), (b3, 2)].map addrV) (by (repeat' constructor)) (by decide) (by simp) rfl ?_
 refine G.oq (OpSpec.call Tryz.func156 rfl rfl (vs := [_, _]) rfl (winto_spec r st _ [(b3, 0), (b3, 1), (b3, 2)] (slR 195 1 (.slice (some ⟨b5, 0, none⟩) 3 3) 3 ([(b3, 0), (b3, 1), (b3, 2)].map addrV)) (fun h hp => slR_rd hp) (entB b3 (numR (manyR numR 0 st).2).1 (numR (manyR numR 1 st).2).1 (numR (manyR numR 2 st).2).1) ?hB11 (by simp))) ?nx12
 case hB11 => exact into_ent b3 st
 rintro v L' ⟨rfl, rfl⟩
 refine G.nil ?_
 refine G.focus (p := entB b3 (numR (manyR numR 0 st).2).1 (numR (manyR numR 1 st).2).1 (numR (manyR numR 2 st).2).1 3) (by (repeat' constructor)) (G.unfold (q := [ptc b3 (entC (numR (manyR numR 0 st).2).1 (numR (manyR numR 1 st).2).1 (numR (manyR numR 2 st).2).1) 38]) (fun _ hp => one_sep hp) ?_)
 simp only [List.cons_append, List.nil_append]
 refine G.then_n (G.seq (G.region (G.mv rfl rfl ?_)))
 refine G.oq (OpSpec.call Tryz.func157 rfl rfl (vs := [_]) rfl (wtpart_spec r (manyR numR 3 st).2)) ?nx15
 rintro v L' ⟨ab, cb, rfl, rfl⟩; obtain ⟨y, hy⟩ : ∃ y : Pt, y = ((ptR (manyR numR 3 st).2).1.wa (.slice ab (ptR (manyR numR 3 st).2).1.acl.length cb)) := ⟨_, rfl⟩; rw [← hy]; have hyk : isCell y.aclV = true ∧ y.subsV = nilV := by (rw [hy]; exact ⟨rfl, rfl⟩)
 refine G.q (Quiet.fieldAddr rfl fo_38_3) rfl ?_
 refine G.oq (OpSpec.storeA rfl rfl ?c18 sz_36 ?c21 ?c19 ?c20) ?nx22
 case c18 => exact pt_cells (y := y) hyk.1 (by rw [hyk.2]; rfl)
 case c21 => rfl
 case c19 => simp [entC, ptC]
 case c20 => exact nfz0 _ _
 rintro v L' rfl
 refine G.nil ?_
 refine G.ptCast (b := b3) (l' := [vint (numR (manyR numR 0 st).2).1, vint (numR (manyR numR 1 st).2).1, vint (numR (manyR numR 2 st).2).1] ++ ptC y) (by (repeat' constructor)) (by exact rfl) ?_
 refine G.then_n (G.seq (G.region (G.mv rfl rfl ?_)))
 refine G.oq (OpSpec.call Tryz.func158 rfl rfl (vs := [_, _]) rfl (wrpart_spec r _)) ?nx24
 rintro v L' ⟨sa, sc, ys, hys, hyc, rfl, rfl⟩
 refine G.q (Quiet.fieldAddr rfl fo_38_3) rfl (G.q (Quiet.fieldAddr rfl fo_36_7) rfl ?_)
 refine G.oq (OpSpec.store rfl rfl rfl sz_34 ?c28 ?c29) ?nx30
 case c28 => simp [ptC]
 case c29 => exact nfz0 _ _
 rintro v L' rfl
 refine G.nil ?_
 obtain ⟨e, he⟩ : ∃ e : En, e = (⟨(numR (manyR numR 0 st).2).1, (numR (manyR numR 1 st).2).1, (numR (manyR numR 2 st).2).1, y.ws (.slice sa ys.length sc), ys⟩ : En) := ⟨_, rfl⟩
 have hek : EnK e := by rw [he]; exact ⟨⟨hyk.1, rfl⟩, hyc⟩
 refine G.ptCast (b := b3) (l' := enC e) (by (repeat' constructor)) (by rw [he]; rfl) ?_
 refine G.fold (p := entR e) (q := [aclR y, slR 36 8 (.slice sa ys.length sc) ys.length (ys.flatMap ptC), bigR aclR ys]) (by (repeat' constructor)) (fun _ hp => by rw [he]; exact hp) ?_
 refine G.then_n (G.seq (G.region ?_))
 refine G.q (Quiet.loadAs (vs := enC e) rfl ag_38 (by (repeat' constructor)) (by simp [enC, ptC]) rfl) rfl ?_
 refine G.oq (OpSpec.storeA rfl rfl ?c32 sz_38 ?c35 ?c33 ?c34) ?nx36
 case c32 => exact hek.cells
 case c35 => rfl
 case c33 => simp [enC, ptC]
 case c34 => exact nfz0 _ _
 rintro v L' rfl
 refine G.nil (G.then_n (G.ret ?_))
 refine G.ptCast (b := b2) (l' := enC e) (by (repeat' constructor)) (by exact rfl) ?_
 exact G.done1 rfl (.cellA rfl ag_38 (by (repeat' constructor)) (by simp [enC, ptC]) rfl) ⟨e, by rw [he]; unfold En.pl; dsimp only; rw [hys, hy]; rfl, hek, rfl, rfl⟩ (by (repeat' constructor)) (by (repeat' constructor))

theorem get_bad {s : Bs} (h : ¬ (enR (some s)).2 = some []) : getZ s = none := by
  unfold getZ getR
  split
  · rename_i q hq; rw [hq] at h; exact absurd rfl h
  · rfl
theorem get_ok {s : Bs} (h : (enR (some s)).2 = some []) : getZ s = some (enR (some s)).1 := by
  unfold getZ getR
  split
  · rename_i q hq; rw [hq]
  · rename_i h2; exact absurd (show enR (some s) = ((enR (some s)).1, some []) by rw [← h]) (h2 _)
theorem wgetG_spec (s : Bs) (hs : s.length ≤ 2147483648) : Fn Tryz.prog 110 #[vstr s, .func (.func 111) #[] #[]] [] fun v L => ∃ e er, GotZ s e er ∧ v = .tuple #[.agg (enC e).toArray, vint er] ∧ L = [entR e] := by
 refine Fn.intro (vs := [vstr s, .func (.func 111) #[] #[]]) Tryz.func110 rfl rfl ?_
 intro F W
 refine G.seq (G.region ?_)
 refine G.oq (OpSpec.allocA ze_38) ?nx1
 rintro v L' ⟨b4, rfl, rfl⟩
 refine G.ag rfl rfl (G.nil (G.then_n (G.seq (G.region (G.mv rfl rfl ?_)))))
 refine G.oq (OpSpec.call Tryz.func117 rfl rfl (vs := [_]) rfl (cread_spec s hs)) ?nx5
 rintro v L' ⟨r, rfl, rfl⟩
 refine G.ag rfl rfl (G.nil (G.then_n (G.seq (G.region (G.mv rfl rfl (G.mv rfl rfl ?_))))))
 refine G.oq (OpSpec.callV Tryz.func111 rfl rfl (us := []) (vs := [_]) (ws := []) rfl rfl (wtent_spec r (some s))) ?nx8
 rintro v L' ⟨e, hpl, hek, rfl, rfl⟩
 refine G.oq (OpSpec.allocA ze_38) ?nx10
 rintro v L' ⟨b7, rfl, rfl⟩
 refine G.oq (OpSpec.storeA rfl rfl ?c12 sz_38 ?c15 ?c13 ?c14) ?nx16
 case c12 => exact hek.cells
 case c15 => rfl
 case c13 => simp [enC, ptC]
 case c14 => exact nfz0 _ _
 rintro v L' rfl
 refine G.nil ?_
 refine G.ptCast (b := b7) (l' := enC e) (by (repeat' constructor)) (by exact rfl) ?_
 refine G.then_n (G.seq (G.seq (G.region (G.mv rfl rfl ?_))))
 refine G.oq (OpSpec.call Tryz.func120 rfl rfl (vs := [_]) rfl (rend_spec r _)) ?nx17
 rintro v L' ⟨e1, he1, rfl, st', rfl⟩
 refine G.q (Quiet.int rfl rfl rfl) rfl (G.nil (G.then_n ?_))
 refine G.condN rfl (fun h16 => ?_) (fun h16 => ?_)
 ·refine G.seq (G.region ?_)
  refine G.oq (OpSpec.allocA ze_38) ?nx20
  rintro v L' ⟨b8, rfl, rfl⟩
  refine G.nil ?_
  refine G.ptCast (b := b8) (l' := enC en0) (by (repeat' constructor)) (by exact rfl) ?_
  refine G.add entR_0 (G.then_n (G.seq (G.region ?_)))
  refine G.q (Quiet.loadAs (vs := enC en0) rfl ag_38 (by (repeat' constructor)) (by simp [enC, ptC]) rfl) rfl ?_
  refine G.oq (OpSpec.storeA rfl rfl ?c23 sz_38 ?c26 ?c24 ?c25) ?nx27
  case c23 => decide
  case c26 => rfl
  case c24 => simp [enC, ptC]
  case c25 => exact nfz0 _ _
  rintro v L' rfl
  refine G.ag rfl rfl (G.nil ?_)
  refine G.ptCast (b := b4) (l' := enC en0) (by (repeat' constructor)) (by exact rfl) ?_
  refine G.then_n (G.ret (G.then_r ?_))
  exact G.done2 rfl (.cellA rfl ag_38 (by (repeat' constructor)) (by simp [enC, ptC]) rfl) (.tmp rfl) ⟨en0, 120, .inr ⟨rfl, get_bad (fun g => h16 (he1.2 g)), rfl⟩, rfl, rfl⟩ (by (repeat' constructor)) (by (repeat' constructor))
 ·refine G.skip (G.then_n (G.seq (G.region ?_)))
  refine G.q (Quiet.loadAs (vs := enC e) rfl ag_38 (by (repeat' constructor)) (by simp [enC, ptC]) rfl) rfl ?_
  refine G.oq (OpSpec.storeA rfl rfl ?c30 sz_38 ?c33 ?c31 ?c32) ?nx34
  case c30 => exact hek.cells
  case c33 => rfl
  case c31 => simp [enC, ptC]
  case c32 => exact nfz0 _ _
  rintro v L' rfl
  refine G.ag rfl rfl (G.nil ?_)
  refine G.ptCast (b := b4) (l' := enC e) (by (repeat' constructor)) (by exact rfl) ?_
  refine G.then_n (G.ret ?_)
  exact G.done2 rfl (.cellA rfl ag_38 (by (repeat' constructor)) (by simp [enC, ptC]) rfl) (.tmp rfl) ⟨e, 0, .inl ⟨rfl, by rw [hpl]; exact get_ok (he1.1 h16), hek⟩, rfl, rfl⟩ (by (repeat' constructor)) (by (repeat' constructor))

theorem GotZ.cells {s : Bs} {e : En} {er : Int} (h : GotZ s e er) : ∀ v ∈ enC e, isCell v = true := by
  rcases h with ⟨-, -, h⟩ | ⟨-, -, rfl⟩
  · exact h.cells
  · decide
theorem wget_spec (s : Bs) (hs : s.length ≤ 2147483648) : Fn Tryz.prog 53 #[vstr s] [] fun v L => ∃ e er, GotZ s e er ∧ v = .tuple #[.agg (enC e).toArray, vint er] ∧ L = [entR e] := by
 refine Fn.intro (vs := [vstr s]) Tryz.func53 rfl rfl ?_
 intro F W
 refine G.seq (G.region ?_)
 refine G.oq (OpSpec.allocA ze_38) ?nx1
 rintro v L' ⟨b2, rfl, rfl⟩
 refine G.ag rfl rfl (G.nil (G.then_n (G.seq (G.region (G.mv rfl rfl ?_)))))
 refine G.oq (OpSpec.call Tryz.func110 rfl rfl (vs := [_, _]) rfl (wgetG_spec s hs)) ?nx5
 rintro v L' ⟨e, er, hg, rfl, rfl⟩
 refine G.q (Quiet.extract rfl rfl) rfl (G.q (Quiet.extract rfl rfl) rfl ?_)
 refine G.oq (OpSpec.storeA rfl rfl ?c9 sz_38 ?c12 ?c10 ?c11) ?nx13
 case c9 => exact hg.cells
 case c12 => rfl
 case c10 => simp [enC, ptC]
 case c11 => exact nfz0 _ _
 rintro v L' rfl
 refine G.ag rfl rfl (G.nil ?_)
 refine G.ptCast (b := b2) (l' := enC e) (by (repeat' constructor)) (by exact rfl) ?_
 refine G.then_n (G.ret ?_)
 exact G.done2 rfl (.cellA rfl ag_38 (by (repeat' constructor)) (by simp [enC, ptC]) rfl) (.tmp rfl) ⟨e, er, hg, rfl, rfl⟩ (by (repeat' constructor)) (by (repeat' constructor))

end Go.Proofs.YtidjhgbdokcphaaGreat

/- Own work: a ledger as plain data, in memory, and what its calls do. -/
namespace Go.Proofs.YtidjhgbdokcphaaGreat
open Go

structure Lg where
  acc : Int
  cur : Int
  base : Int
  snap : Bs
  ents : List Bs
  zxs : List Int
  doubt : Bool
def lg0 : Lg := ⟨0, 0, 0, [], [], [], false⟩
def lgR (g x : Nat) (Λ : Lg) : HP := fun h => ∃ y : (Option Addr × Nat) × (Option Addr × Nat), True ∧ sep [ptc g [vint Λ.acc, vint Λ.cur, vptr x, vint Λ.base, vstr Λ.snap, .slice y.1.1 Λ.ents.length y.1.2, .slice y.2.1 Λ.zxs.length y.2.2, .bool Λ.doubt] 79,
  strR (.slice y.1.1 Λ.ents.length y.1.2) Λ.ents, intR (.slice y.2.1 Λ.zxs.length y.2.2) Λ.zxs] h
section
variable {W : World} {n : Nat} {ds : List Deferred} {E : Env} {L R : List HP} {X : Act → World → Prop}
theorem G.lgOpen {g x : Nat} {Λ : Lg} (hL : Pick (lgR g x Λ) L R) (h : ∀ ea ec za zc, G W n ds E (ptc g [vint Λ.acc, vint Λ.cur, vptr x, vint Λ.base, vstr Λ.snap, .slice ea Λ.ents.length ec, .slice za Λ.zxs.length zc, .bool Λ.doubt] 79 :: strR (.slice ea Λ.ents.length ec) Λ.ents :: intR (.slice za Λ.zxs.length zc) Λ.zxs :: R) X) : G W n ds E L X :=
  G.focus hL (G.open (q := fun y : (Option Addr × Nat) × (Option Addr × Nat) => [ptc g [vint Λ.acc, vint Λ.cur, vptr x, vint Λ.base, vstr Λ.snap, .slice y.1.1 Λ.ents.length y.1.2, .slice y.2.1 Λ.zxs.length y.2.2, .bool Λ.doubt] 79, strR (.slice y.1.1 Λ.ents.length y.1.2) Λ.ents, intR (.slice y.2.1 Λ.zxs.length y.2.2) Λ.zxs]) (φ := fun _ => True) (fun _ hp => hp) fun y _ => h y.1.1 y.1.2 y.2.1 y.2.2)
theorem G.lgFold {g x : Nat} (Λ : Lg) {l es zs : List Value} {ea za : Option Addr} {ec zc m k : Nat} (hL : Picks [ptc g l 79, slR 9 1 (.slice ea m ec) m es, slR 3 1 (.slice za k zc) k zs] L R)
    (hl : l = [vint Λ.acc, vint Λ.cur, vptr x, vint Λ.base, vstr Λ.snap, .slice ea m ec, .slice za k zc, .bool Λ.doubt]) (hm : m = Λ.ents.length) (hk : k = Λ.zxs.length) (he : es = strs Λ.ents) (hz : zs = ints Λ.zxs) (h : G W n ds E (lgR g x Λ :: R) X) : G W n ds E L X := by
  subst hl; subst hm; subst hk; subst he; subst hz
  exact G.fold hL (fun _ hp => ⟨((ea, ec), (za, zc)), trivial, hp⟩) h
end
def lastZ (Λ : Lg) : Int := Λ.zxs.getLast?.getD Λ.base
def Lg.met (Λ : Lg) (e : Int) : Lg := if e = 2 then ⟨Λ.acc, Λ.cur, Λ.base, Λ.snap, Λ.ents, Λ.zxs, true⟩ else Λ
def metE (e : Int) : Int := if e = 30 ∨ e = 33 then 83 else e
def Lg.keep (Λ : Lg) (s : Bs) (z : Int) : Lg := ⟨Λ.acc, Λ.cur, Λ.base, Λ.snap, Λ.ents ++ [s], Λ.zxs ++ [z], Λ.doubt⟩
def chunkF : Nat → Bs → List Bs
  | 0, _ => []
  | f + 1, s => if s = [] then [] else s.take 4000 :: chunkF f (s.drop 4000)
def chunkL (s : Bs) : List Bs := chunkF s.length s
def headB (base : Int) (n : Nat) : Bs := numB base ++ cntB n
def headL (base : Int) (snap : Bs) : List Bs := headB base snap.length :: chunkL snap
theorem chunkF_more : ∀ (f g : Nat) (s : Bs), s.length ≤ f → s.length ≤ g → chunkF f s = chunkF g s
  | 0, 0, _, _, _ => rfl
  | 0, g + 1, s, h, _ => by
    have : s = [] := List.eq_nil_of_length_eq_zero (by omega)
    subst this; rfl
  | f + 1, 0, s, _, h => by
    have : s = [] := List.eq_nil_of_length_eq_zero (by omega)
    subst this; rfl
  | f + 1, g + 1, s, hf, hg => by
    unfold chunkF
    split
    · rfl
    · rename_i h
      have : 0 < s.length := List.length_pos_iff.2 h
      rw [chunkF_more f g (s.drop 4000) (by rw [List.length_drop]; omega) (by rw [List.length_drop]; omega)]
theorem chunk_cons {s : Bs} (h : s ≠ []) : chunkL s = s.take 4000 :: chunkL (s.drop 4000) := by
  have hl : 0 < s.length := List.length_pos_iff.2 h
  unfold chunkL
  rw [chunkF_more s.length (s.length - 1 + 1) s (by omega) (by omega)]
  show (if s = [] then [] else s.take 4000 :: chunkF (s.length - 1) (s.drop 4000)) = _
  rw [if_neg h, chunkF_more (s.length - 1) (s.drop 4000).length (s.drop 4000) (by rw [List.length_drop]; omega) (Nat.le_refl _)]
theorem chunk_nil' : chunkL [] = [] := rfl
def slen : Value → Nat
  | .slice _ n _ => n
  | _ => 0
def noSubs (e : En) : Bool := e.subs.all fun y => decide (slen y.subsV = 0)
def fitsE (e : En) : Bool := noSubs e && (getZ (enB e)).isSome
structure Ld where
  δ : Dk
  ω : Wl
  Λ : Lg
def metL (Λ : Lg) (r : Dk × Wl × Int) : Ld × Int := (⟨r.1, r.2.1, Λ.met r.2.2⟩, metE r.2.2)
def lgAppend (s : Ld) (e : En) : Ld × Int :=
  if s.Λ.doubt = true then (s, 2) else if fitsE e = false then (s, 1) else if e.zx ≤ lastZ s.Λ then (s, 81) else if s.Λ.ents.length = 200 ∨ ((enB e).length : Int) > roomZ s.δ s.ω then (s, 83)
  else if (metL s.Λ (appendZ s.δ s.ω (enB e))).2 = 0 then (⟨(appendZ s.δ s.ω (enB e)).1, (appendZ s.δ s.ω (enB e)).2.1, (metL s.Λ (appendZ s.δ s.ω (enB e))).1.Λ.keep (enB e) e.zx⟩, 0) else metL s.Λ (appendZ s.δ s.ω (enB e))
def lgSync (s : Ld) : Ld × Int := if s.Λ.doubt = true then (s, 2) else metL s.Λ (syncZ s.δ s.ω)
def Lg.setAcc (Λ : Lg) (n : Int) : Lg := ⟨n, Λ.cur, Λ.base, Λ.snap, Λ.ents, Λ.zxs, Λ.doubt⟩
def Lg.setCur (Λ : Lg) (n : Int) : Lg := ⟨Λ.acc, n, Λ.base, Λ.snap, Λ.ents, Λ.zxs, Λ.doubt⟩
def lgAccept (s : Ld) (n : Int) : Ld × Int :=
  if s.Λ.doubt = true then (s, 2) else if n < s.Λ.acc ∨ n > 1073741824 then (s, 82) else if n = s.Λ.acc then (s, 0)
  else if (metL s.Λ (setmZ s.δ s.ω n s.Λ.cur)).2 = 0 then (⟨(setmZ s.δ s.ω n s.Λ.cur).1, (setmZ s.δ s.ω n s.Λ.cur).2.1, (metL s.Λ (setmZ s.δ s.ω n s.Λ.cur)).1.Λ.setAcc n⟩, 0) else metL s.Λ (setmZ s.δ s.ω n s.Λ.cur)
def lgAdopt2 (s : Ld) (n : Int) : Ld × Int :=
  if (metL s.Λ (setmZ s.δ s.ω s.Λ.acc n)).2 = 0 then (⟨(setmZ s.δ s.ω s.Λ.acc n).1, (setmZ s.δ s.ω s.Λ.acc n).2.1, (metL s.Λ (setmZ s.δ s.ω s.Λ.acc n)).1.Λ.setCur n⟩, 0) else metL s.Λ (setmZ s.δ s.ω s.Λ.acc n)
def lgAdopt (s : Ld) (n : Int) : Ld × Int :=
  if s.Λ.doubt = true then (s, 2) else if n < s.Λ.cur ∨ n > s.Λ.acc then (s, 82) else if (lgSync s).2 ≠ 0 then lgSync s else lgAdopt2 (lgSync s).1 n
def markStep (out : List Int) (z : Int) : List Int :=
  if z = 0 then out else if out ≠ [] ∧ (out.getLastD 0) / 4294967296 = z / 4294967296 then out.dropLast ++ [z] else out ++ [z]
def marksZ (Λ : Lg) : List Int := (Λ.base :: Λ.zxs).foldl markStep []
structure LgI (Λ : Lg) : Prop where
  ents : Λ.ents.length ≤ 200
  same : Λ.zxs.length = Λ.ents.length
  each : ∀ s ∈ Λ.ents, s.length ≤ 1073741824
  base : I64 Λ.base
  zxs : ∀ z ∈ Λ.zxs, I64 z
end Go.Proofs.YtidjhgbdokcphaaGreat

/- Own work, by program: package ledger: walked. -/

namespace Go.Proofs.YtidjhgbdokcphaaGreat
open Go
theorem take_min (t : Bs) (k : Nat) : t.take (min k t.length) = t.take k := by
  rcases Nat.le_total k t.length with h | h
  · rw [Nat.min_eq_left h]
  · rw [Nat.min_eq_right h, List.take_of_length_le (Nat.le_refl _), List.take_of_length_le h]
theorem drop_min (t : Bs) (k : Nat) : t.drop (min k t.length) = t.drop k := by
  rcases Nat.le_total k t.length with h | h
  · rw [Nat.min_eq_left h]
  · rw [Nat.min_eq_right h, List.drop_eq_nil_of_le (Nat.le_refl _), List.drop_eq_nil_of_le h]
theorem OpSpec.shaped1 {P : Program} {E : Env} {o : Oper} {pre R : List HP} {e : TypeId} {sz k : Nat} {ys : List Value} (hk : 0 < k) (h : OpSpec P o E pre fun v L' => (∃ a c, v = .slice a k c) ∧ L' = slR e sz v k ys :: R) :
    OpSpec P o E pre fun v L' => ∃ b c, v = .slice (some ⟨b, 0, none⟩) k c ∧ L' = slR e sz v k ys :: R := by
  intro ρ w F ha hs
  refine (h ρ w F ha hs).mono ?_
  rintro v w' ⟨L', ⟨-, rfl⟩, hs', hk'⟩
  obtain ⟨h1, -, hp⟩ := sep_head hs'
  rcases hp with ⟨-, h2, -⟩ | ⟨b, cap, rest, fr, hv, -⟩
  · omega
  · exact ⟨_, ⟨b, cap, hv, rfl⟩, hs', hk'⟩
theorem lkeep_spec (g x : Nat) (Λ : Lg) (s : Bs) (z : Int) (hl : LgI Λ) : Fn Tryz.prog 51 #[vptr g, vstr s, vint z] [lgR g x Λ] fun v L => v = .tuple #[] ∧ L = [lgR g x (Λ.keep s z)] := by
 refine Fn.intro (vs := [vptr g, vstr s, vint z]) Tryz.func51 rfl rfl ?_
 intro F W
 refine G.lgOpen (by (repeat' constructor)) fun ea ec za zc => ?_
 have h1 := hl.ents
 have h2 := hl.same
 refine G.seq (G.region (G.mv rfl rfl (G.mv rfl rfl (G.q (Quiet.nilp rfl) rfl (G.q (Quiet.fieldAddr rfl fo_79_4) rfl ?_)))))
 refine G.q (Quiet.ld rfl ag_46) rfl ?_
 refine G.mv rfl rfl ?_
 refine G.oq (OpSpec.buildSlice1 (vs := [_]) el_46 ze_9 rfl rfl rfl rfl rfl (by decide)) ?nx7
 rintro v L' ⟨b0, rfl, rfl⟩
 refine G.oq (OpSpec.append1 rfl rfl rfl el_46 ze_9 rfl rfl ?c9 ?c10 (Nat.le_refl _) ?c11 (by decide)) ?nx12
 case c9 => (first | (simp [isCell]; done) | (simp [isCell, setAll, Value.cells]; done))
 case c10 => rfl
 case c11 => omega
 rintro v L' ⟨⟨a0, c0, rfl⟩, rfl⟩
 refine G.q (Quiet.nilp rfl) rfl (G.q (Quiet.fieldAddr rfl fo_79_4) rfl ?_)
 refine G.oq (OpSpec.store rfl rfl rfl sz_46 ?c16 ?c17) ?nx18
 case c16 => first | decide | (simp; omega) | simp
 case c17 => exact nfz0 _ _
 rintro v L' rfl
 refine G.nil (G.then_n (G.region (G.mv rfl rfl (G.mv rfl rfl (G.q (Quiet.nilp rfl) rfl (G.q (Quiet.fieldAddr rfl fo_79_5) rfl ?_))))))
 refine G.q (Quiet.ld rfl ag_31) rfl ?_
 refine G.mv rfl rfl ?_
 refine G.oq (OpSpec.buildSlice1 (vs := [_]) el_31 ze_3 rfl rfl rfl rfl rfl (by decide)) ?nx25
 rintro v L' ⟨b1, rfl, rfl⟩
 refine G.oq (OpSpec.append1 rfl rfl rfl el_31 ze_3 rfl rfl ?c27 ?c28 (Nat.le_refl _) ?c29 (by decide)) ?nx30
 case c27 => (first | (simp [isCell]; done) | (simp [isCell, setAll, Value.cells]; done))
 case c28 => rfl
 case c29 => omega
 rintro v L' ⟨⟨a1, c1, rfl⟩, rfl⟩
 refine G.q (Quiet.nilp rfl) rfl (G.q (Quiet.fieldAddr rfl fo_79_5) rfl ?_)
 refine G.oq (OpSpec.store rfl rfl rfl sz_31 ?c34 ?c35) ?nx36
 case c34 => first | decide | (simp; omega) | simp
 case c35 => exact nfz0 _ _
 rintro v L' rfl
 refine G.nil (G.done_n ?_)
 refine G.lgFold (g := g) (x := x) (Λ.keep s z) (by (repeat' constructor)) (by exact rfl) (by first | rfl | simp [Lg.keep]) (by first | rfl | simp [Lg.keep]) (by first | rfl | simp [Lg.keep]) (by first | rfl | simp [Lg.keep]) ?_
 exact G.dn (l := []) rfl rfl ⟨rfl, rfl⟩

theorem lmet_spec (g x : Nat) (Λ : Lg) (e : Int) : Fn Tryz.prog 50 #[vptr g, vint e] [lgR g x Λ] fun v L => v = vint (metE e) ∧ L = [lgR g x (Λ.met e)] := by
 refine Fn.intro (vs := [vptr g, vint e]) Tryz.func50 rfl rfl ?_
 intro F W
 refine G.lgOpen (by (repeat' constructor)) fun ea ec za zc => ?_
 refine G.seq (G.region (G.ag rfl rfl (G.nil (G.then_n (G.seq (G.seq (G.region (G.mv rfl rfl (G.nil (G.then_n (G.block (G.seq (G.region (G.q (Quiet.int rfl rfl rfl) rfl (G.ag rfl rfl (G.nil (G.then_n ?_)))))))))))))))))
 refine G.condD rfl (fun h6 => ?_) (fun h6 => ?_)
 ·refine G.region (G.mv rfl rfl (G.q (Quiet.nilp rfl) rfl (G.q (Quiet.fieldAddr rfl fo_79_6) rfl ?_)))
  refine G.oq (OpSpec.store rfl rfl rfl sz_4 ?c7 ?c8) ?nx9
  case c7 => first | decide | (simp; omega) | simp
  case c8 => exact nfz0 _ _
  rintro v L' rfl
  refine G.nil (G.blk_n (G.then_n (G.seq (G.region (G.mv rfl rfl (G.ag rfl rfl (G.nil (G.then_n (G.ret ?_)))))))))
  have hm : Λ.met e = ⟨Λ.acc, Λ.cur, Λ.base, Λ.snap, Λ.ents, Λ.zxs, true⟩ := by unfold Lg.met; rw [if_pos h6]
  have he : metE e = e := by unfold metE; rw [if_neg (by omega)]
  rw [hm, he]
  refine G.lgFold (g := g) (x := x) ⟨Λ.acc, Λ.cur, Λ.base, Λ.snap, Λ.ents, Λ.zxs, true⟩ (by (repeat' constructor)) (by exact rfl) (by first | rfl | simp [Lg.keep]) (by first | rfl | simp [Lg.keep]) (by first | rfl | simp [Lg.keep]) (by first | rfl | simp [Lg.keep]) ?_
  exact G.dn (l := [.tmp 4]) rfl rfl ⟨rfl, rfl⟩
 ·refine G.seq (G.seq (G.region (G.q (Quiet.int rfl rfl rfl) rfl (G.ag rfl rfl (G.nil (G.then_n ?_))))))
  refine G.dec (t := 11) rfl (fun h11 => ?_) (fun h11 => ?_)
  ·refine G.condT rfl (G.skip (G.then_n (G.condT rfl (G.seq (G.region (G.ag rfl rfl (G.nil (G.then_n (G.ret (G.blk_r (G.then_r ?_)))))))))))
   have hm : Λ.met e = Λ := by unfold Lg.met; rw [if_neg h6]
   have he : metE e = 83 := by unfold metE; rw [if_pos (by omega)]
   rw [hm, he]
   refine G.lgFold (g := g) (x := x) Λ (by (repeat' constructor)) (by exact rfl) (by first | rfl | simp [Lg.keep]) (by first | rfl | simp [Lg.keep]) (by first | rfl | simp [Lg.keep]) (by first | rfl | simp [Lg.keep]) ?_
   exact G.dn (l := [.tmp 4]) rfl rfl ⟨rfl, rfl⟩
  ·refine G.condF rfl (G.region (G.q (Quiet.int rfl rfl rfl) rfl (G.ag rfl rfl (G.nil (G.then_n ?_)))))
   refine G.dec (t := 11) rfl (fun h11 => ?_) (fun h11 => ?_)
   ·refine G.condT rfl (G.seq (G.region (G.ag rfl rfl (G.nil (G.then_n (G.ret (G.blk_r (G.then_r ?_))))))))
    have hm : Λ.met e = Λ := by unfold Lg.met; rw [if_neg h6]
    have he : metE e = 83 := by unfold metE; rw [if_pos (by omega)]
    rw [hm, he]
    refine G.lgFold (g := g) (x := x) Λ (by (repeat' constructor)) (by exact rfl) (by first | rfl | simp [Lg.keep]) (by first | rfl | simp [Lg.keep]) (by first | rfl | simp [Lg.keep]) (by first | rfl | simp [Lg.keep]) ?_
    exact G.dn (l := [.tmp 4]) rfl rfl ⟨rfl, rfl⟩
   ·refine G.condF rfl (G.skip (G.blk_n (G.then_n (G.seq (G.region (G.mv rfl rfl (G.ag rfl rfl (G.nil (G.then_n (G.ret ?_))))))))))
    have hm : Λ.met e = Λ := by unfold Lg.met; rw [if_neg h6]
    have he : metE e = e := by unfold metE; rw [if_neg (by omega)]
    rw [hm, he]
    refine G.lgFold (g := g) (x := x) Λ (by (repeat' constructor)) (by exact rfl) (by first | rfl | simp [Lg.keep]) (by first | rfl | simp [Lg.keep]) (by first | rfl | simp [Lg.keep]) (by first | rfl | simp [Lg.keep]) ?_
    exact G.dn (l := [.tmp 4]) rfl rfl ⟨rfl, rfl⟩

theorem last_nil {Λ : Lg} (h : Λ.zxs.length = 0) : lastZ Λ = Λ.base := by
  unfold lastZ; rw [List.eq_nil_of_length_eq_zero h]; rfl
theorem last_at {Λ : Lg} {i : Nat} (h : i + 1 = Λ.zxs.length) : lastZ Λ = Λ.zxs[i]'(by omega) := by
  unfold lastZ
  rw [List.getLast?_eq_getElem?, List.getElem?_eq_getElem (by omega)]
  simp only [Option.getD_some]
  congr 1; omega
theorem llast_spec (g x : Nat) (Λ : Lg) (hl : LgI Λ) : Fn Tryz.prog 17 #[vptr g] [lgR g x Λ] fun v L => v = vint (lastZ Λ) ∧ L = [lgR g x Λ] := by
 refine Fn.intro (vs := [vptr g]) Tryz.func17 rfl rfl ?_
 intro F W
 refine G.lgOpen (by (repeat' constructor)) fun ea ec za zc => ?_
 have h1 := hl.ents
 have h2 := hl.same
 refine G.seq (G.region (G.ag rfl rfl (G.nil (G.then_n (G.seq (G.seq (G.region (G.mv rfl rfl (G.q (Quiet.nilp rfl) rfl (G.q (Quiet.fieldAddr rfl fo_79_5) rfl ?_))))))))))
 refine G.q (Quiet.ld rfl ag_31) rfl ?_
 refine G.q (Quiet.slen rfl Tryz.underlying31 rfl) rfl (G.q (Quiet.int rfl rfl rfl) rfl (G.nil (G.then_n ?_)))
 refine G.condD rfl (fun h8 => ?_) (fun h8 => ?_)
 ·refine G.seq (G.region (G.mv rfl rfl (G.q (Quiet.nilp rfl) rfl (G.q (Quiet.fieldAddr rfl fo_79_2) rfl ?_))))
  refine G.q (Quiet.ld rfl ag_3) rfl ?_
  refine G.ag rfl rfl (G.nil (G.then_n (G.ret (G.then_r ?_))))
  rw [last_nil (Λ := Λ) (by omega)]
  refine G.lgFold (g := g) (x := x) Λ (by (repeat' constructor)) (by exact rfl) (by first | rfl | simp [Lg.keep]) (by first | rfl | simp [Lg.keep]) (by first | rfl | simp [Lg.keep]) (by first | rfl | simp [Lg.keep]) ?_
  exact G.dn (l := [.tmp 2]) rfl rfl ⟨rfl, rfl⟩
 ·refine G.skip (G.then_n (G.seq ?_))
  obtain ⟨i, hi⟩ : ∃ i, i + 1 = Λ.zxs.length := ⟨Λ.zxs.length - 1, by omega⟩
  refine G.slShape (v := .slice za _ zc) (xs := ints Λ.zxs) (by (repeat' constructor)) (by omega) fun bz cz e0 mbz _ => ?_
  simp only [Value.slice.injEq, true_and] at e0
  obtain ⟨rfl, rfl⟩ := e0
  refine G.draw [] [[0, 1, 2, 3, 4, 5, 6, 7, 8, 9, 10, 11, 12]] mixed (by kernel_rfl) ?_
  refine Phases.go [] (by (repeat' constructor)) ?_
  refine D.kw [1, 2, 3, 10, 11, 12] rfl (Quiet.move rfl) ?_
  refine D.kw [2, 3, 10, 11, 12] rfl (Quiet.nilp rfl) ?_
  refine D.kw [3, 10, 11, 12] rfl (Quiet.fieldAddr rfl fo_79_5) ?_
  refine D.kw [10, 11, 12] rfl (Quiet.ld rfl ag_31) ?_
  refine D.kw [5, 6, 7, 8, 9, 10, 11, 12] rfl (Quiet.move rfl) ?_
  refine D.kw [6, 7, 8, 9, 10, 11, 12] rfl (Quiet.nilp rfl) ?_
  refine D.kw [7, 8, 9, 10, 11, 12] rfl (Quiet.fieldAddr rfl fo_79_5) ?_
  refine D.kw [8, 9, 10, 11, 12] rfl (Quiet.ld rfl ag_31) ?_
  refine D.kw [9, 10, 11, 12] rfl (Quiet.slen rfl Tryz.underlying31 rfl) ?_
  refine D.kw [10, 11, 12] rfl (Quiet.as (v' := vint (i : Nat)) (by congr 1; omega) (Quiet.sub rfl rfl (by omega))) ?_
  refine D.kw [11, 12] rfl (Quiet.indexAddr rfl rfl el_31 (by omega)) ?_
  refine D.kw [12] rfl (Quiet.loadEl (p := intR (.slice (some ⟨bz, 0, none⟩) Λ.zxs.length zc) Λ.zxs) (i := i * 1) (v := vint (Λ.zxs[i]'(by omega))) rfl ag_3 (by (repeat' constructor)) (fun h hp => slR_rd hp) (by simp [List.getElem?_eq_getElem (show i < Λ.zxs.length by omega)])) ?_
  refine D.kw [] rfl (Quiet.assign rfl) ?_
  refine D.ph (Phases.fin (G.then_n (G.ret ?_)))
  rw [last_at hi]
  refine G.lgFold (g := g) (x := x) Λ (by (repeat' constructor)) (by exact rfl) (by first | rfl | simp [Lg.keep]) (by first | rfl | simp [Lg.keep]) (by first | rfl | simp [Lg.keep]) (by first | rfl | simp [Lg.keep]) ?_
  exact G.dn (l := [.tmp 2]) rfl rfl ⟨rfl, rfl⟩

theorem lahead_spec (base : Int) (snap : Bs) (hb : I64 base) (hs : snap.length ≤ 2147483648) : Fn Tryz.prog 46 #[vint base, vstr snap] [] fun v L => ∃ b c, v = .slice (some ⟨b, 0, none⟩) (headL base snap).length c ∧ L = [strR v (headL base snap)] := by
 refine Fn.intro (vs := [vint base, vstr snap]) Tryz.func46 rfl rfl ?_
 intro F W
 have hz : (numB base).length ≤ 10 := sev_len10 (zig_lt hb)
 refine G.seq (G.region (G.ag rfl rfl (G.nil (G.then_n (G.seq (G.region ?_))))))
 refine G.oq (OpSpec.call Tryz.func101 rfl rfl (vs := []) rfl (cnew_spec)) ?nx2
 rintro v L' ⟨cw, rfl, rfl⟩
 refine G.ag rfl rfl (G.nil (G.then_n (G.seq (G.region (G.mv rfl rfl (G.mv rfl rfl ?_))))))
 refine G.oq (OpSpec.call Tryz.func102 rfl rfl (vs := [_, _]) rfl (cnum_spec cw [] base hb (by simp))) ?nx5
 rintro v L' ⟨rfl, rfl⟩; rw [List.nil_append]
 refine G.nil (G.then_n (G.seq (G.region (G.mv rfl rfl (G.mv rfl rfl (G.q (Quiet.strlen rfl Tryz.underlying9 rfl) rfl ?_))))))
 refine G.oq (OpSpec.call Tryz.func103 rfl rfl (vs := [_, _]) rfl (ccount_spec cw (numB base) snap.length (by omega) (by omega))) ?nx9
 rintro v L' ⟨rfl, rfl⟩
 refine G.nil (G.then_n (G.seq (G.region (G.mv rfl rfl ?_))))
 refine G.oq (OpSpec.call Tryz.func104 rfl rfl (vs := [_]) rfl (cbytes_spec cw (numB base ++ cntB snap.length))) ?nx11
 rintro v L' ⟨rfl, rfl⟩
 refine G.oq (OpSpec.buildSlice1 (vs := [_]) el_46 ze_9 rfl rfl rfl rfl rfl (by decide)) ?nx13
 rintro v L' ⟨b4, rfl, rfl⟩
 refine G.ag rfl rfl (G.nil ?_)
 refine G.slMake (b := b4) (n := 1) (c := 1) (xs := strs [headB base snap.length]) (by (repeat' constructor)) (by decide) (by simp) rfl ?_
 refine G.then_n (G.seq (G.block ?_))
 refine G.loopK (ι := Bs × Value × (List Bs)) (fun q E => (1, vstr q.1) :: (6, q.2.1) :: E) (fun q => [strR q.2.1 q.2.2]) (fun q => q.2.2 ++ chunkL q.1 = headL base snap ∧ q.2.2.length + q.1.length ≤ 1 + snap.length ∧ ∃ b c, q.2.1 = .slice (some ⟨b, 0, none⟩) q.2.2.length c) (fun q => q.1.length) (snap, .slice (some ⟨b4, 0, none⟩) 1 1, [headB base snap.length]) (ts := [4]) (.cons rfl (.nil)) (⟨rfl, by dsimp only [List.length_cons, List.length_nil]; omega, b4, 1, rfl⟩) ⟨rfl, rfl, rfl, trivial⟩ (by (repeat' constructor)) ?_
 rintro ⟨t, u, l⟩ ⟨hl, hlt, bu, cu, hu⟩
 dsimp only
 dsimp only at hl hlt hu
 subst hu
 refine G.seq (G.seq (G.region (G.mv rfl rfl (G.q (Quiet.strne rfl rfl) rfl (G.nil (G.then_n ?_))))))
 refine G.condN rfl (fun h20 => ?_) (fun h20 => ?_)
 ·have ht : 0 < t.length := List.length_pos_iff.2 (by simpa using h20)
  refine G.skip (G.then_n (G.block (G.seq (G.region (G.mv rfl rfl (G.q (Quiet.strlen rfl Tryz.underlying9 rfl) rfl ?_))))))
  refine G.q (Quiet.as (v' := vint ((min 4000 t.length : Nat) : Int)) (by congr 1; omega) (Quiet.min2 rfl rfl)) rfl ?_
  refine G.ag rfl rfl (G.nil (G.then_n (G.seq (G.region (G.mv rfl rfl (G.mv rfl rfl (G.mv rfl rfl ?_)))))))
  refine G.q (Quiet.to (v' := vstr (t.take 4000)) (Quiet.strTo rfl rfl Tryz.underlying9 (by omega)) (by simp only [Int.toNat_natCast, take_min])) rfl ?_
  refine G.oq (OpSpec.buildSlice1 (vs := [_]) el_46 ze_9 rfl rfl rfl rfl rfl (by decide)) ?nx23
  rintro v L' ⟨b8, rfl, rfl⟩
  refine G.oq (OpSpec.shaped1 (k := l.length + 1) ?hk25 (OpSpec.append1 rfl rfl rfl el_46 ze_9 rfl rfl ?h126 ?h227 (Nat.le_refl _) ?h328 (by decide))) ?nx29
  case hk25 => omega
  case h126 => (first | (simp [isCell]; done) | (simp [isCell, setAll, Value.cells]; done))
  case h227 => rfl
  case h328 => omega
  rintro v L' ⟨b7, c7, rfl, rfl⟩
  refine G.ag rfl rfl (G.nil (G.then_n (G.region (G.mv rfl rfl (G.mv rfl rfl ?_)))))
  refine G.q (Quiet.to (v' := vstr (t.drop 4000)) (Quiet.strFrom rfl rfl Tryz.underlying9 (by omega)) (by simp only [Int.toNat_natCast, drop_min])) rfl ?_
  refine G.ag rfl rfl (G.nil (G.blk_n (G.then_n ?_)))
  refine G.slCast (T := 9) (sz := 1) (m' := (l ++ [t.take 4000]).length) (xs' := strs (l ++ [t.take 4000])) (by (repeat' constructor)) (by simp) (by simp [strs, Value.cells]) ?_
  exact G.roundK ((t.drop 4000, .slice (some ⟨b7, 0, none⟩) (l.length + 1) c7, l ++ [t.take 4000])) (⟨by dsimp only; rw [List.append_assoc, List.singleton_append, ← chunk_cons h20]; exact hl, by dsimp only; rw [List.length_append, List.length_drop, List.length_singleton]; omega, b7, c7, by simp⟩) (by dsimp only; rw [List.length_drop]; omega) ⟨rfl, rfl, rfl, trivial⟩ (by (repeat' constructor)) (by ((repeat (apply Have.cons; (repeat (first | exact Pick.here | apply Pick.there)))); apply Have.base; repeat' constructor))
 ·have ht : t = [] := by simpa using h20
  subst ht
  rw [chunk_nil', List.append_nil] at hl
  subst hl
  refine G.exit (G.then_e (G.then_e (G.blk_e (G.then_n (G.seq (G.region (G.mv rfl rfl (G.ag rfl rfl (G.nil (G.then_n (G.ret ?_)))))))))))
  exact G.dn (l := [.tmp 4]) rfl rfl ⟨_, _, rfl, rfl⟩

end Go.Proofs.YtidjhgbdokcphaaGreat

/- Own work, by program: package ledger: Append, Sync, Accept, Adopt: walked. -/

namespace Go.Proofs.YtidjhgbdokcphaaGreat
open Go
structure EnX (p : HP) (e : En) : Prop where
  l : EnL p e
  sub : ∀ y ∈ e.subs, ∃ a n c, y.subsV = .slice a n c
def hasSub (y : Pt) : Bool := decide (slen y.subsV > 0)
theorem noSubs_any (l : List Pt) : (l.all fun y => decide (slen y.subsV = 0)) = !l.any hasSub := by
  induction l with
  | nil => rfl
  | cons y l ih =>
    rw [List.all_cons, List.any_cons, ih]
    have e : decide (slen y.subsV = 0) = !hasSub y := by
      unfold hasSub
      rcases Nat.eq_zero_or_pos (slen y.subsV) with h | h
      · rw [h]; rfl
      · rw [decide_eq_false (by omega), decide_eq_true h]; rfl
    rw [e]; cases hasSub y <;> rfl
theorem LgI.met {Λ : Lg} (h : LgI Λ) (e : Int) : LgI (Λ.met e) := by
  unfold Lg.met
  split
  · exact ⟨h.ents, h.same, h.each, h.base, h.zxs⟩
  · exact h
theorem lhas_spec (y : Pt) (a : Option Addr) (n c : Nat) (hy : y.subsV = .slice a n c) : Fn Tryz.prog 107 #[.agg (ptC y).toArray] [] fun v L => v = .bool (hasSub y) ∧ L = [] := by
 refine Fn.intro (vs := [.agg (ptC y).toArray]) Tryz.func107 rfl rfl ?_
 intro F W
 refine G.seq (G.region ?_)
 refine G.oq (OpSpec.box rfl) ?nx1
 rintro v L' ⟨b1, rfl, rfl⟩
 refine G.ag rfl rfl (G.nil ?_)
 refine G.ptCast (b := b1) (l' := ptC y) (by (repeat' constructor)) rfl ?_
 refine G.then_n (G.seq (G.region (G.q (Quiet.fieldAddr rfl fo_36_7) rfl ?_)))
 refine G.q (Quiet.to (v' := .slice a n c) (Quiet.load rfl ag_34 (by (repeat' constructor)) rfl) hy) rfl ?_
 refine G.q (Quiet.slen rfl Tryz.underlying34 rfl) rfl (G.q (Quiet.int rfl rfl rfl) rfl (G.ag rfl rfl (G.nil (G.then_n (G.ret ?_)))))
 exact G.dn (l := [.tmp 2]) rfl rfl ⟨congrArg Value.bool (decide_eq_decide.2 (by rw [hy]; show _ ↔ n > 0; omega)), rfl⟩

theorem lidx_spec (v : Value) (l : List Pt) (p : HP) (hr : ∀ h : Hp, p h → rdS 8 h v l.length (l.flatMap ptC)) (hl : l.length ≤ 4294967296) (hs : ∀ y ∈ l, ∃ a n c, y.subsV = .slice a n c) : Fn Tryz.prog 153 #[v, .func (.func 107) #[] #[]] [p] fun u L => (∃ r : Int, u = vint r ∧ (decide (r ≥ 0) = l.any hasSub)) ∧ L = [p] := by
 refine Fn.intro (vs := [v, .func (.func 107) #[] #[]]) Tryz.func153 rfl rfl ?_
 intro F W
 refine G.rdAny (p := p) hr (by (repeat' constructor)) fun aa ca e _ => ?_
 subst e
 refine G.seq (G.region (G.ag rfl rfl (G.nil (G.then_n (G.seq (G.seq (G.region (G.mv rfl rfl (G.q (Quiet.slen rfl Tryz.underlying34 rfl) rfl (G.mv rfl rfl (G.nil (G.then_n (G.block ?_)))))))))))))
 refine G.loopK (ι := Nat) (fun q E => (8, vint q) :: E) (fun q => []) (fun q => q ≤ l.length ∧ ∀ j (hj : j < q) (hl : j < l.length), hasSub l[j] = false) (fun q => l.length - q) (0) (ts := [0, 1, 7]) (.cons rfl (.cons rfl (.cons rfl (.nil)))) (⟨Nat.zero_le _, fun j hj => by omega⟩) ⟨rfl, rfl, rfl, rfl, trivial⟩ (by (repeat' constructor)) ?_
 rintro i ⟨hi, hb⟩
 refine G.seq (G.region (G.q (Quiet.int rfl rfl rfl) rfl (G.nil (G.then_n (G.seq ?_)))))
 refine G.condD rfl (fun h9 => ?_) (fun h9 => ?_)
 ·have hi2 : i < l.length := by omega
  obtain ⟨sa, sn, sc, hsy⟩ := hs _ (List.getElem_mem hi2)
  refine G.rdShape (p := p) hr (by (repeat' constructor)) (by omega) fun ba oa e => ?_
  subst e
  refine G.skip (G.then_n (G.seq (G.block (G.seq (G.region (G.mv rfl rfl (G.ag rfl rfl (G.nil (G.then_n (G.seq (G.region (G.mv rfl rfl (G.mv rfl rfl (G.mv rfl rfl ?_))))))))))))))
  refine G.q (Quiet.indexAddr rfl rfl el_34 (by omega)) rfl ?_
  refine G.q (Quiet.loadRdA (sz := 8) (j := i * 8) (k := 8) (p := p) (vs := ptC l[i]) rfl ag_36 (by (repeat' constructor)) hr (by simp) (by omega) (by omega) (flatMap_at (f := ptC) (sz := 8) (fun _ _ => rfl) (by omega))) rfl ?_
  refine G.oq (OpSpec.callV Tryz.func107 rfl rfl (us := []) (vs := [_]) (ws := []) rfl rfl (lhas_spec l[i] sa sn sc hsy)) ?nx11
  rintro v L' ⟨rfl, rfl⟩
  refine G.nil (G.then_n ?_)
  refine G.condB rfl (fun h16 => ?_) (fun h16 => ?_)
  ·refine G.seq (G.region (G.mv rfl rfl (G.ag rfl rfl (G.nil (G.then_n (G.ret (G.blk_r (G.then_r (G.then_r (G.blk_r (G.then_r ?_)))))))))))
   exact G.dn (l := [.tmp 4]) rfl rfl ⟨⟨_, rfl, by rw [decide_eq_true (by omega)]; exact (List.any_eq_true.2 ⟨l[i], List.getElem_mem hi2, h16⟩).symm⟩, rfl⟩
  ·refine G.skip (G.blk_n (G.then_n (G.region ?_)))
   refine G.q (Quiet.add rfl rfl (by omega)) rfl ?_
   refine G.mv rfl rfl (G.nil (G.then_n ?_))
   exact G.roundK (i + 1) (⟨by omega, fun j hj hl => by rcases Nat.lt_or_ge j i with h | h; exact hb j h hl; obtain rfl : j = i := (by omega); exact h16⟩) (by omega) ⟨rfl, rfl, rfl, rfl, trivial⟩ (by (repeat' constructor)) (by ((repeat (apply Have.cons; (repeat (first | exact Pick.here | apply Pick.there)))); apply Have.base; repeat' constructor))
 ·refine G.exit (G.then_e (G.then_e (G.blk_e (G.then_n (G.seq (G.region (G.ag rfl rfl (G.nil (G.then_n (G.ret ?_))))))))))
  exact G.dn (l := [.tmp 4]) rfl rfl ⟨⟨_, rfl, by rw [decide_eq_false (by decide)]; symm; rw [List.any_eq_false]; intro s hs; obtain ⟨j, hj, rfl⟩ := List.mem_iff_getElem.1 hs; rw [hb j (by omega) hj]; decide⟩, rfl⟩

theorem lcontains_spec (v : Value) (l : List Pt) (p : HP) (hr : ∀ h : Hp, p h → rdS 8 h v l.length (l.flatMap ptC)) (hl : l.length ≤ 4294967296) (hs : ∀ y ∈ l, ∃ a n c, y.subsV = .slice a n c) : Fn Tryz.prog 106 #[v, .func (.func 107) #[] #[]] [p] fun u L => u = .bool (l.any hasSub) ∧ L = [p] := by
 refine Fn.intro (vs := [v, .func (.func 107) #[] #[]]) Tryz.func106 rfl rfl ?_
 intro F W
 refine G.seq (G.region (G.ag rfl rfl (G.nil (G.then_n (G.seq (G.region (G.mv rfl rfl (G.mv rfl rfl ?_))))))))
 refine G.oq (OpSpec.call Tryz.func153 rfl rfl (vs := [_, _]) rfl (lidx_spec v l p hr hl hs)) ?nx4
 rintro v' L' ⟨⟨r, rfl, hrl⟩, rfl⟩
 refine G.q (Quiet.int rfl rfl rfl) rfl (G.ag rfl rfl (G.nil (G.then_n (G.ret ?_))))
 exact G.dn (l := [.tmp 4]) rfl rfl ⟨congrArg Value.bool hrl, rfl⟩

theorem llaid_spec (e : En) (p : HP) (he : EnX p e) : Fn Tryz.prog 48 #[.agg (enC e).toArray] [p] fun v L => ∃ s1, (fitsE e = true → s1 = enB e) ∧ v = .tuple #[vstr s1, .bool (fitsE e)] ∧ L = [p] := by
 refine Fn.intro (vs := [.agg (enC e).toArray]) Tryz.func48 rfl rfl ?_
 intro F W
 have hle := he.l.len
 have hns : noSubs e = !e.subs.any hasSub := noSubs_any e.subs
 refine G.seq (G.region ?_)
 refine G.oq (OpSpec.box rfl) ?nx1
 rintro v L' ⟨b1, rfl, rfl⟩
 refine G.ag rfl rfl (G.ag rfl rfl (G.nil ?_))
 refine G.ptCast (b := b1) (l' := enC e) (by (repeat' constructor)) (by exact rfl) ?_
 refine G.then_n (G.seq (G.seq (G.region (G.q (Quiet.fieldAddr rfl fo_38_3) rfl (G.q (Quiet.fieldAddr rfl fo_36_7) rfl ?_)))))
 refine G.q (Quiet.ld rfl ag_34) rfl ?_
 refine G.oq (OpSpec.call Tryz.func106 rfl rfl (vs := [_, _]) rfl (lcontains_spec _ e.subs p he.l.w.subs (by have := he.l.few.1; omega) he.sub)) ?nx8
 rintro v L' ⟨rfl, rfl⟩
 refine G.nil (G.then_n ?_)
 refine G.condB rfl (fun h10 => ?_) (fun h10 => ?_)
 ·refine G.seq (G.region (G.ag rfl rfl (G.ag rfl rfl (G.nil (G.then_n (G.ret (G.then_r ?_)))))))
  have hf : fitsE e = false := by unfold fitsE; rw [hns, h10]; rfl
  rw [hf]
  exact G.dn (l := [.tmp 2, .tmp 3]) rfl rfl ⟨[], (fun h => by cases h), rfl, rfl⟩
 ·refine G.skip (G.then_n (G.seq (G.region ?_)))
  refine G.q (Quiet.loadAs (vs := enC e) rfl ag_38 (by (repeat' constructor)) (by simp [enC, ptC]) rfl) rfl ?_
  refine G.oq (OpSpec.call Tryz.func108 rfl rfl (vs := [_]) rfl (wput_spec e p he.l)) ?nx13
  rintro v L' ⟨rfl, rfl⟩
  refine G.ag rfl rfl (G.nil (G.then_n (G.seq (G.region (G.mv rfl rfl ?_)))))
  refine G.oq (OpSpec.call Tryz.func53 rfl rfl (vs := [_]) rfl (wget_spec (enB e) (by omega))) ?nx15
  rintro v L' ⟨ge, er, hge, rfl, rfl⟩
  refine G.mv rfl rfl (G.q (Quiet.extract rfl rfl) rfl (G.q (Quiet.extract rfl rfl) rfl ?_))
  refine G.oq (OpSpec.allocA ze_38) ?nx19
  rintro v L' ⟨b5, rfl, rfl⟩
  refine G.oq (OpSpec.storeA rfl rfl ?c21 sz_38 ?c24 ?c22 ?c23) ?nx25
  case c21 => exact hge.cells
  case c24 => rfl
  case c22 => simp [enC, ptC]
  case c23 => exact nfz0 _ _
  rintro v L' rfl
  refine G.ag rfl rfl (G.nil (G.then_n (G.seq (G.region (G.mv rfl rfl (G.mv rfl rfl ?_))))))
  refine G.q (Quiet.as (v' := .bool (fitsE e)) (by exact congrArg Value.bool (by unfold fitsE; rw [hns, h10]; rcases hge with ⟨rfl, h2, -⟩ | ⟨rfl, h2, -⟩ <;> rw [h2] <;> rfl)) (Quiet.int rfl rfl rfl)) rfl ?_
  refine G.ag rfl rfl (G.ag rfl rfl (G.nil (G.then_n (G.ret ?_))))
  exact G.dn (l := [.tmp 2, .tmp 3]) rfl rfl ⟨enB e, fun _ => rfl, rfl, rfl⟩

theorem lappend_spec (g x d : Nat) (δ : Dk) (ω : Wl) (Λ : Lg) (e : En) (p : HP) (he : EnX p e) (hI : WlI δ ω) (hΛ : LgI Λ) : Fn Tryz.prog 13 #[vptr g, .agg (enC e).toArray] [lgR g x Λ, wlR x d ω, dkR d δ, p] fun v L => v = vint (lgAppend ⟨δ, ω, Λ⟩ e).2 ∧ L = [lgR g x (lgAppend ⟨δ, ω, Λ⟩ e).1.Λ, wlR x d (lgAppend ⟨δ, ω, Λ⟩ e).1.ω, dkR d (lgAppend ⟨δ, ω, Λ⟩ e).1.δ, p] := by
 refine Fn.intro (vs := [vptr g, .agg (enC e).toArray]) Tryz.func13 rfl rfl ?_
 intro F W
 have hle := he.l.len
 have hfi := hI.fits
 have hhl := half_le hI.size
 refine G.seq (G.region ?_)
 refine G.oq (OpSpec.box rfl) ?nx1
 rintro v L' ⟨b3, rfl, rfl⟩
 refine G.ag rfl rfl (G.nil ?_)
 refine G.ptCast (b := b3) (l' := enC e) (by (repeat' constructor)) (by exact rfl) ?_
 refine G.then_n (G.seq (G.seq ?_))
 refine G.lgOpen (by (repeat' constructor)) fun ea ec za zc => ?_
 refine G.region (G.mv rfl rfl (G.q (Quiet.nilp rfl) rfl (G.q (Quiet.fieldAddr rfl fo_79_6) rfl ?_)))
 refine G.q (Quiet.ld rfl ag_4) rfl ?_
 refine G.nil (G.then_n ?_)
 refine G.condB rfl (fun h11 => ?_) (fun h11 => ?_)
 ·refine G.seq (G.region (G.ag rfl rfl (G.nil (G.then_n (G.ret (G.then_r ?_))))))
  have hr : lgAppend ⟨δ, ω, Λ⟩ e = (⟨δ, ω, Λ⟩, 2) := by unfold lgAppend; dsimp only; rw [if_pos h11]
  rw [hr]
  try dsimp only
  refine G.lgFold (g := g) (x := x) Λ (by (repeat' constructor)) (by exact rfl) (by first | rfl | simp [Lg.keep]) (by first | rfl | simp [Lg.keep]) (by first | rfl | simp [Lg.keep]) (by first | rfl | simp [Lg.keep]) ?_
  exact G.dn (l := [.tmp 4]) rfl rfl ⟨rfl, rfl⟩
 ·refine G.lgFold (g := g) (x := x) Λ (by (repeat' constructor)) (by exact rfl) (by first | rfl | simp [Lg.keep]) (by first | rfl | simp [Lg.keep]) (by first | rfl | simp [Lg.keep]) (by first | rfl | simp [Lg.keep]) ?_
  refine G.skip (G.then_n (G.seq (G.region ?_)))
  refine G.q (Quiet.loadAs (vs := enC e) rfl ag_38 (by (repeat' constructor)) (by simp [enC, ptC]) rfl) rfl ?_
  refine G.oq (OpSpec.call Tryz.func48 rfl rfl (vs := [_]) rfl (llaid_spec e p he)) ?nx10
  rintro v L' ⟨s1, hs1, rfl, rfl⟩
  refine G.mv rfl rfl (G.q (Quiet.extract rfl rfl) rfl (G.q (Quiet.extract rfl rfl) rfl (G.ag rfl rfl (G.ag rfl rfl (G.nil (G.then_n (G.seq (G.block (G.seq (G.region (G.mv rfl rfl (G.q (Quiet.not rfl) rfl (G.ag rfl rfl (G.nil (G.then_n ?_)))))))))))))))
  refine G.condB rfl (fun h17 => ?_) (fun h17 => ?_)
  ·refine G.seq (G.region (G.ag rfl rfl (G.nil (G.then_n (G.ret (G.blk_r (G.then_r ?_)))))))
   have hr : lgAppend ⟨δ, ω, Λ⟩ e = (⟨δ, ω, Λ⟩, 1) := by unfold lgAppend; dsimp only; rw [if_neg (by rw [h11]; decide), if_pos (by simpa using h17)]
   rw [hr]
   try dsimp only
   exact G.dn (l := [.tmp 4]) rfl rfl ⟨rfl, rfl⟩
  ·have hfit : fitsE e = true := by simpa using h17
   have hs1 := hs1 hfit
   subst hs1
   refine G.seq ?_
   refine G.draw [] [[0, 1, 2, 3, 4, 5]] mixed (by kernel_rfl) ?_
   refine Phases.go [ptc b3 _ _, lgR g x Λ] (by (repeat' constructor)) ?_
   refine D.kw [1, 4, 5] rfl (Quiet.fieldAddr rfl fo_38_0) ?_
   refine D.kw [4, 5] rfl (Quiet.ld rfl ag_3) ?_
   refine D.kw [3, 4, 5] rfl (Quiet.move rfl) ?_
   refine D.m rfl (by kernel_rfl) (OpSpec.call Tryz.func17 rfl rfl (vs := [_]) rfl (llast_spec g x Λ hΛ)) (by (repeat' constructor)) ?nx19
   refine D.kw [5] rfl (Quiet.int rfl rfl rfl) ?_
   refine D.kw [] rfl (Quiet.assign rfl) ?_
   refine D.ph (Phases.fin (G.then_n ?_))
   refine G.condD rfl (fun h20 => ?_) (fun h20 => ?_)
   ·refine G.seq (G.region (G.ag rfl rfl (G.nil (G.then_n (G.ret (G.blk_r (G.then_r ?_)))))))
    have hr : lgAppend ⟨δ, ω, Λ⟩ e = (⟨δ, ω, Λ⟩, 81) := by unfold lgAppend; dsimp only; rw [if_neg (by rw [h11]; decide), if_neg (by rw [hfit]; decide), if_pos h20]
    rw [hr]
    try dsimp only
    exact G.dn (l := [.tmp 4]) rfl rfl ⟨rfl, rfl⟩
   ·refine G.seq ?_
    refine G.lgOpen (by (repeat' constructor)) fun ea ec za zc => ?_
    refine G.region (G.mv rfl rfl (G.q (Quiet.nilp rfl) rfl (G.q (Quiet.fieldAddr rfl fo_79_4) rfl ?_)))
    refine G.q (Quiet.ld rfl ag_46) rfl ?_
    refine G.q (Quiet.slen rfl Tryz.underlying46 rfl) rfl (G.q (Quiet.int rfl rfl rfl) rfl (G.mv rfl rfl ?_))
    refine G.dec (t := 33) rfl (fun h8_33 => ?_) (fun h8_33 => ?_)
    ·refine G.kDT (t := 32) rfl h8_33 (G.gskip (t := 33) rfl rfl rfl rfl (G.gskip (t := 33) rfl rfl rfl rfl (G.gskip (t := 33) rfl rfl rfl rfl (G.gskip (t := 33) rfl rfl rfl rfl (G.gskip (t := 33) rfl rfl rfl rfl (G.gskip (t := 33) rfl rfl rfl rfl (G.gskip (t := 33) rfl rfl rfl rfl (G.gskip (t := 33) rfl rfl rfl rfl (G.q (Quiet.pickT rfl rfl) rfl (G.ag rfl rfl (G.nil ?_)))))))))))
     refine G.lgFold (g := g) (x := x) Λ (by (repeat' constructor)) (by exact rfl) (by first | rfl | simp [Lg.keep]) (by first | rfl | simp [Lg.keep]) (by first | rfl | simp [Lg.keep]) (by first | rfl | simp [Lg.keep]) ?_
     refine G.then_n (G.condT rfl (G.seq (G.region (G.ag rfl rfl (G.nil (G.then_n (G.ret (G.blk_r (G.then_r ?_)))))))))
     have hr : lgAppend ⟨δ, ω, Λ⟩ e = (⟨δ, ω, Λ⟩, 83) := by unfold lgAppend; dsimp only; rw [if_neg (by rw [h11]; decide), if_neg (by rw [hfit]; decide), if_neg h20, if_pos (by first | exact .inl (by omega) | exact .inr h26)]
     rw [hr]
     try dsimp only
     exact G.dn (l := [.tmp 4]) rfl rfl ⟨rfl, rfl⟩
    ·refine G.kDF (t := 32) rfl h8_33 (G.grun (t := 33) rfl rfl rfl (G.mv rfl rfl (G.grun (t := 33) rfl rfl rfl (G.q (Quiet.strlen rfl Tryz.underlying9 rfl) rfl (G.grun (t := 33) rfl rfl rfl (G.mv rfl rfl (G.grun (t := 33) rfl rfl rfl (G.q (Quiet.nilp rfl) rfl (G.grun (t := 33) rfl rfl rfl (G.q (Quiet.fieldAddr rfl fo_79_1) rfl (G.grun (t := 33) rfl rfl rfl ?_)))))))))))
     refine G.q (Quiet.ld rfl ag_77) rfl ?_
     refine G.grun (t := 33) rfl rfl rfl ?_
     refine G.oq (OpSpec.call Tryz.func49 rfl rfl (vs := [_]) rfl (wroom_spec x d ω δ hI.size (by omega))) ?nx36
     rintro v L' ⟨rfl, rfl⟩
     refine G.grun (t := 33) rfl rfl rfl (G.q (Quiet.int rfl rfl rfl) rfl (G.q (Quiet.pickF rfl rfl) rfl (G.ag rfl rfl (G.nil ?_))))
     refine G.lgFold (g := g) (x := x) Λ (by (repeat' constructor)) (by exact rfl) (by first | rfl | simp [Lg.keep]) (by first | rfl | simp [Lg.keep]) (by first | rfl | simp [Lg.keep]) (by first | rfl | simp [Lg.keep]) ?_
     refine G.then_n ?_
     refine G.condD rfl (fun h26 => ?_) (fun h26 => ?_)
     ·refine G.seq (G.region (G.ag rfl rfl (G.nil (G.then_n (G.ret (G.blk_r (G.then_r ?_)))))))
      have hr : lgAppend ⟨δ, ω, Λ⟩ e = (⟨δ, ω, Λ⟩, 83) := by unfold lgAppend; dsimp only; rw [if_neg (by rw [h11]; decide), if_neg (by rw [hfit]; decide), if_neg h20, if_pos (by first | exact .inl (by omega) | exact .inr h26)]
      rw [hr]
      try dsimp only
      exact G.dn (l := [.tmp 4]) rfl rfl ⟨rfl, rfl⟩
     ·refine G.skip (G.blk_n (G.then_n (G.seq ?_)))
      refine G.lgOpen (by (repeat' constructor)) fun ea ec za zc => ?_
      refine G.region (G.mv rfl rfl (G.mv rfl rfl (G.q (Quiet.nilp rfl) rfl (G.q (Quiet.fieldAddr rfl fo_79_1) rfl ?_))))
      refine G.q (Quiet.ld rfl ag_77) rfl ?_
      refine G.mv rfl rfl ?_
      refine G.oq (OpSpec.call Tryz.func45 rfl rfl (vs := [_, _]) rfl (wappend_spec x d ω δ (enB e) hI (by omega))) ?nx45
      rintro v L' ⟨rfl, rfl⟩
      refine G.lgFold (g := g) (x := x) Λ (by (repeat' constructor)) (by exact rfl) (by first | rfl | simp [Lg.keep]) (by first | rfl | simp [Lg.keep]) (by first | rfl | simp [Lg.keep]) (by first | rfl | simp [Lg.keep]) ?_
      refine G.oq (OpSpec.call Tryz.func50 rfl rfl (vs := [_, _]) rfl (lmet_spec g x Λ _)) ?nx47
      rintro v L' ⟨rfl, rfl⟩
      refine G.ag rfl rfl (G.nil (G.then_n (G.seq (G.seq (G.region (G.mv rfl rfl (G.q (Quiet.int rfl rfl rfl) rfl (G.nil (G.then_n ?_)))))))))
      refine G.condD rfl (fun h52 => ?_) (fun h52 => ?_)
      ·refine G.region (G.mv rfl rfl (G.mv rfl rfl (G.q (Quiet.fieldAddr rfl fo_38_0) rfl ?_)))
       refine G.q (Quiet.ld rfl ag_3) rfl ?_
       refine G.oq (OpSpec.call Tryz.func51 rfl rfl (vs := [_, _, _]) rfl (lkeep_spec g x _ (enB e) e.zx (hΛ.met _))) ?nx53
       rintro v L' ⟨rfl, rfl⟩
       refine G.nil (G.then_n (G.seq (G.region (G.mv rfl rfl (G.ag rfl rfl (G.nil (G.then_n (G.ret ?_))))))))
       have hr : lgAppend ⟨δ, ω, Λ⟩ e = (⟨(appendZ δ ω (enB e)).1, (appendZ δ ω (enB e)).2.1, (metL Λ (appendZ δ ω (enB e))).1.Λ.keep (enB e) e.zx⟩, 0) := by unfold lgAppend; dsimp only; rw [if_neg (by rw [h11]; decide), if_neg (by rw [hfit]; decide), if_neg h20, if_neg (by rintro (g | g); omega; exact h26 g), if_pos (show (metL Λ (appendZ δ ω (enB e))).2 = 0 from h52)]
       rw [hr]
       try dsimp only
       rw [h52]
       exact G.dn (l := [.tmp 4]) rfl rfl ⟨rfl, rfl⟩
      ·refine G.skip (G.then_n (G.seq (G.region (G.mv rfl rfl (G.ag rfl rfl (G.nil (G.then_n (G.ret ?_))))))))
       have hr : lgAppend ⟨δ, ω, Λ⟩ e = metL Λ (appendZ δ ω (enB e)) := by unfold lgAppend; dsimp only; rw [if_neg (by rw [h11]; decide), if_neg (by rw [hfit]; decide), if_neg h20, if_neg (by rintro (g | g); omega; exact h26 g), if_neg (show ¬ (metL Λ (appendZ δ ω (enB e))).2 = 0 from h52)]
       rw [hr]
       try dsimp only
       exact G.dn (l := [.tmp 4]) rfl rfl ⟨rfl, rfl⟩

theorem lsync_spec (g x d : Nat) (δ : Dk) (ω : Wl) (Λ : Lg) (hI : WlI δ ω) : Fn Tryz.prog 28 #[vptr g] [lgR g x Λ, wlR x d ω, dkR d δ] fun v L => v = vint (lgSync ⟨δ, ω, Λ⟩).2 ∧ L = [lgR g x (lgSync ⟨δ, ω, Λ⟩).1.Λ, wlR x d (lgSync ⟨δ, ω, Λ⟩).1.ω, dkR d (lgSync ⟨δ, ω, Λ⟩).1.δ] := by
 refine Fn.intro (vs := [vptr g]) Tryz.func28 rfl rfl ?_
 intro F W
 refine G.seq (G.region (G.ag rfl rfl (G.nil (G.then_n (G.seq (G.seq ?_))))))
 refine G.lgOpen (by (repeat' constructor)) fun ea ec za zc => ?_
 refine G.region (G.mv rfl rfl (G.q (Quiet.nilp rfl) rfl (G.q (Quiet.fieldAddr rfl fo_79_6) rfl ?_)))
 refine G.q (Quiet.ld rfl ag_4) rfl ?_
 refine G.nil (G.then_n ?_)
 refine G.condB rfl (fun h6 => ?_) (fun h6 => ?_)
 ·refine G.seq (G.region (G.ag rfl rfl (G.nil (G.then_n (G.ret (G.then_r ?_))))))
  have hr : lgSync ⟨δ, ω, Λ⟩ = (⟨δ, ω, Λ⟩, 2) := by unfold lgSync; dsimp only; rw [if_pos h6]
  rw [hr]
  try dsimp only
  refine G.lgFold (g := g) (x := x) Λ (by (repeat' constructor)) (by exact rfl) (by first | rfl | simp [Lg.keep]) (by first | rfl | simp [Lg.keep]) (by first | rfl | simp [Lg.keep]) (by first | rfl | simp [Lg.keep]) ?_
  exact G.dn (l := [.tmp 2]) rfl rfl ⟨rfl, rfl⟩
 ·refine G.skip (G.then_n (G.seq (G.region (G.mv rfl rfl (G.mv rfl rfl (G.q (Quiet.nilp rfl) rfl (G.q (Quiet.fieldAddr rfl fo_79_1) rfl ?_)))))))
  refine G.q (Quiet.ld rfl ag_77) rfl ?_
  refine G.oq (OpSpec.call Tryz.func47 rfl rfl (vs := [_]) rfl (wsync_spec x d ω δ hI)) ?nx12
  rintro v L' ⟨rfl, rfl⟩
  refine G.lgFold (g := g) (x := x) Λ (by (repeat' constructor)) (by exact rfl) (by first | rfl | simp [Lg.keep]) (by first | rfl | simp [Lg.keep]) (by first | rfl | simp [Lg.keep]) (by first | rfl | simp [Lg.keep]) ?_
  refine G.oq (OpSpec.call Tryz.func50 rfl rfl (vs := [_, _]) rfl (lmet_spec g x Λ _)) ?nx14
  rintro v L' ⟨rfl, rfl⟩
  refine G.ag rfl rfl (G.nil (G.then_n (G.ret ?_)))
  have hr : lgSync ⟨δ, ω, Λ⟩ = metL Λ (syncZ δ ω) := by unfold lgSync; dsimp only; rw [if_neg (by rw [h6]; decide)]
  rw [hr]
  try dsimp only
  exact G.dn (l := [.tmp 2]) rfl rfl ⟨rfl, rfl⟩

theorem lmetO_spec (g x : Nat) (Λ : Lg) (e : Int) (ea : Option Addr) (ec : Nat) (za : Option Addr) (zc : Nat) : Fn Tryz.prog 50 #[vptr g, vint e] [ptc g [vint Λ.acc, vint Λ.cur, vptr x, vint Λ.base, vstr Λ.snap, .slice ea Λ.ents.length ec, .slice za Λ.zxs.length zc, .bool Λ.doubt] 79, strR (.slice ea Λ.ents.length ec) Λ.ents, intR (.slice za Λ.zxs.length zc) Λ.zxs]
    fun v L => v = vint (metE e) ∧ L = [lgR g x (Λ.met e)] := by
  intro F w hs
  have hs' : St ([lgR g x Λ] ++ F) w := sep_imp (p := sep _) (fun _ hp => ⟨((ea, ec), (za, zc)), trivial, hp⟩) (sep_fold hs)
  exact lmet_spec g x Λ e F w hs'
theorem laccept_spec (g x d : Nat) (δ : Dk) (ω : Wl) (Λ : Lg) (n : Int) (hI : WlI δ ω) : Fn Tryz.prog 39 #[vptr g, vint n] [lgR g x Λ, wlR x d ω, dkR d δ] fun v L => v = vint (lgAccept ⟨δ, ω, Λ⟩ n).2 ∧ L = [lgR g x (lgAccept ⟨δ, ω, Λ⟩ n).1.Λ, wlR x d (lgAccept ⟨δ, ω, Λ⟩ n).1.ω, dkR d (lgAccept ⟨δ, ω, Λ⟩ n).1.δ] := by
 refine Fn.intro (vs := [vptr g, vint n]) Tryz.func39 rfl rfl ?_
 intro F W
 refine G.lgOpen (by (repeat' constructor)) fun ea ec za zc => ?_
 refine G.seq (G.region (G.ag rfl rfl (G.nil (G.then_n (G.seq (G.block (G.seq (G.region (G.mv rfl rfl (G.q (Quiet.nilp rfl) rfl (G.q (Quiet.fieldAddr rfl fo_79_6) rfl ?_)))))))))))
 refine G.q (Quiet.ld rfl ag_4) rfl ?_
 refine G.ag rfl rfl (G.nil (G.then_n ?_))
 refine G.condB rfl (fun h6 => ?_) (fun h6 => ?_)
 ·refine G.seq (G.region (G.ag rfl rfl (G.nil (G.then_n (G.ret (G.blk_r (G.then_r ?_)))))))
  have hr : lgAccept ⟨δ, ω, Λ⟩ n = (⟨δ, ω, Λ⟩, 2) := by unfold lgAccept; dsimp only; rw [if_pos h6]
  rw [hr]
  try dsimp only
  refine G.lgFold (g := g) (x := x) Λ (by (repeat' constructor)) (by exact rfl) (by first | rfl | simp [Lg.keep]) (by first | rfl | simp [Lg.keep]) (by first | rfl | simp [Lg.keep]) (by first | rfl | simp [Lg.keep]) ?_
  exact G.dn (l := [.tmp 4]) rfl rfl ⟨rfl, rfl⟩
 ·refine G.seq (G.region (G.mv rfl rfl (G.mv rfl rfl (G.q (Quiet.nilp rfl) rfl (G.q (Quiet.fieldAddr rfl fo_79_0) rfl (G.q (Quiet.fieldAddr rfl fo_76_0) rfl ?_))))))
  refine G.q (Quiet.ld rfl ag_3) rfl ?_
  refine G.q (Quiet.int rfl rfl rfl) rfl (G.mv rfl rfl ?_)
  refine G.dec (t := 19) rfl (fun h3_19 => ?_) (fun h3_19 => ?_)
  ·refine G.kDT (t := 18) rfl h3_19 (G.gskip (t := 19) rfl rfl rfl rfl (G.gskip (t := 19) rfl rfl rfl rfl (G.q (Quiet.pickT rfl rfl) rfl (G.ag rfl rfl (G.nil (G.then_n (G.condT rfl (G.seq (G.region (G.ag rfl rfl (G.nil (G.then_n (G.ret (G.blk_r (G.then_r ?_)))))))))))))))
   have hr : lgAccept ⟨δ, ω, Λ⟩ n = (⟨δ, ω, Λ⟩, 82) := by unfold lgAccept; dsimp only; rw [if_neg (by rw [h6]; decide), if_pos (by first | exact .inl h3_19 | exact .inr h11)]
   rw [hr]
   try dsimp only
   refine G.lgFold (g := g) (x := x) Λ (by (repeat' constructor)) (by exact rfl) (by first | rfl | simp [Lg.keep]) (by first | rfl | simp [Lg.keep]) (by first | rfl | simp [Lg.keep]) (by first | rfl | simp [Lg.keep]) ?_
   exact G.dn (l := [.tmp 4]) rfl rfl ⟨rfl, rfl⟩
  ·refine G.kDF (t := 18) rfl h3_19 (G.grun (t := 19) rfl rfl rfl (G.mv rfl rfl (G.grun (t := 19) rfl rfl rfl (G.q (Quiet.int rfl rfl rfl) rfl (G.q (Quiet.pickF rfl rfl) rfl (G.ag rfl rfl (G.nil (G.then_n ?_))))))))
   refine G.condD rfl (fun h11 => ?_) (fun h11 => ?_)
   ·refine G.seq (G.region (G.ag rfl rfl (G.nil (G.then_n (G.ret (G.blk_r (G.then_r ?_)))))))
    have hr : lgAccept ⟨δ, ω, Λ⟩ n = (⟨δ, ω, Λ⟩, 82) := by unfold lgAccept; dsimp only; rw [if_neg (by rw [h6]; decide), if_pos (by first | exact .inl h3_19 | exact .inr h11)]
    rw [hr]
    try dsimp only
    refine G.lgFold (g := g) (x := x) Λ (by (repeat' constructor)) (by exact rfl) (by first | rfl | simp [Lg.keep]) (by first | rfl | simp [Lg.keep]) (by first | rfl | simp [Lg.keep]) (by first | rfl | simp [Lg.keep]) ?_
    exact G.dn (l := [.tmp 4]) rfl rfl ⟨rfl, rfl⟩
   ·refine G.seq (G.region (G.mv rfl rfl (G.mv rfl rfl (G.q (Quiet.nilp rfl) rfl (G.q (Quiet.fieldAddr rfl fo_79_0) rfl (G.q (Quiet.fieldAddr rfl fo_76_0) rfl ?_))))))
    refine G.q (Quiet.ld rfl ag_3) rfl ?_
    refine G.q (Quiet.int rfl rfl rfl) rfl (G.ag rfl rfl (G.nil (G.then_n ?_)))
    refine G.condD rfl (fun h23 => ?_) (fun h23 => ?_)
    ·refine G.seq (G.region (G.ag rfl rfl (G.nil (G.then_n (G.ret (G.blk_r (G.then_r ?_)))))))
     have hr : lgAccept ⟨δ, ω, Λ⟩ n = (⟨δ, ω, Λ⟩, 0) := by unfold lgAccept; dsimp only; rw [if_neg (by rw [h6]; decide), if_neg (by rintro (g1 | g1); exact h3_19 g1; exact h11 g1), if_pos h23]
     rw [hr]
     try dsimp only
     refine G.lgFold (g := g) (x := x) Λ (by (repeat' constructor)) (by exact rfl) (by first | rfl | simp [Lg.keep]) (by first | rfl | simp [Lg.keep]) (by first | rfl | simp [Lg.keep]) (by first | rfl | simp [Lg.keep]) ?_
     exact G.dn (l := [.tmp 4]) rfl rfl ⟨rfl, rfl⟩
    ·refine G.skip (G.blk_n (G.then_n (G.seq ?_)))
     refine G.draw [11, 12] [[0, 1, 2, 3, 4, 5, 6, 7, 8, 9, 10, 11], [12], [13]] mixed (by kernel_rfl) ?_
     refine Phases.go [] (by (repeat' constructor)) ?_
     refine D.k rfl (Quiet.move rfl) ?_
     refine D.kw [2, 3, 4, 11] rfl (Quiet.move rfl) ?_
     refine D.kw [3, 4, 11] rfl (Quiet.nilp rfl) ?_
     refine D.kw [4, 11] rfl (Quiet.fieldAddr rfl fo_79_1) ?_
     refine D.kw [11] rfl (Quiet.ld rfl ag_77) ?_
     refine D.kw [11] rfl (Quiet.move rfl) ?_
     refine D.kw [7, 8, 9, 10, 11] rfl (Quiet.move rfl) ?_
     refine D.kw [8, 9, 10, 11] rfl (Quiet.nilp rfl) ?_
     refine D.kw [9, 10, 11] rfl (Quiet.fieldAddr rfl fo_79_0) ?_
     refine D.kw [10, 11] rfl (Quiet.fieldAddr rfl fo_76_1) ?_
     refine D.kw [11] rfl (Quiet.ld rfl ag_3) ?_
     refine D.h rfl (by kernel_rfl) (OpSpec.call Tryz.func83 rfl rfl (vs := [_, _, _]) rfl (wmark_spec x d ω δ n Λ.cur hI)) (by (repeat' constructor)) ?nx38
     rintro v L' ⟨rfl, rfl⟩
     refine D.ph ?_
     refine Phases.go [] (by (repeat' constructor)) ?_
     refine D.h rfl (by kernel_rfl) (OpSpec.call Tryz.func50 rfl rfl (vs := [_, _]) rfl (lmetO_spec g x Λ _ ea ec za zc)) (by (repeat' constructor)) ?nx40
     rintro v L' ⟨rfl, rfl⟩
     refine D.ph ?_
     refine Phases.go [] (by (repeat' constructor)) ?_
     refine D.kw [] rfl (Quiet.assign rfl) ?_
     refine D.ph (Phases.fin (G.then_n (G.seq (G.seq (G.region (G.mv rfl rfl (G.q (Quiet.int rfl rfl rfl) rfl (G.nil (G.then_n ?_)))))))))
     refine G.condD rfl (fun h45 => ?_) (fun h45 => ?_)
     ·refine G.lgOpen (by (repeat' constructor)) fun ea ec za zc => ?_
      refine G.region (G.mv rfl rfl (G.mv rfl rfl (G.q (Quiet.nilp rfl) rfl (G.q (Quiet.fieldAddr rfl fo_79_0) rfl (G.q (Quiet.fieldAddr rfl fo_76_0) rfl ?_)))))
      refine G.oq (OpSpec.store rfl rfl rfl sz_3 ?c48 ?c49) ?nx50
      case c48 => first | decide | (simp; omega) | simp
      case c49 => exact nfz0 _ _
      rintro v L' rfl
      refine G.nil (G.then_n (G.seq (G.region (G.mv rfl rfl (G.ag rfl rfl (G.nil (G.then_n (G.ret ?_))))))))
      have hr : lgAccept ⟨δ, ω, Λ⟩ n = (⟨(setmZ δ ω n Λ.cur).1, (setmZ δ ω n Λ.cur).2.1, (metL Λ (setmZ δ ω n Λ.cur)).1.Λ.setAcc n⟩, 0) := by unfold lgAccept; dsimp only; rw [if_neg (by rw [h6]; decide), if_neg (by rintro (g1 | g1); exact h3_19 g1; exact h11 g1), if_neg h23, if_pos (show (metL Λ (setmZ δ ω n Λ.cur)).2 = 0 from h45)]
      rw [hr]
      try dsimp only
      rw [h45]
      refine G.lgFold (g := g) (x := x) ((Λ.met (setmZ δ ω n Λ.cur).2.2).setAcc n) (by (repeat' constructor)) (by exact rfl) (by first | rfl | simp [Lg.keep]) (by first | rfl | simp [Lg.keep]) (by first | rfl | simp [Lg.keep]) (by first | rfl | simp [Lg.keep]) ?_
      exact G.dn (l := [.tmp 4]) rfl rfl ⟨rfl, rfl⟩
     ·refine G.skip (G.then_n (G.seq (G.region (G.mv rfl rfl (G.ag rfl rfl (G.nil (G.then_n (G.ret ?_))))))))
      have hr : lgAccept ⟨δ, ω, Λ⟩ n = metL Λ (setmZ δ ω n Λ.cur) := by unfold lgAccept; dsimp only; rw [if_neg (by rw [h6]; decide), if_neg (by rintro (g1 | g1); exact h3_19 g1; exact h11 g1), if_neg h23, if_neg (show ¬ (metL Λ (setmZ δ ω n Λ.cur)).2 = 0 from h45)]
      rw [hr]
      try dsimp only
      exact G.dn (l := [.tmp 4]) rfl rfl ⟨rfl, rfl⟩

theorem ladopt_spec (g x d : Nat) (δ : Dk) (ω : Wl) (Λ : Lg) (n : Int) (hI : WlI δ ω) (hI1 : WlI (lgSync ⟨δ, ω, Λ⟩).1.δ (lgSync ⟨δ, ω, Λ⟩).1.ω) : Fn Tryz.prog 43 #[vptr g, vint n] [lgR g x Λ, wlR x d ω, dkR d δ] fun v L => v = vint (lgAdopt ⟨δ, ω, Λ⟩ n).2 ∧ L = [lgR g x (lgAdopt ⟨δ, ω, Λ⟩ n).1.Λ, wlR x d (lgAdopt ⟨δ, ω, Λ⟩ n).1.ω, dkR d (lgAdopt ⟨δ, ω, Λ⟩ n).1.δ] := by
 refine Fn.intro (vs := [vptr g, vint n]) Tryz.func43 rfl rfl ?_
 intro F W
 refine G.lgOpen (by (repeat' constructor)) fun ea ec za zc => ?_
 refine G.seq (G.region (G.ag rfl rfl (G.nil (G.then_n (G.seq (G.block (G.seq (G.region (G.mv rfl rfl (G.q (Quiet.nilp rfl) rfl (G.q (Quiet.fieldAddr rfl fo_79_6) rfl ?_)))))))))))
 refine G.q (Quiet.ld rfl ag_4) rfl ?_
 refine G.ag rfl rfl (G.nil (G.then_n ?_))
 refine G.condB rfl (fun h7 => ?_) (fun h7 => ?_)
 ·refine G.seq (G.region (G.ag rfl rfl (G.nil (G.then_n (G.ret (G.blk_r (G.then_r ?_)))))))
  have hr : lgAdopt ⟨δ, ω, Λ⟩ n = (⟨δ, ω, Λ⟩, 2) := by unfold lgAdopt; dsimp only; rw [if_pos h7]
  rw [hr]
  try dsimp only
  refine G.lgFold (g := g) (x := x) Λ (by (repeat' constructor)) (by exact rfl) (by first | rfl | simp [Lg.keep]) (by first | rfl | simp [Lg.keep]) (by first | rfl | simp [Lg.keep]) (by first | rfl | simp [Lg.keep]) ?_
  exact G.dn (l := [.tmp 4]) rfl rfl ⟨rfl, rfl⟩
 ·refine G.seq (G.region (G.mv rfl rfl (G.mv rfl rfl (G.q (Quiet.nilp rfl) rfl (G.q (Quiet.fieldAddr rfl fo_79_0) rfl (G.q (Quiet.fieldAddr rfl fo_76_1) rfl ?_))))))
  refine G.q (Quiet.ld rfl ag_3) rfl ?_
  refine G.q (Quiet.int rfl rfl rfl) rfl (G.mv rfl rfl ?_)
  refine G.dec (t := 20) rfl (fun h3_20 => ?_) (fun h3_20 => ?_)
  ·refine G.kDT (t := 19) rfl h3_20 (G.gskip (t := 20) rfl rfl rfl rfl (G.gskip (t := 20) rfl rfl rfl rfl (G.gskip (t := 20) rfl rfl rfl rfl (G.gskip (t := 20) rfl rfl rfl rfl (G.gskip (t := 20) rfl rfl rfl rfl (G.gskip (t := 20) rfl rfl rfl rfl (G.gskip (t := 20) rfl rfl rfl rfl (G.q (Quiet.pickT rfl rfl) rfl (G.ag rfl rfl (G.nil (G.then_n (G.condT rfl (G.seq (G.region (G.ag rfl rfl (G.nil (G.then_n (G.ret (G.blk_r (G.then_r ?_))))))))))))))))))))
   have hr : lgAdopt ⟨δ, ω, Λ⟩ n = (⟨δ, ω, Λ⟩, 82) := by unfold lgAdopt; dsimp only; rw [if_neg (by rw [h7]; decide), if_pos (by first | exact .inl h3_20 | exact .inr h12)]
   rw [hr]
   try dsimp only
   refine G.lgFold (g := g) (x := x) Λ (by (repeat' constructor)) (by exact rfl) (by first | rfl | simp [Lg.keep]) (by first | rfl | simp [Lg.keep]) (by first | rfl | simp [Lg.keep]) (by first | rfl | simp [Lg.keep]) ?_
   exact G.dn (l := [.tmp 4]) rfl rfl ⟨rfl, rfl⟩
  ·refine G.kDF (t := 19) rfl h3_20 (G.grun (t := 20) rfl rfl rfl (G.mv rfl rfl (G.grun (t := 20) rfl rfl rfl (G.mv rfl rfl (G.grun (t := 20) rfl rfl rfl (G.q (Quiet.nilp rfl) rfl (G.grun (t := 20) rfl rfl rfl (G.q (Quiet.fieldAddr rfl fo_79_0) rfl (G.grun (t := 20) rfl rfl rfl (G.q (Quiet.fieldAddr rfl fo_76_0) rfl (G.grun (t := 20) rfl rfl rfl ?_)))))))))))
   refine G.q (Quiet.ld rfl ag_3) rfl ?_
   refine G.grun (t := 20) rfl rfl rfl (G.q (Quiet.int rfl rfl rfl) rfl (G.q (Quiet.pickF rfl rfl) rfl (G.ag rfl rfl (G.nil (G.then_n ?_)))))
   refine G.condD rfl (fun h12 => ?_) (fun h12 => ?_)
   ·refine G.seq (G.region (G.ag rfl rfl (G.nil (G.then_n (G.ret (G.blk_r (G.then_r ?_)))))))
    have hr : lgAdopt ⟨δ, ω, Λ⟩ n = (⟨δ, ω, Λ⟩, 82) := by unfold lgAdopt; dsimp only; rw [if_neg (by rw [h7]; decide), if_pos (by first | exact .inl h3_20 | exact .inr h12)]
    rw [hr]
    try dsimp only
    refine G.lgFold (g := g) (x := x) Λ (by (repeat' constructor)) (by exact rfl) (by first | rfl | simp [Lg.keep]) (by first | rfl | simp [Lg.keep]) (by first | rfl | simp [Lg.keep]) (by first | rfl | simp [Lg.keep]) ?_
    exact G.dn (l := [.tmp 4]) rfl rfl ⟨rfl, rfl⟩
   ·refine G.skip (G.blk_n (G.then_n (G.seq (G.seq ?_))))
    refine G.lgFold (g := g) (x := x) Λ (by (repeat' constructor)) (by exact rfl) (by first | rfl | simp [Lg.keep]) (by first | rfl | simp [Lg.keep]) (by first | rfl | simp [Lg.keep]) (by first | rfl | simp [Lg.keep]) ?_
    refine G.region (G.mv rfl rfl ?_)
    refine G.oq (OpSpec.call Tryz.func28 rfl rfl (vs := [_]) rfl (lsync_spec g x d δ ω Λ hI)) ?nx25
    rintro v L' ⟨rfl, rfl⟩; obtain ⟨⟨⟨δ1, ω1, Λ1⟩, e1⟩, hsy⟩ : ∃ r, lgSync ⟨δ, ω, Λ⟩ = r := ⟨_, rfl⟩; rw [hsy] at hI1 ⊢; dsimp only at hI1 ⊢
    refine G.ag rfl rfl (G.nil (G.then_n (G.seq (G.region (G.mv rfl rfl (G.q (Quiet.int rfl rfl rfl) rfl (G.nil (G.then_n ?_))))))))
    refine G.condN rfl (fun h32 => ?_) (fun h32 => ?_)
    ·refine G.seq (G.region (G.mv rfl rfl (G.ag rfl rfl (G.nil (G.then_n (G.ret (G.then_r ?_)))))))
     have hr : lgAdopt ⟨δ, ω, Λ⟩ n = lgSync ⟨δ, ω, Λ⟩ := by unfold lgAdopt; dsimp only; rw [if_neg (by rw [h7]; decide), if_neg (by rintro (g1 | g1); exact h3_20 g1; exact h12 g1), if_pos (by rw [hsy]; exact h32)]
     rw [hr]
     try dsimp only
     rw [hsy]
     exact G.dn (l := [.tmp 4]) rfl rfl ⟨rfl, rfl⟩
    ·refine G.skip (G.then_n (G.seq ?_))
     refine G.lgOpen (by (repeat' constructor)) fun ea ec za zc => ?_
     refine G.draw [11, 12] [[0, 1, 2, 3, 4, 5, 6, 7, 8, 9, 10, 11], [12], [13]] mixed (by kernel_rfl) ?_
     refine Phases.go [] (by (repeat' constructor)) ?_
     refine D.k rfl (Quiet.move rfl) ?_
     refine D.kw [2, 3, 4, 11] rfl (Quiet.move rfl) ?_
     refine D.kw [3, 4, 11] rfl (Quiet.nilp rfl) ?_
     refine D.kw [4, 11] rfl (Quiet.fieldAddr rfl fo_79_1) ?_
     refine D.kw [11] rfl (Quiet.ld rfl ag_77) ?_
     refine D.kw [6, 7, 8, 9, 11] rfl (Quiet.move rfl) ?_
     refine D.kw [7, 8, 9, 11] rfl (Quiet.nilp rfl) ?_
     refine D.kw [8, 9, 11] rfl (Quiet.fieldAddr rfl fo_79_0) ?_
     refine D.kw [9, 11] rfl (Quiet.fieldAddr rfl fo_76_0) ?_
     refine D.kw [11] rfl (Quiet.ld rfl ag_3) ?_
     refine D.kw [11] rfl (Quiet.move rfl) ?_
     refine D.h rfl (by kernel_rfl) (OpSpec.call Tryz.func83 rfl rfl (vs := [_, _, _]) rfl (wmark_spec x d ω1 δ1 Λ1.acc n hI1)) (by (repeat' constructor)) ?nx39
     rintro v L' ⟨rfl, rfl⟩
     refine D.ph ?_
     refine Phases.go [] (by (repeat' constructor)) ?_
     refine D.h rfl (by kernel_rfl) (OpSpec.call Tryz.func50 rfl rfl (vs := [_, _]) rfl (lmetO_spec g x Λ1 _ ea ec za zc)) (by (repeat' constructor)) ?nx41
     rintro v L' ⟨rfl, rfl⟩
     refine D.ph ?_
     refine Phases.go [] (by (repeat' constructor)) ?_
     refine D.kw [] rfl (Quiet.assign rfl) ?_
     refine D.ph (Phases.fin (G.then_n (G.seq (G.seq (G.region (G.mv rfl rfl (G.q (Quiet.int rfl rfl rfl) rfl (G.nil (G.then_n ?_)))))))))
     refine G.condD rfl (fun h48 => ?_) (fun h48 => ?_)
     ·refine G.lgOpen (by (repeat' constructor)) fun ea ec za zc => ?_
      refine G.region (G.mv rfl rfl (G.mv rfl rfl (G.q (Quiet.nilp rfl) rfl (G.q (Quiet.fieldAddr rfl fo_79_0) rfl (G.q (Quiet.fieldAddr rfl fo_76_1) rfl ?_)))))
      refine G.oq (OpSpec.store rfl rfl rfl sz_3 ?c49 ?c50) ?nx51
      case c49 => first | decide | (simp; omega) | simp
      case c50 => exact nfz0 _ _
      rintro v L' rfl
      refine G.nil (G.then_n (G.seq (G.region (G.mv rfl rfl (G.ag rfl rfl (G.nil (G.then_n (G.ret ?_))))))))
      have hr : lgAdopt ⟨δ, ω, Λ⟩ n = lgAdopt2 ⟨δ1, ω1, Λ1⟩ n := by unfold lgAdopt; dsimp only; rw [if_neg (by rw [h7]; decide), if_neg (by rintro (g1 | g1); exact h3_20 g1; exact h12 g1), if_neg (by rw [hsy]; exact fun g1 => g1 h32), hsy]
      rw [hr]
      have hr2 : lgAdopt2 ⟨δ1, ω1, Λ1⟩ n = (⟨(setmZ δ1 ω1 Λ1.acc n).1, (setmZ δ1 ω1 Λ1.acc n).2.1, (metL Λ1 (setmZ δ1 ω1 Λ1.acc n)).1.Λ.setCur n⟩, 0) := by unfold lgAdopt2; dsimp only; rw [if_pos (show (metL Λ1 (setmZ δ1 ω1 Λ1.acc n)).2 = 0 from h48)]
      rw [hr2, h48]
      dsimp only
      refine G.lgFold (g := g) (x := x) ((Λ1.met (setmZ δ1 ω1 Λ1.acc n).2.2).setCur n) (by (repeat' constructor)) (by exact rfl) (by first | rfl | simp [Lg.keep]) (by first | rfl | simp [Lg.keep]) (by first | rfl | simp [Lg.keep]) (by first | rfl | simp [Lg.keep]) ?_
      exact G.dn (l := [.tmp 4]) rfl rfl ⟨rfl, rfl⟩
     ·refine G.skip (G.then_n (G.seq (G.region (G.mv rfl rfl (G.ag rfl rfl (G.nil (G.then_n (G.ret ?_))))))))
      have hr : lgAdopt ⟨δ, ω, Λ⟩ n = lgAdopt2 ⟨δ1, ω1, Λ1⟩ n := by unfold lgAdopt; dsimp only; rw [if_neg (by rw [h7]; decide), if_neg (by rintro (g1 | g1); exact h3_20 g1; exact h12 g1), if_neg (by rw [hsy]; exact fun g1 => g1 h32), hsy]
      rw [hr]
      have hr2 : lgAdopt2 ⟨δ1, ω1, Λ1⟩ n = metL Λ1 (setmZ δ1 ω1 Λ1.acc n) := by unfold lgAdopt2; dsimp only; rw [if_neg (show ¬ (metL Λ1 (setmZ δ1 ω1 Λ1.acc n)).2 = 0 from h48)]
      rw [hr2]
      try dsimp only
      exact G.dn (l := [.tmp 4]) rfl rfl ⟨rfl, rfl⟩

theorem lbase_spec (g x : Nat) (Λ : Lg) : Fn Tryz.prog 81 #[vptr g] [lgR g x Λ] fun v L => v = vint Λ.base ∧ L = [lgR g x Λ] := by
 refine Fn.intro (vs := [vptr g]) Tryz.func81 rfl rfl ?_
 intro F W
 refine G.lgOpen (by (repeat' constructor)) fun ea ec za zc => ?_
 refine G.seq (G.region (G.ag rfl rfl (G.nil (G.then_n (G.seq (G.region (G.mv rfl rfl (G.q (Quiet.nilp rfl) rfl (G.q (Quiet.fieldAddr rfl fo_79_2) rfl ?_)))))))))
 refine G.q (Quiet.ld rfl ag_3) rfl ?_
 refine G.ag rfl rfl (G.nil (G.then_n (G.ret ?_)))
 refine G.lgFold (g := g) (x := x) Λ (by (repeat' constructor)) (by exact rfl) (by first | rfl | simp [Lg.keep]) (by first | rfl | simp [Lg.keep]) (by first | rfl | simp [Lg.keep]) (by first | rfl | simp [Lg.keep]) ?_
 exact G.dn (l := [.tmp 2]) rfl rfl ⟨rfl, rfl⟩

theorem lsnap_spec (g x : Nat) (Λ : Lg) : Fn Tryz.prog 82 #[vptr g] [lgR g x Λ] fun v L => v = vstr Λ.snap ∧ L = [lgR g x Λ] := by
 refine Fn.intro (vs := [vptr g]) Tryz.func82 rfl rfl ?_
 intro F W
 refine G.lgOpen (by (repeat' constructor)) fun ea ec za zc => ?_
 refine G.seq (G.region (G.ag rfl rfl (G.nil (G.then_n (G.seq (G.region (G.mv rfl rfl (G.q (Quiet.nilp rfl) rfl (G.q (Quiet.fieldAddr rfl fo_79_3) rfl ?_)))))))))
 refine G.q (Quiet.ld rfl ag_9) rfl ?_
 refine G.ag rfl rfl (G.nil (G.then_n (G.ret ?_)))
 refine G.lgFold (g := g) (x := x) Λ (by (repeat' constructor)) (by exact rfl) (by first | rfl | simp [Lg.keep]) (by first | rfl | simp [Lg.keep]) (by first | rfl | simp [Lg.keep]) (by first | rfl | simp [Lg.keep]) ?_
 exact G.dn (l := [.tmp 2]) rfl rfl ⟨rfl, rfl⟩

theorem lacc_spec (g x : Nat) (Λ : Lg) : Fn Tryz.prog 33 #[vptr g] [lgR g x Λ] fun v L => v = vint Λ.acc ∧ L = [lgR g x Λ] := by
 refine Fn.intro (vs := [vptr g]) Tryz.func33 rfl rfl ?_
 intro F W
 refine G.lgOpen (by (repeat' constructor)) fun ea ec za zc => ?_
 refine G.seq (G.region (G.ag rfl rfl (G.nil (G.then_n (G.seq (G.region (G.mv rfl rfl (G.q (Quiet.nilp rfl) rfl (G.q (Quiet.fieldAddr rfl fo_76_0) rfl ?_)))))))))
 refine G.q (Quiet.ld rfl ag_3) rfl ?_
 refine G.ag rfl rfl (G.nil (G.then_n (G.ret ?_)))
 refine G.lgFold (g := g) (x := x) Λ (by (repeat' constructor)) (by exact rfl) (by first | rfl | simp [Lg.keep]) (by first | rfl | simp [Lg.keep]) (by first | rfl | simp [Lg.keep]) (by first | rfl | simp [Lg.keep]) ?_
 exact G.dn (l := [.tmp 2]) rfl rfl ⟨rfl, rfl⟩

theorem lcur_spec (g x : Nat) (Λ : Lg) : Fn Tryz.prog 34 #[vptr g] [lgR g x Λ] fun v L => v = vint Λ.cur ∧ L = [lgR g x Λ] := by
 refine Fn.intro (vs := [vptr g]) Tryz.func34 rfl rfl ?_
 intro F W
 refine G.lgOpen (by (repeat' constructor)) fun ea ec za zc => ?_
 refine G.seq (G.region (G.ag rfl rfl (G.nil (G.then_n (G.seq (G.region (G.mv rfl rfl (G.q (Quiet.nilp rfl) rfl (G.q (Quiet.fieldAddr rfl fo_76_1) rfl ?_)))))))))
 refine G.q (Quiet.ld rfl ag_3) rfl ?_
 refine G.ag rfl rfl (G.nil (G.then_n (G.ret ?_)))
 refine G.lgFold (g := g) (x := x) Λ (by (repeat' constructor)) (by exact rfl) (by first | rfl | simp [Lg.keep]) (by first | rfl | simp [Lg.keep]) (by first | rfl | simp [Lg.keep]) (by first | rfl | simp [Lg.keep]) ?_
 exact G.dn (l := [.tmp 2]) rfl rfl ⟨rfl, rfl⟩

end Go.Proofs.YtidjhgbdokcphaaGreat

/- Own work: a ledger as plain data: read out of its records; Cut, Install, Compact, Entries; on a disk that lives. -/
namespace Go.Proofs.YtidjhgbdokcphaaGreat
open Go

def cntS : Rn Nat := runP 0 (cntP 65536)
def headR : Rn (Int × Nat) := bindR numR fun b => bindR cntS fun n => retR (b, n)
def lhZ (s : Bs) : Option (Int × Nat) := match headR (some s) with
  | (q, some []) => some q
  | _ => none
def snapZ (many : Nat) : Bs → List Bs → Option (Bs × List Bs)
  | sn, [] => if sn.length < many then none else some (sn, [])
  | sn, r :: t => if sn.length < many then (if r.length = min 4000 (many - sn.length) then snapZ many (sn ++ r) t else none) else some (sn, r :: t)
theorem snap_done {many : Nat} {sn : Bs} (h : ¬ sn.length < many) (l : List Bs) : snapZ many sn l = some (sn, l) := by
  cases l <;> (unfold snapZ; rw [if_neg h])
theorem snap_none {many : Nat} {sn : Bs} (h : sn.length < many) : snapZ many sn [] = none := by unfold snapZ; rw [if_pos h]
theorem snap_bad {many : Nat} {sn r : Bs} {t : List Bs} (h : sn.length < many) (hr : ¬ r.length = min 4000 (many - sn.length)) : snapZ many sn (r :: t) = none := by
  show (if _ then _ else _) = _; rw [if_pos h, if_neg hr]
theorem snap_step {many : Nat} {sn r : Bs} {t : List Bs} (h : sn.length < many) (hr : r.length = min 4000 (many - sn.length)) : snapZ many sn (r :: t) = snapZ many (sn ++ r) t := by
  show (if _ then _ else _) = _; rw [if_pos h, if_pos hr]
def entsZ : Lg → List Bs → Option Lg
  | Λ, [] => some Λ
  | Λ, s :: t => match getZ s with
    | none => none
    | some e => if e.zx ≤ lastZ Λ ∨ Λ.ents.length = 200 then none else entsZ (Λ.keep s e.zx) t
theorem ents_none {Λ : Lg} {s : Bs} {t : List Bs} (h : getZ s = none) : entsZ Λ (s :: t) = none := by
  show (match getZ s with | none => none | some e => _) = _; rw [h]
theorem ents_bad {Λ : Lg} {s : Bs} {t : List Bs} {e : En} (h : getZ s = some e) (hb : e.zx ≤ lastZ Λ ∨ Λ.ents.length = 200) : entsZ Λ (s :: t) = none := by
  show (match getZ s with | none => none | some e => _) = _; rw [h]; exact if_pos hb
theorem ents_step {Λ : Lg} {s : Bs} {t : List Bs} {e : En} (h : getZ s = some e) (hb : ¬ (e.zx ≤ lastZ Λ ∨ Λ.ents.length = 200)) : entsZ Λ (s :: t) = entsZ (Λ.keep s e.zx) t := by
  show (match getZ s with | none => none | some e => _) = _; rw [h]; exact if_neg hb
def restZ (a b base : Int) : Option (Bs × List Bs) → Option Lg
  | none => none
  | some (sn, u) => entsZ ⟨a, b, base, sn, [], [], false⟩ u
def lparseZ (a b : Int) : List Bs → Option Lg
  | [] => none
  | r :: t => match lhZ r with
    | none => none
    | some (base, n) => if base < 0 then none else restZ a b base (snapZ n [] t)
def openLZ (ω : Wl) : Option Lg := if ω.a > 1073741824 ∨ ω.b > ω.a then none else lparseZ ω.a ω.b ω.recs
/-! ### Rows: each record an entry, its numbers rising -/
def RowsI : Int → List Bs → List Int → Prop
  | _, [], [] => True
  | b, s :: t, z :: u => (∃ e, getZ s = some e ∧ e.zx = z) ∧ b < z ∧ I64 z ∧ RowsI z t u
  | _, _, _ => False
def lastF (b : Int) (zs : List Int) : Int := zs.getLast?.getD b
theorem lastF_cons (b z : Int) (u : List Int) : lastF b (z :: u) = lastF z u := by
  unfold lastF; rw [List.getLast?_cons]; rfl
theorem RowsI.len : ∀ {es : List Bs} {zs : List Int} {b : Int}, RowsI b es zs → zs.length = es.length
  | [], [], _, _ => rfl
  | _ :: _, _ :: _, _, h => congrArg (· + 1) (RowsI.len h.2.2.2)
  | [], _ :: _, _, h => h.elim
  | _ :: _, [], _, h => h.elim
theorem RowsI.keep {s : Bs} {z : Int} (hs : ∃ e, getZ s = some e ∧ e.zx = z) (hi : I64 z) : ∀ {es : List Bs} {zs : List Int} {b : Int}, RowsI b es zs → lastF b zs < z → RowsI b (es ++ [s]) (zs ++ [z])
  | [], [], _, _, hz => ⟨hs, hz, hi, trivial⟩
  | _ :: _, _ :: _, _, h, hz => ⟨h.1, h.2.1, h.2.2.1, RowsI.keep hs hi h.2.2.2 (by rw [lastF_cons] at hz; exact hz)⟩
  | [], _ :: _, _, h, _ => h.elim
  | _ :: _, [], _, h, _ => h.elim
theorem RowsI.gt : ∀ {es : List Bs} {zs : List Int} {b : Int}, RowsI b es zs → ∀ z ∈ zs, b < z
  | [], [], _, _, z, hz => by cases hz
  | _ :: _, z0 :: _, _, h, z, hz => by
    rcases List.mem_cons.1 hz with rfl | hz
    · exact h.2.1
    · have := h.2.1; have := RowsI.gt h.2.2.2 z hz; omega
  | [], _ :: _, _, h, _, _ => h.elim
  | _ :: _, [], _, h, _, _ => h.elim
theorem RowsI.i64 : ∀ {es : List Bs} {zs : List Int} {b : Int}, RowsI b es zs → ∀ z ∈ zs, I64 z
  | [], [], _, _, z, hz => by cases hz
  | _ :: _, z0 :: _, _, h, z, hz => by
    rcases List.mem_cons.1 hz with rfl | hz
    · exact h.2.2.1
    · exact RowsI.i64 h.2.2.2 z hz
  | [], _ :: _, _, h, _, _ => h.elim
  | _ :: _, [], _, h, _, _ => h.elim
structure LgW (Λ : Lg) : Prop where
  few : Λ.ents.length ≤ 200
  each : ∀ s ∈ Λ.ents, s.length ≤ 4000
  base : 0 ≤ Λ.base ∧ Λ.base ≤ 9223372036854775807
  snap : Λ.snap.length ≤ 65536
  rows : RowsI Λ.base Λ.ents Λ.zxs
  eps : 0 ≤ Λ.cur ∧ Λ.cur ≤ Λ.acc ∧ Λ.acc ≤ 1073741824
theorem LgW.i {Λ : Lg} (h : LgW Λ) : LgI Λ := ⟨h.few, h.rows.len, fun s hs => by have := h.each s hs; omega, ⟨by have := h.base; omega, h.base.2⟩, h.rows.i64⟩
/-! ### Calls -/
def Rises (b : Int) (zs : List Int) : Prop := ∀ j, j < zs.length → b < zs.getD j 0 ∧ (0 < j → zs.getD (j - 1) 0 < zs.getD j 0)
instance (b : Int) (zs : List Int) : Decidable (Rises b zs) := by unfold Rises; infer_instance
def lgF1 (δ : Dk) : Dk × Wl × Int := appendZ (formatZ δ).1 newW (headB 0 0)
def lgF2 (δ : Dk) : Dk × Wl × Int := syncZ (lgF1 δ).1 (lgF1 δ).2.1
def lgFormat (δ : Dk) : Dk × Option Wl := if (formatZ δ).2.isNone = true then ((formatZ δ).1, none) else if (lgF1 δ).2.2 ≠ 0 then ((lgF1 δ).1, none) else if (lgF2 δ).2.2 ≠ 0 then ((lgF2 δ).1, none) else ((lgF2 δ).1, some (lgF2 δ).2.1)
def entAt (q : Bs × Int) : En := (getZ q.1).getD en0
def behindL (Λ : Lg) (z : Int) : List En := ((Λ.ents.zip Λ.zxs).filter fun q => decide (q.2 > z)).map entAt
/-! ### On a disk that lives -/
structure LWell (s : Ld) (N : Int) : Prop where
  well : Well s.δ s.ω N
  w : LgW s.Λ
  live : s.Λ.doubt = false
  recs : s.ω.recs = headL s.Λ.base s.Λ.snap ++ s.Λ.ents
  a : s.ω.a = s.Λ.acc
  b : s.ω.b = s.Λ.cur
theorem LWell.more {s : Ld} {N M : Int} (h : LWell s N) (hN : N ≤ M) : LWell s M := ⟨h.well.more hN, h.w, h.live, h.recs, h.a, h.b⟩
theorem lw_append {s : Ld} {N : Int} (h : LWell s N) {e : En} (he : EnI e) : LWell (lgAppend s e).1 (N + 2000000) ∧ (lgAppend s e).1.δ.now.length = s.δ.now.length ∧
    (((lgAppend s e).2 = 0 ∧ (lgAppend s e).1.Λ = s.Λ.keep (enB e) e.zx ∧ fitsE e = true ∧ lastZ s.Λ < e.zx ∧ (enB e).length ≤ 4000 ∧ s.Λ.ents.length < 200) ∨ ((lgAppend s e).2 ≠ 0 ∧ (lgAppend s e).1 = s)) := by
  have hm := h.more (M := N + 2000000) (by omega)
  unfold lgAppend
  rw [if_neg (by rw [h.live]; decide)]
  split
  · exact ⟨hm, rfl, .inr ⟨show (1 : Int) ≠ 0 by decide, rfl⟩⟩
  rename_i hf
  have hf : fitsE e = true := by simpa using hf
  split
  · exact ⟨hm, rfl, .inr ⟨show (81 : Int) ≠ 0 by decide, rfl⟩⟩
  rename_i hz
  split
  · exact ⟨hm, rfl, .inr ⟨show (83 : Int) ≠ 0 by decide, rfl⟩⟩
  rename_i hr
  obtain ⟨w1, w2, w3⟩ := well_append h.well (enB e)
  have hfew := h.w.few
  rcases w3 with ⟨g1, g2, g3⟩ | ⟨g1, g3⟩ | ⟨g1, g2, g3⟩
  · obtain ⟨δ1, q, hq⟩ : ∃ δ1 q, appendZ s.δ s.ω (enB e) = (δ1, q) := ⟨_, _, rfl⟩
    rw [hq] at w1 w2 g3 ⊢
    dsimp only at w1 w2 g3
    subst g3
    have e0 : metL s.Λ (δ1, ({ s.ω with recs := s.ω.recs ++ [enB e] } : Wl), (0 : Int)) = (⟨δ1, { s.ω with recs := s.ω.recs ++ [enB e] }, s.Λ⟩, 0) := rfl
    rw [e0, if_pos rfl]
    dsimp only at w1 ⊢
    obtain ⟨b, hb⟩ : ∃ b, getZ (enB e) = some b := by
      unfold fitsE at hf
      cases hg : getZ (enB e) with
      | none => rw [hg] at hf; simp at hf
      | some b => exact ⟨b, rfl⟩
    have hbz : b.zx = e.zx := by
      rw [get_back he hb]; rfl
    refine ⟨⟨w1, ⟨?_, ?_, h.w.base, h.w.snap, RowsI.keep ⟨b, hb, hbz⟩ he.zx h.w.rows (by show lastZ s.Λ < _; omega), h.w.eps⟩, h.live, ?_, h.a, h.b⟩, w2, .inl ⟨rfl, rfl, hf, by omega, g1, by omega⟩⟩
    · show (s.Λ.ents ++ [enB e]).length ≤ 200; rw [List.length_append, List.length_singleton]; omega
    · intro x hx
      rcases List.mem_append.1 hx with hx | hx
      · exact h.w.each x hx
      · rw [List.mem_singleton] at hx; subst hx; exact g1
    · show s.ω.recs ++ [enB e] = headL s.Λ.base s.Λ.snap ++ (s.Λ.ents ++ [enB e])
      rw [h.recs, List.append_assoc]
  · rw [g3, if_neg (by show ¬ metE 33 = 0; decide)]
    exact ⟨hm, rfl, .inr ⟨by show metE 33 ≠ 0; decide, rfl⟩⟩
  · rw [g3, if_neg (by show ¬ metE 30 = 0; decide)]
    exact ⟨hm, rfl, .inr ⟨by show metE 30 ≠ 0; decide, rfl⟩⟩
theorem lg0_W : LgW lg0 := ⟨by decide, (fun s hs => by cases hs), by decide, by decide, trivial, by decide⟩
theorem format_lwell {n : Int} (h : 16 ≤ n ∧ n ≤ 32768) : ∃ ω, (lgFormat (Dk.new n)).2 = some ω ∧ LWell ⟨(lgFormat (Dk.new n)).1, ω, lg0⟩ 4000003 ∧ (lgFormat (Dk.new n)).1.now.length = n.toNat ∧ Well (formatZ (Dk.new n)).1 newW 3 ∧ Well (lgF1 (Dk.new n)).1 (lgF1 (Dk.new n)).2.1 2000003 := by
  obtain ⟨f1, f2, f3⟩ := format_well h
  obtain ⟨δ1, hq⟩ : ∃ δ1, (formatZ (Dk.new n)).1 = δ1 := ⟨_, rfl⟩
  have hF1 : lgF1 (Dk.new n) = appendZ δ1 newW (headB 0 0) := by rw [← hq]; rfl
  rw [hq] at f2 f3
  have hnl : δ1.now.length = n.toNat := by rw [f3, List.length_set, List.length_set]; simp [Dk.new]
  obtain ⟨w1, w2, w3⟩ := well_append f2 (headB 0 0)
  have hl : (headB 0 0).length = 2 := by kernel_rfl
  have hh : 7 ≤ halfZ δ1 := by unfold halfZ; omega
  have h0 : (laidZ newW.recs).length = 0 := rfl
  rcases w3 with ⟨-, -, g3⟩ | ⟨g1, -⟩ | ⟨-, g2, -⟩
  rotate_left
  · omega
  · omega
  obtain ⟨⟨δ2, q2⟩, hq2⟩ : ∃ r, appendZ δ1 newW (headB 0 0) = r := ⟨_, rfl⟩
  rw [hq2] at w1 w2 g3 hF1
  dsimp only at w1 w2 g3
  subst g3
  dsimp only at w1
  have hs : syncZ δ2 { newW with recs := newW.recs ++ [headB 0 0] } = dbt (sealZ δ2 { newW with recs := newW.recs ++ [headB 0 0] } 0 [headB 0 0]) := by
    unfold syncZ
    rw [if_neg (by decide), if_neg (by show ¬ ((0 : Int) = ((1 : Nat) : Int)); decide), if_neg (by decide)]; rfl
  obtain ⟨e, w, k⟩ := well_seal w1 (by decide) (area := 0) (by decide) (l := [headB 0 0]) w1.fits w1.al rfl (by have := w1.acts; omega)
  have hF2 : lgF2 (Dk.new n) = dbt (sealZ δ2 { newW with recs := newW.recs ++ [headB 0 0] } 0 [headB 0 0]) := by unfold lgF2; rw [hF1]; exact hs
  have hfm : lgFormat (Dk.new n) = ((lgF2 (Dk.new n)).1, some (lgF2 (Dk.new n)).2.1) := by
    unfold lgFormat
    rw [f1, if_neg (by decide), if_neg (by rw [hF1]; exact fun g => g rfl), if_neg (by rw [hF2, e]; decide)]
  rw [hfm, hF2, hF1, hq]
  dsimp only
  exact ⟨_, rfl, ⟨by rw [e, show (4000003 : Int) = 3 + 2000000 + 2000000 by decide]; exact w, lg0_W, rfl, by rw [e]; rfl, by rw [e]; rfl, by rw [e]; rfl⟩, by rw [k, List.length_set, w2, hnl], f2, w1⟩
end Go.Proofs.YtidjhgbdokcphaaGreat

/- Own work, by program: package ledger: Format, parse, Open, Marks, Entries: walked. -/

namespace Go.Proofs.YtidjhgbdokcphaaGreat
open Go
theorem clipI0_spec : Fn Tryz.prog 52 #[.slice none 0 0] [slR 3 1 (.slice none 0 0) 0 []] fun u L => u = .slice none 0 0 ∧ L = [slR 3 1 u 0 []] := by
 refine Fn.intro (vs := [.slice none 0 0]) Tryz.func52 rfl rfl ?_
 intro F W
 refine G.seq (G.region (G.ag rfl rfl (G.nil (G.then_n (G.seq (G.region (G.mv rfl rfl (G.mv rfl rfl (G.q (Quiet.slen rfl Tryz.underlying31 rfl) rfl (G.mv rfl rfl (G.q (Quiet.slen rfl Tryz.underlying31 rfl) rfl (G.q (Quiet.clip (n := 0) rfl el_31 rfl rfl (Nat.le_refl _) (.inl rfl)) rfl (G.ag rfl rfl (G.nil (G.then_n (G.ret ?_))))))))))))))))
 exact G.dn (l := [.tmp 2]) rfl rfl ⟨rfl, rfl⟩

theorem clipI1_spec (b n c : Nat) (hc : n ≤ c) (xs : List Value) : Fn Tryz.prog 52 #[.slice (some ⟨b, 0, none⟩) n c] [slR 3 1 (.slice (some ⟨b, 0, none⟩) n c) n xs] fun u L => u = .slice (some ⟨b, 0, none⟩) n n ∧ L = [slR 3 1 u n xs] := by
 refine Fn.intro (vs := [.slice (some ⟨b, 0, none⟩) n c]) Tryz.func52 rfl rfl ?_
 intro F W
 refine G.seq (G.region (G.ag rfl rfl (G.nil (G.then_n (G.seq (G.region (G.mv rfl rfl (G.mv rfl rfl (G.q (Quiet.slen rfl Tryz.underlying31 rfl) rfl (G.mv rfl rfl (G.q (Quiet.slen rfl Tryz.underlying31 rfl) rfl ?_)))))))))))
 refine G.q (Quiet.clip (n := n) rfl el_31 rfl rfl hc (.inr ⟨_, _, rfl⟩)) rfl ?_
 refine G.ag rfl rfl (G.nil (G.then_n (G.ret ?_)))
 refine G.slClip (by (repeat' constructor)) ?_
 exact G.dn (l := [.tmp 2]) rfl rfl ⟨rfl, rfl⟩

theorem clipI_spec (v : Value) (n : Nat) (xs : List Value) : Fn Tryz.prog 52 #[v] [slR 3 1 v n xs] fun u L => (∃ a c, u = .slice a n c) ∧ L = [slR 3 1 u n xs] := by
  intro F w hs
  obtain ⟨g1, -, hp⟩ := sep_head hs
  rcases hp with ⟨rfl, rfl, rfl⟩ | ⟨b, cap, rest, fr, rfl, -, -, -, h4, -⟩
  · exact (clipI0_spec F w hs).mono fun e w' ⟨u, L, ⟨h1, h2⟩, h3⟩ => ⟨u, L, ⟨⟨_, _, h1⟩, h2⟩, h3⟩
  · exact (clipI1_spec b n cap h4 xs F w hs).mono fun e w' ⟨u, L, ⟨h1, h2⟩, h3⟩ => ⟨u, L, ⟨⟨_, _, h1⟩, h2⟩, h3⟩
theorem hd00 : (headB 0 0).length = 2 := by kernel_rfl
theorem lformat_spec (d : Nat) (δ : Dk) (hA : δ.acts + 10 < 4611686018427387904) (hI : WlI (formatZ δ).1 newW) (hI1 : WlI (lgF1 δ).1 (lgF1 δ).2.1) : Fn Tryz.prog 12 #[vptr d] [dkR d δ] fun v L => ((lgFormat δ).2 = none ∧ v = .tuple #[.pointer none, vint 2] ∧ L = [dkR d (lgFormat δ).1]) ∨
    (∃ ω g x, (lgFormat δ).2 = some ω ∧ v = .tuple #[vptr g, vint 0] ∧ L = [lgR g x lg0, wlR x d ω, dkR d (lgFormat δ).1]) := by
 refine Fn.intro (vs := [vptr d]) Tryz.func12 rfl rfl ?_
 intro F W
 refine G.seq (G.region (G.ag rfl rfl (G.ag rfl rfl (G.nil (G.then_n (G.seq (G.seq (G.region (G.mv rfl rfl (G.q (Quiet.ptreq rfl rfl Tryz.underlying24) rfl (G.nil (G.then_n (G.condF rfl (G.skip (G.then_n (G.seq (G.region (G.mv rfl rfl ?_))))))))))))))))))
 refine G.oq (OpSpec.call Tryz.func44 rfl rfl (vs := [_]) rfl (format_spec d δ hA)) ?nx6
 rintro v L' (⟨hf, rfl, rfl⟩ | ⟨hf, x, rfl, rfl⟩)
 ·refine G.mv rfl rfl (G.q (Quiet.extract rfl rfl) rfl (G.q (Quiet.extract rfl rfl) rfl (G.ag rfl rfl (G.ag rfl rfl (G.nil (G.then_n (G.seq (G.seq (G.region (G.mv rfl rfl ?_))))))))))
  refine G.q (Quiet.as (v' := .bool true) (by rfl) (Quiet.int rfl rfl rfl)) rfl ?_
  refine G.mv rfl rfl (G.gskip (t := 15) rfl rfl rfl rfl (G.gskip (t := 15) rfl rfl rfl rfl (G.gskip (t := 15) rfl rfl rfl rfl (G.gskip (t := 15) rfl rfl rfl rfl (G.gskip (t := 15) rfl rfl rfl rfl (G.gskip (t := 15) rfl rfl rfl rfl (G.q (Quiet.pickT rfl rfl) rfl (G.mv rfl rfl (G.gskip (t := 23) rfl rfl rfl rfl (G.gskip (t := 23) rfl rfl rfl rfl (G.gskip (t := 23) rfl rfl rfl rfl (G.q (Quiet.pickT rfl rfl) rfl (G.nil (G.then_n (G.condT rfl (G.seq (G.region (G.ag rfl rfl (G.ag rfl rfl (G.nil (G.then_n (G.ret (G.then_r ?_)))))))))))))))))))))))
  have hr : lgFormat δ = ((formatZ δ).1, none) := by unfold lgFormat; rw [hf]; rfl
  rw [hr]
  exact G.dn (l := [.tmp 2, .tmp 3]) rfl rfl (.inl ⟨rfl, rfl, rfl⟩)
 ·refine G.mv rfl rfl (G.q (Quiet.extract rfl rfl) rfl (G.q (Quiet.extract rfl rfl) rfl (G.ag rfl rfl (G.ag rfl rfl (G.nil (G.then_n (G.seq (G.seq (G.region (G.mv rfl rfl ?_))))))))))
  refine G.q (Quiet.as (v' := .bool false) (by rfl) (Quiet.int rfl rfl rfl)) rfl ?_
  refine G.mv rfl rfl (G.grun (t := 15) rfl rfl rfl (G.mv rfl rfl (G.grun (t := 15) rfl rfl rfl ?_)))
  refine G.oq (OpSpec.call Tryz.func46 rfl rfl (vs := [_, _]) rfl (lahead_spec 0 [] (by decide) (by decide))) ?nx19
  rintro v L' ⟨ba, ca, rfl, rfl⟩; rw [show headL 0 [] = [headB 0 0] from rfl]; dsimp only [List.length_cons, List.length_nil]
  refine G.grun (t := 15) rfl rfl rfl ?_
  refine G.q (Quiet.indexAddr rfl rfl el_46 (by omega)) rfl ?_
  refine G.grun (t := 15) rfl rfl rfl ?_
  refine G.q (Quiet.loadEl (p := strR (.slice (some ⟨ba, 0, none⟩) (0 + 1) ca) [headB 0 0]) (i := 0) (v := vstr (headB 0 0)) rfl ag_9 (by (repeat' constructor)) (fun h hp => slR_rd hp) rfl) rfl ?_
  refine G.grun (t := 15) rfl rfl rfl ?_
  refine G.oq (OpSpec.call Tryz.func45 rfl rfl (vs := [_, _]) rfl (wappend_spec x d newW (formatZ δ).1 (headB 0 0) hI (by rw [hd00]; decide))) ?nx23
  rintro v L' ⟨rfl, rfl⟩; rw [show appendZ (formatZ δ).1 newW (headB 0 0) = lgF1 δ from rfl]
  refine G.grun (t := 15) rfl rfl rfl (G.q (Quiet.int rfl rfl rfl) rfl (G.q (Quiet.pickF rfl rfl) rfl (G.mv rfl rfl ?_)))
  refine G.ndec (t := 23) rfl (fun h4_23 => ?_) (fun h4_23 => ?_)
  ·refine G.kNT (t := 21) rfl h4_23 (G.kNT (t := 22) rfl h4_23 (G.gskip (t := 23) rfl rfl rfl rfl (G.gskip (t := 23) rfl rfl rfl rfl (G.gskip (t := 23) rfl rfl rfl rfl (G.q (Quiet.pickT rfl rfl) rfl (G.nil (G.then_n (G.condT rfl (G.seq (G.region (G.ag rfl rfl (G.ag rfl rfl (G.nil (G.then_n (G.ret (G.then_r ?_))))))))))))))))
   have hr : lgFormat δ = ((lgF1 δ).1, none) := by unfold lgFormat; rw [hf, if_neg (by decide),  if_pos h4_23]
   rw [hr]
   exact G.dn (l := [.tmp 2, .tmp 3]) rfl rfl (.inl ⟨rfl, rfl, rfl⟩)
  ·refine G.kNF (t := 21) rfl h4_23 (G.kNF (t := 22) rfl h4_23 (G.grun (t := 23) rfl rfl rfl (G.mv rfl rfl (G.grun (t := 23) rfl rfl rfl ?_))))
   refine G.oq (OpSpec.call Tryz.func47 rfl rfl (vs := [_]) rfl (wsync_spec x d (lgF1 δ).2.1 (lgF1 δ).1 hI1)) ?nx29
   rintro v L' ⟨rfl, rfl⟩; rw [show syncZ (lgF1 δ).1 (lgF1 δ).2.1 = lgF2 δ from rfl]
   refine G.grun (t := 23) rfl rfl rfl (G.q (Quiet.int rfl rfl rfl) rfl (G.q (Quiet.pickF rfl rfl) rfl (G.nil (G.then_n ?_))))
   refine G.condN rfl (fun h27 => ?_) (fun h27 => ?_)
   ·refine G.seq (G.region (G.ag rfl rfl (G.ag rfl rfl (G.nil (G.then_n (G.ret (G.then_r ?_)))))))
    have hr : lgFormat δ = ((lgF2 δ).1, none) := by unfold lgFormat; rw [hf, if_neg (by decide), if_neg (fun g => g h4_23),  if_pos h27]
    rw [hr]
    exact G.dn (l := [.tmp 2, .tmp 3]) rfl rfl (.inl ⟨rfl, rfl, rfl⟩)
   ·refine G.skip (G.then_n (G.seq (G.region (G.mv rfl rfl ?_))))
    refine G.q (Quiet.buildN (pl := [(0, 2), (2, 1), (3, 1), (4, 1), (5, 1), (6, 1), (7, 1)]) (us := [(1, _)]) (cells := [vint 0, vint 0, vptr x, vint 0, vstr [], .slice none 0 0, .slice none 0 0, .bool false]) Tryz.underlying79 (by kernel_rfl) ze_79 rfl rfl) rfl ?_
    refine G.oq (OpSpec.box rfl) ?nx35
    rintro v L' ⟨g, rfl, rfl⟩
    refine G.ag rfl rfl (G.ag rfl rfl (G.nil ?_))
    refine G.ptCast (b := g) (l' := [vint 0, vint 0, vptr x, vint 0, vstr [], .slice none 0 0, .slice none 0 0, .bool false]) (by (repeat' constructor)) rfl ?_
    refine G.then_n (G.ret ?_)
    have hr : lgFormat δ = ((lgF2 δ).1, some (lgF2 δ).2.1) := by unfold lgFormat; rw [hf, if_neg (by decide), if_neg (fun g => g h4_23),  if_neg (fun g => g h27)]
    rw [hr]
    refine G.add (slR_nil 9 1) (G.add (slR_nil 3 1) ?_)
    refine G.lgFold (g := g) (x := x) (ea := none) (ec := 0) (za := none) (zc := 0) (es := []) (zs := []) lg0 (by (repeat' constructor)) rfl rfl rfl rfl rfl ?_
    exact G.dn (l := [.tmp 2, .tmp 3]) rfl rfl (.inr ⟨_, _, _, rfl, rfl, rfl⟩)

theorem llastO_spec (g x : Nat) (Λ : Lg) (hl : LgI Λ) (ea : Option Addr) (ec : Nat) (za : Option Addr) (zc : Nat) : Fn Tryz.prog 17 #[vptr g] [ptc g [vint Λ.acc, vint Λ.cur, vptr x, vint Λ.base, vstr Λ.snap, .slice ea Λ.ents.length ec, .slice za Λ.zxs.length zc, .bool Λ.doubt] 79, strR (.slice ea Λ.ents.length ec) Λ.ents, intR (.slice za Λ.zxs.length zc) Λ.zxs] fun v L => v = vint (lastZ Λ) ∧ L = [ptc g [vint Λ.acc, vint Λ.cur, vptr x, vint Λ.base, vstr Λ.snap, .slice ea Λ.ents.length ec, .slice za Λ.zxs.length zc, .bool Λ.doubt] 79, strR (.slice ea Λ.ents.length ec) Λ.ents, intR (.slice za Λ.zxs.length zc) Λ.zxs] := by
 refine Fn.intro (vs := [vptr g]) Tryz.func17 rfl rfl ?_
 intro F W
 have h1 := hl.ents
 have h2 := hl.same
 refine G.seq (G.region (G.ag rfl rfl (G.nil (G.then_n (G.seq (G.seq (G.region (G.mv rfl rfl (G.q (Quiet.nilp rfl) rfl (G.q (Quiet.fieldAddr rfl fo_79_5) rfl ?_))))))))))
 refine G.q (Quiet.ld rfl ag_31) rfl ?_
 refine G.q (Quiet.slen rfl Tryz.underlying31 rfl) rfl (G.q (Quiet.int rfl rfl rfl) rfl (G.nil (G.then_n ?_)))
 refine G.condD rfl (fun h8 => ?_) (fun h8 => ?_)
 ·refine G.seq (G.region (G.mv rfl rfl (G.q (Quiet.nilp rfl) rfl (G.q (Quiet.fieldAddr rfl fo_79_2) rfl ?_))))
  refine G.q (Quiet.ld rfl ag_3) rfl ?_
  refine G.ag rfl rfl (G.nil (G.then_n (G.ret (G.then_r ?_))))
  rw [last_nil (Λ := Λ) (by omega)]
  exact G.dn (l := [.tmp 2]) rfl rfl ⟨rfl, rfl⟩
 ·refine G.skip (G.then_n (G.seq ?_))
  obtain ⟨i, hi⟩ : ∃ i, i + 1 = Λ.zxs.length := ⟨Λ.zxs.length - 1, by omega⟩
  refine G.slShape (v := .slice za _ zc) (xs := ints Λ.zxs) (by (repeat' constructor)) (by omega) fun bz cz e0 mbz _ => ?_
  simp only [Value.slice.injEq, true_and] at e0
  obtain ⟨rfl, rfl⟩ := e0
  refine G.draw [] [[0, 1, 2, 3, 4, 5, 6, 7, 8, 9, 10, 11, 12]] mixed (by kernel_rfl) ?_
  refine Phases.go [] (by (repeat' constructor)) ?_
  refine D.kw [1, 2, 3, 10, 11, 12] rfl (Quiet.move rfl) ?_
  refine D.kw [2, 3, 10, 11, 12] rfl (Quiet.nilp rfl) ?_
  refine D.kw [3, 10, 11, 12] rfl (Quiet.fieldAddr rfl fo_79_5) ?_
  refine D.kw [10, 11, 12] rfl (Quiet.ld rfl ag_31) ?_
  refine D.kw [5, 6, 7, 8, 9, 10, 11, 12] rfl (Quiet.move rfl) ?_
  refine D.kw [6, 7, 8, 9, 10, 11, 12] rfl (Quiet.nilp rfl) ?_
  refine D.kw [7, 8, 9, 10, 11, 12] rfl (Quiet.fieldAddr rfl fo_79_5) ?_
  refine D.kw [8, 9, 10, 11, 12] rfl (Quiet.ld rfl ag_31) ?_
  refine D.kw [9, 10, 11, 12] rfl (Quiet.slen rfl Tryz.underlying31 rfl) ?_
  refine D.kw [10, 11, 12] rfl (Quiet.as (v' := vint (i : Nat)) (by congr 1; omega) (Quiet.sub rfl rfl (by omega))) ?_
  refine D.kw [11, 12] rfl (Quiet.indexAddr rfl rfl el_31 (by omega)) ?_
  refine D.kw [12] rfl (Quiet.loadEl (p := intR (.slice (some ⟨bz, 0, none⟩) Λ.zxs.length zc) Λ.zxs) (i := i * 1) (v := vint (Λ.zxs[i]'(by omega))) rfl ag_3 (by (repeat' constructor)) (fun h hp => slR_rd hp) (by simp [List.getElem?_eq_getElem (show i < Λ.zxs.length by omega)])) ?_
  refine D.kw [] rfl (Quiet.assign rfl) ?_
  refine D.ph (Phases.fin (G.then_n (G.ret ?_)))
  rw [last_at hi]
  exact G.dn (l := [.tmp 2]) rfl rfl ⟨rfl, rfl⟩

theorem numR_i64 (st : Rs) : I64 (numR st).1 := by
  unfold numR runP
  split
  · decide
  · split
    · rename_i x hx; exact (num_form hx).2
    · decide
theorem get_zx64 {s : Bs} {e : En} (h : getZ s = some e) : I64 e.zx := by
  unfold getZ getR at h
  split at h
  · rename_i q hq
    cases h
    have : e.zx = (numR (some s)).1 := by rw [show e = (enR (some s)).1 by rw [hq]]; rfl
    rw [this]; exact numR_i64 _
  · cases h
theorem LgI.keep {Λ : Lg} (h : LgI Λ) (hl : Λ.ents.length < 200) {s : Bs} (hs : s.length ≤ 1073741824) {z : Int} (hz : I64 z) : LgI (Λ.keep s z) := by
  refine ⟨?_, ?_, ?_, h.base, ?_⟩
  · show (Λ.ents ++ [s]).length ≤ 200; rw [List.length_append, List.length_singleton]; omega
  · show (Λ.zxs ++ [z]).length = (Λ.ents ++ [s]).length; rw [List.length_append, List.length_append, h.same]; rfl
  · intro x hx
    rcases List.mem_append.1 hx with hx | hx
    · exact h.each x hx
    · rw [List.mem_singleton] at hx; subst hx; exact hs
  · intro x hx
    rcases List.mem_append.1 hx with hx | hx
    · exact h.zxs x hx
    · rw [List.mem_singleton] at hx; subst hx; exact hz
def cntX (st : Rs) : Nat × Rs := runP 0 (cntP 65536) st
theorem cntX_le (st : Rs) : (cntX st).1 ≤ 65536 := by
  unfold cntX runP
  split
  · exact Nat.zero_le _
  · split
    · rename_i x hx; exact (cnt_form hx).2
    · exact Nat.zero_le _
theorem lh_ok {s : Bs} (h : (cntX (numR (some s)).2).2 = some []) : lhZ s = some ((numR (some s)).1, (cntX (numR (some s)).2).1) := by
  have e : headR (some s) = (((numR (some s)).1, (cntX (numR (some s)).2).1), some []) := by rw [← h]; rfl
  unfold lhZ; rw [e]
theorem lh_bad {s : Bs} (h : ¬ (cntX (numR (some s)).2).2 = some []) : lhZ s = none := by
  unfold lhZ
  split
  · rename_i q hq; exact absurd (show (headR (some s)).2 = some [] by rw [hq]) h
  · rfl
theorem parse_cons {a b : Int} {l : List Bs} (h : 0 < l.length) : lparseZ a b l = match lhZ (l.getD 0 []) with
    | none => none
    | some (base, n) => if base < 0 then none else restZ a b base (snapZ n [] (l.drop 1)) := by
  cases l with
  | nil => simp at h
  | cons r t => rfl
theorem drop_cons {l : List Bs} {i : Nat} (h : i < l.length) : l.drop i = l.getD i [] :: l.drop (i + 1) := by
  rw [List.drop_eq_getElem_cons h]; simp [List.getD_eq_getElem?_getD, h]
theorem tail_addr (b o c : Nat) : (if c = (1 : Int).toNat then (⟨b, o, none⟩ : Addr) else ⟨b, o + (1 : Int).toNat * 1, none⟩) = ⟨b, if c = 1 then o else o + 1, none⟩ := by
  show (if c = 1 then _ else (⟨b, o + 1, none⟩ : Addr)) = _
  split <;> rfl
theorem rdS_tail {h : Hp} {b o n c : Nat} {l : List Bs} (hr : rdS 1 h (.slice (some ⟨b, o, none⟩) n c) n (strs l)) (hn : 0 < n) (hc : n ≤ c) : rdS 1 h (.slice (some ⟨b, if c = 1 then o else o + 1, none⟩) (n - 1) (c - 1)) (n - 1) (strs (l.drop 1)) := by
  have hl : (strs l).length = n * 1 := rdS_len hr
  rw [show (strs l).length = l.length by simp [strs]] at hl
  rcases Nat.lt_or_ge 1 n with h1 | h1
  · rw [if_neg (by omega)]
    have := rdS_drop (k := 1) hr h1
    rw [show (strs l).drop (1 * 1) = strs (l.drop 1) by simp [strs, List.map_drop]] at this
    exact this
  · obtain rfl : n = 1 := by omega
    refine .inl ⟨rfl, ?_, _, _, rfl⟩
    rw [List.drop_eq_nil_of_le (by omega)]; rfl
theorem lparse_spec (g x : Nat) (a b : Int) (va : Value) (l : List Bs) (p : HP) (hr : ∀ h : Hp, p h → rdS 1 h va l.length (strs l)) (hl : l.length ≤ 1048576) (hs : ∀ s ∈ l, s.length ≤ 1073741824) : Fn Tryz.prog 57 #[vptr g, va] [lgR g x ⟨a, b, 0, [], [], [], false⟩, p] fun v L => ∃ Λ ok, (ok = true → lparseZ a b l = some Λ) ∧ (ok = false → lparseZ a b l = none) ∧ v = .bool ok ∧ L = [lgR g x Λ, p] := by
 refine Fn.intro (vs := [vptr g, va]) Tryz.func57 rfl rfl ?_
 intro F W
 refine G.rdAny (p := p) hr (by (repeat' constructor)) fun aa ca e0 _ => ?_
 subst e0
 refine G.seq (G.region (G.ag rfl rfl (G.nil (G.then_n (G.seq (G.seq (G.region (G.mv rfl rfl (G.q (Quiet.slen rfl Tryz.underlying46 rfl) rfl (G.q (Quiet.int rfl rfl rfl) rfl (G.nil (G.then_n ?_))))))))))))
 refine G.condD rfl (fun h13 => ?_) (fun h13 => ?_)
 ·have hln : l = [] := List.eq_nil_of_length_eq_zero (by omega)
  subst hln
  refine G.seq (G.region (G.ag rfl rfl (G.nil (G.then_n (G.ret (G.then_r ?_))))))
  exact G.dn (l := [.tmp 4]) rfl rfl ⟨_, false, (fun h => by cases h), fun _ => rfl, rfl, rfl⟩
 ·refine G.rdShapeC (p := p) hr (by (repeat' constructor)) (by omega) fun ba oa e hcap => ?_
  subst e
  have hpc := parse_cons (a := a) (b := b) (l := l) (by omega)
  have hs0 : (l.getD 0 []).length ≤ 1073741824 := by cases l with | nil => simp | cons r t => exact hs r (List.mem_cons_self ..)
  refine G.skip (G.then_n (G.seq (G.region (G.mv rfl rfl ?_))))
  refine G.q (Quiet.indexAddr rfl rfl el_46 (by omega)) rfl ?_
  refine G.q (Quiet.loadEl (p := p) (i := 0) (v := vstr (l.getD 0 [])) rfl ag_9 (by (repeat' constructor)) hr (by have hil : 0 < l.length := (by omega); simp [strs, List.getD_eq_getElem?_getD, hil])) rfl ?_
  refine G.oq (OpSpec.call Tryz.func117 rfl rfl (vs := [_]) rfl (cread_spec (l.getD 0 []) (by omega))) ?nx9
  rintro v L' ⟨r, rfl, rfl⟩
  refine G.ag rfl rfl (G.nil (G.then_n (G.seq (G.region (G.mv rfl rfl (G.mv rfl rfl ?_))))))
  refine G.oq (OpSpec.call Tryz.func118 rfl rfl (vs := [_]) rfl (wnum_spec r (some (l.getD 0 [])))) ?nx12
  rintro v L' ⟨rfl, rfl⟩
  refine G.lgOpen (by (repeat' constructor)) fun ea ec za zc => ?_
  refine G.q (Quiet.nilp rfl) rfl (G.q (Quiet.fieldAddr rfl fo_79_2) rfl ?_)
  refine G.oq (OpSpec.store rfl rfl rfl sz_3 ?c16 ?c17) ?nx18
  case c16 => first | decide | (simp; omega) | simp
  case c17 => exact nfz0 _ _
  rintro v L' rfl
  refine G.nil (G.then_n (G.seq (G.region (G.mv rfl rfl ?_))))
  refine G.oq (OpSpec.call Tryz.func119 rfl rfl (vs := [_, _]) rfl (rcount_spec r 65536 (by decide) _)) ?nx19
  rintro v L' ⟨rfl, rfl⟩; rw [show runP 0 (cntP 65536) (numR (some (l.getD 0 []))).2 = cntX (numR (some (l.getD 0 []))).2 from rfl]
  refine G.ag rfl rfl (G.nil (G.then_n (G.seq (G.seq (G.region (G.mv rfl rfl ?_))))))
  refine G.oq (OpSpec.call Tryz.func120 rfl rfl (vs := [_]) rfl (rend_spec r _)) ?nx21
  rintro v L' ⟨e1, he1, rfl, st', rfl⟩
  refine G.q (Quiet.int rfl rfl rfl) rfl (G.mv rfl rfl ?_)
  refine G.ndec (t := 28) rfl (fun h6_28 => ?_) (fun h6_28 => ?_)
  ·refine G.kNT (t := 27) rfl h6_28 (G.gskip (t := 28) rfl rfl rfl rfl (G.gskip (t := 28) rfl rfl rfl rfl (G.gskip (t := 28) rfl rfl rfl rfl (G.gskip (t := 28) rfl rfl rfl rfl (G.gskip (t := 28) rfl rfl rfl rfl (G.q (Quiet.pickT rfl rfl) rfl (G.nil (G.then_n (G.condT rfl (G.seq (G.region (G.ag rfl rfl (G.nil (G.then_n (G.ret (G.then_r ?_))))))))))))))))
   refine G.lgFold (g := g) (x := x) ⟨a, b, (numR (some (l.getD 0 []))).1, [], [], [], false⟩ (by (repeat' constructor)) (by exact rfl) (by first | rfl | simp [Lg.keep]) (by first | rfl | simp [Lg.keep]) (by first | rfl | simp [Lg.keep]) (by first | rfl | simp [Lg.keep]) ?_
   exact G.dn (l := [.tmp 4]) rfl rfl ⟨_, false, (fun h => by cases h), fun _ => by rw [hpc, lh_bad (fun g => h6_28 (he1.2 g))], rfl, rfl⟩
  ·refine G.kNF (t := 27) rfl h6_28 (G.grun (t := 28) rfl rfl rfl (G.mv rfl rfl (G.grun (t := 28) rfl rfl rfl (G.q (Quiet.nilp rfl) rfl (G.grun (t := 28) rfl rfl rfl (G.q (Quiet.fieldAddr rfl fo_79_2) rfl (G.grun (t := 28) rfl rfl rfl ?_)))))))
   refine G.q (Quiet.ld rfl ag_3) rfl ?_
   refine G.grun (t := 28) rfl rfl rfl (G.q (Quiet.int rfl rfl rfl) rfl (G.q (Quiet.pickF rfl rfl) rfl (G.nil (G.then_n ?_))))
   refine G.condD rfl (fun h34 => ?_) (fun h34 => ?_)
   ·refine G.seq (G.region (G.ag rfl rfl (G.nil (G.then_n (G.ret (G.then_r ?_))))))
    refine G.lgFold (g := g) (x := x) ⟨a, b, (numR (some (l.getD 0 []))).1, [], [], [], false⟩ (by (repeat' constructor)) (by exact rfl) (by first | rfl | simp [Lg.keep]) (by first | rfl | simp [Lg.keep]) (by first | rfl | simp [Lg.keep]) (by first | rfl | simp [Lg.keep]) ?_
    exact G.dn (l := [.tmp 4]) rfl rfl ⟨_, false, (fun h => by cases h), fun _ => by rw [hpc, lh_ok (he1.1 (by simpa using h6_28))]; exact if_pos h34, rfl, rfl⟩
   ·have hI0 := numR_i64 (some (l.getD 0 []))
    have hn0 := cntX_le (numR (some (l.getD 0 []))).2
    have hlh := lh_ok (he1.1 (by simpa using h6_28))
    rw [hlh] at hpc
    generalize hbase : (numR (some (l.getD 0 []))).1 = base at *
    generalize hmany : (cntX (numR (some (l.getD 0 []))).2).1 = many at *
    dsimp only at hpc
    rw [if_neg h34] at hpc
    refine G.lgFold (g := g) (x := x) ⟨a, b, base, [], [], [], false⟩ (by (repeat' constructor)) (by exact rfl) (by first | rfl | simp [Lg.keep]) (by first | rfl | simp [Lg.keep]) (by first | rfl | simp [Lg.keep]) (by first | rfl | simp [Lg.keep]) ?_
    refine G.skip (G.then_n (G.seq (G.region (G.mv rfl rfl ?_))))
    refine G.q (Quiet.to (v' := .slice (some ⟨ba, if ca = 1 then oa else oa + 1, none⟩) (l.length - 1) (ca - 1)) (Quiet.slSlice (i := 1) (j := ((l.length : Nat) : Int)) rfl el_46 rfl rfl (by omega)) (by rw [tail_addr]; simp)) rfl ?_
    refine G.ag rfl rfl (G.nil (G.then_n (G.seq (G.block ?_))))
    refine G.loopK (ι := Nat × Nat × Nat × Bs) (fun q E => (1, .slice (some ⟨ba, q.2.1, none⟩) (l.length - q.1) q.2.2.1) :: E) (fun q => [lgR g x ⟨a, b, base, q.2.2.2, [], [], false⟩]) (fun q => q.1 ≤ l.length ∧ l.length - q.1 ≤ q.2.2.1 ∧ (∀ h : Hp, p h → rdS 1 h (.slice (some ⟨ba, q.2.1, none⟩) (l.length - q.1) q.2.2.1) (l.length - q.1) (strs (l.drop q.1))) ∧ lparseZ a b l = restZ a b base (snapZ many q.2.2.2 (l.drop q.1)) ∧ q.2.2.2.length ≤ many) (fun q => l.length - q.1) (1, (if ca = 1 then oa else oa + 1), ca - 1, []) (ts := [0, 6]) (.cons rfl (.cons rfl (.nil))) (⟨by dsimp only; omega, by dsimp only; omega, fun h hp => rdS_tail (hr h hp) (by omega) hcap, hpc, Nat.zero_le _⟩) ⟨rfl, rfl, rfl, trivial⟩ (by (repeat' constructor)) ?_
    rintro ⟨i, o, c, sn⟩ ⟨hi, hic, hru, hpz, hsn⟩
    dsimp only
    dsimp only at hi hic hru hpz hsn
    refine G.lgOpen (by (repeat' constructor)) fun ea ec za zc => ?_
    dsimp only
    refine G.seq (G.seq (G.region (G.mv rfl rfl (G.q (Quiet.nilp rfl) rfl (G.q (Quiet.fieldAddr rfl fo_79_3) rfl ?_)))))
    refine G.q (Quiet.ld rfl ag_9) rfl ?_
    refine G.q (Quiet.strlen rfl Tryz.underlying9 rfl) rfl (G.mv rfl rfl (G.q (Quiet.int rfl rfl rfl) rfl (G.nil (G.then_n ?_))))
    refine G.condD rfl (fun h43 => ?_) (fun h43 => ?_)
    ·refine G.skip (G.then_n (G.block (G.seq (G.seq ?_))))
     refine G.draw [] [[0, 1, 2, 3, 4, 5, 6, 7, 8, 9, 10, 11, 12, 13, 14, 15, 16, 17]] mixed (by kernel_rfl) ?_
     refine Phases.go [] (by (repeat' constructor)) ?_
     refine D.kw [1, 2, 3, 4, 5, 6, 7, 8, 9, 10, 11, 12, 13, 14, 15, 16, 17] rfl (Quiet.move rfl) ?_
     refine D.kw [2, 3, 4, 5, 6, 7, 8, 9, 10, 11, 12, 13, 14, 15, 16, 17] rfl (Quiet.slen rfl Tryz.underlying46 rfl) ?_
     refine D.kw [3, 4, 5, 6, 7, 8, 9, 10, 11, 12, 13, 14, 15, 16, 17] rfl (Quiet.int rfl rfl rfl) ?_
     refine D.kw [4, 5, 6, 7, 8, 9, 10, 11, 12, 13, 14, 15, 16, 17] rfl (Quiet.move rfl) ?_
     refine D.dec (t := 47) rfl (fun h10_47 => ?_) (fun h10_47 => ?_)
     ·refine D.kDT (t := 46) rfl h10_47 ?_
      refine D.gs (t := 47) rfl rfl rfl rfl (by kernel_rfl) ?_
      refine D.gs (t := 47) rfl rfl rfl rfl (by kernel_rfl) ?_
      refine D.gs (t := 47) rfl rfl rfl rfl (by kernel_rfl) ?_
      refine D.gs (t := 47) rfl rfl rfl rfl (by kernel_rfl) ?_
      refine D.gs (t := 47) rfl rfl rfl rfl (by kernel_rfl) ?_
      refine D.gs (t := 47) rfl rfl rfl rfl (by kernel_rfl) ?_
      refine D.gs (t := 47) rfl rfl rfl rfl (by kernel_rfl) ?_
      refine D.gs (t := 47) rfl rfl rfl rfl (by kernel_rfl) ?_
      refine D.gs (t := 47) rfl rfl rfl rfl (by kernel_rfl) ?_
      refine D.gs (t := 47) rfl rfl rfl rfl (by kernel_rfl) ?_
      refine D.gs (t := 47) rfl rfl rfl rfl (by kernel_rfl) ?_
      refine D.gs (t := 47) rfl rfl rfl rfl (by kernel_rfl) ?_
      refine D.gs (t := 47) rfl rfl rfl rfl (by kernel_rfl) ?_
      refine D.kw [] rfl (Quiet.pickT rfl rfl) ?_
      refine D.ph (Phases.fin (G.then_n (G.condT rfl (G.seq (G.region (G.ag rfl rfl (G.nil (G.then_n (G.ret (G.then_r (G.blk_r (G.then_r (G.blk_r (G.then_r ?_))))))))))))))
      refine G.lgFold (g := g) (x := x) ⟨a, b, base, sn, [], [], false⟩ (by (repeat' constructor)) (by exact rfl) (by first | rfl | simp [Lg.keep]) (by first | rfl | simp [Lg.keep]) (by first | rfl | simp [Lg.keep]) (by first | rfl | simp [Lg.keep]) ?_
      exact G.dn (l := [.tmp 4]) rfl rfl ⟨_, false, (fun h => by cases h), fun _ => by rw [hpz]; rw [List.drop_eq_nil_of_le (by omega), snap_none (by omega)]; rfl, rfl, rfl⟩
     ·refine D.kDF (t := 46) rfl h10_47 ?_
      refine D.gqw [5, 6, 7, 16, 17] (t := 47) rfl rfl rfl (by kernel_rfl) (Quiet.move rfl) ?_
      refine D.gqw [6, 7, 16, 17] (t := 47) rfl rfl rfl (by kernel_rfl) (Quiet.indexAddr rfl rfl el_46 (by omega)) ?_
      refine D.gqw [7, 16, 17] (t := 47) rfl rfl rfl (by kernel_rfl) (Quiet.loadEl (p := p) (i := 0) (v := vstr (l.getD i [])) rfl ag_9 (by (repeat' constructor)) hru (by have hil : i < l.length := (by omega); simp [strs, List.getElem?_drop, List.getD_eq_getElem?_getD, hil])) ?_
      refine D.gqw [16, 17] (t := 47) rfl rfl rfl (by kernel_rfl) (Quiet.strlen rfl Tryz.underlying9 rfl) ?_
      refine D.gqw [14, 15, 16, 17] (t := 47) rfl rfl rfl (by kernel_rfl) (Quiet.move rfl) ?_
      refine D.gqw [10, 11, 12, 13, 14, 15, 16, 17] (t := 47) rfl rfl rfl (by kernel_rfl) (Quiet.move rfl) ?_
      refine D.gqw [11, 12, 13, 14, 15, 16, 17] (t := 47) rfl rfl rfl (by kernel_rfl) (Quiet.nilp rfl) ?_
      refine D.gqw [12, 13, 14, 15, 16, 17] (t := 47) rfl rfl rfl (by kernel_rfl) (Quiet.fieldAddr rfl fo_79_3) ?_
      refine D.gqw [13, 14, 15, 16, 17] (t := 47) rfl rfl rfl (by kernel_rfl) (Quiet.ld rfl ag_9) ?_
      refine D.gqw [14, 15, 16, 17] (t := 47) rfl rfl rfl (by kernel_rfl) (Quiet.strlen rfl Tryz.underlying9 rfl) ?_
      refine D.gqw [15, 16, 17] (t := 47) rfl rfl rfl (by kernel_rfl) (Quiet.sub rfl rfl (by omega)) ?_
      refine D.gqw [16, 17] (t := 47) rfl rfl rfl (by kernel_rfl) (Quiet.min2 rfl rfl) ?_
      refine D.gqw [17] (t := 47) rfl rfl rfl (by kernel_rfl) (Quiet.int rfl rfl rfl) ?_
      refine D.kw [] rfl (Quiet.pickF rfl rfl) ?_
      refine D.ph (Phases.fin (G.then_n ?_))
      refine G.condN rfl (fun h61 => ?_) (fun h61 => ?_)
      ·refine G.seq (G.region (G.ag rfl rfl (G.nil (G.then_n (G.ret (G.then_r (G.blk_r (G.then_r (G.blk_r (G.then_r ?_))))))))))
       refine G.lgFold (g := g) (x := x) ⟨a, b, base, sn, [], [], false⟩ (by (repeat' constructor)) (by exact rfl) (by first | rfl | simp [Lg.keep]) (by first | rfl | simp [Lg.keep]) (by first | rfl | simp [Lg.keep]) (by first | rfl | simp [Lg.keep]) ?_
       exact G.dn (l := [.tmp 4]) rfl rfl ⟨_, false, (fun h => by cases h), fun _ => by rw [hpz]; rw [drop_cons (by omega), snap_bad (by omega) (by omega)]; rfl, rfl, rfl⟩
      ·refine G.skip (G.then_n (G.seq ?_))
       refine G.draw [10] [[0, 1, 2, 3, 4, 5, 6, 7, 8, 9, 10]] mixed (by kernel_rfl) ?_
       refine Phases.go [] (by (repeat' constructor)) ?_
       refine D.kw [1, 2, 3, 7, 8, 9, 10] rfl (Quiet.move rfl) ?_
       refine D.kw [2, 3, 7, 8, 9, 10] rfl (Quiet.nilp rfl) ?_
       refine D.kw [3, 7, 8, 9, 10] rfl (Quiet.fieldAddr rfl fo_79_3) ?_
       refine D.kw [7, 8, 9, 10] rfl (Quiet.ld rfl ag_9) ?_
       refine D.kw [5, 6, 7, 8, 9, 10] rfl (Quiet.move rfl) ?_
       refine D.kw [6, 7, 8, 9, 10] rfl (Quiet.indexAddr rfl rfl el_46 (by omega)) ?_
       refine D.kw [7, 8, 9, 10] rfl (Quiet.loadEl (p := p) (i := 0) (v := vstr (l.getD i [])) rfl ag_9 (by (repeat' constructor)) hru (by have hil : i < l.length := (by omega); simp [strs, List.getElem?_drop, List.getD_eq_getElem?_getD, hil])) ?_
       refine D.kw [8, 9, 10] rfl (Quiet.concat rfl rfl (by omega)) ?_
       refine D.kw [9, 10] rfl (Quiet.nilp rfl) ?_
       refine D.kw [10] rfl (Quiet.fieldAddr rfl fo_79_3) ?_
       refine D.h rfl (by kernel_rfl) (OpSpec.store rfl rfl rfl sz_9 ?c70 ?c71) (by (repeat' constructor)) ?nx72
       case c70 => first | decide | (simp; omega) | simp
       case c71 => exact nfz0 _ _
       rintro v L' rfl
       refine D.ph (Phases.fin (G.then_n (G.region (G.mv rfl rfl ?_))))
       refine G.q (Quiet.to (v' := .slice (some ⟨ba, if c = 1 then o else o + 1, none⟩) ((l.length - i) - 1) (c - 1)) (Quiet.slSlice (i := 1) (j := (((l.length - i) : Nat) : Int)) rfl el_46 rfl rfl (by omega)) (by rw [tail_addr]; simp)) rfl ?_
       refine G.ag rfl rfl (G.nil (G.blk_n (G.then_n ?_)))
       refine G.lgFold (g := g) (x := x) ⟨a, b, base, (sn ++ l.getD i []), [], [], false⟩ (by (repeat' constructor)) (by exact rfl) (by first | rfl | simp [Lg.keep]) (by first | rfl | simp [Lg.keep]) (by first | rfl | simp [Lg.keep]) (by first | rfl | simp [Lg.keep]) ?_
       exact G.roundK ((i + 1, (if c = 1 then o else o + 1), c - 1, sn ++ l.getD i [])) (⟨by dsimp only; omega, by dsimp only; omega, fun h hp => by have h9 := rdS_tail (hru h hp) (by omega) hic; rw [List.drop_drop] at h9; exact h9, by rw [hpz, drop_cons (by omega), snap_step (by omega) (by omega)], by dsimp only; rw [List.length_append]; omega⟩) (by dsimp only; omega) ⟨rfl, rfl, rfl, trivial⟩ (by (repeat' constructor)) (by ((repeat (apply Have.cons; (repeat (first | exact Pick.here | apply Pick.there)))); apply Have.base; repeat' constructor))
    ·have hlt1 : ∀ s ∈ l.drop i, s.length ≤ 1073741824 := fun s hs1 => hs s (List.mem_of_mem_drop hs1)
     rw [snap_done (by omega)] at hpz
     refine G.lgFold (g := g) (x := x) ⟨a, b, base, sn, [], [], false⟩ (by (repeat' constructor)) (by exact rfl) (by first | rfl | simp [Lg.keep]) (by first | rfl | simp [Lg.keep]) (by first | rfl | simp [Lg.keep]) (by first | rfl | simp [Lg.keep]) ?_
     refine G.exit (G.then_e (G.then_e (G.blk_e (G.then_n (G.seq (G.seq (G.region (G.mv rfl rfl (G.q (Quiet.slen rfl Tryz.underlying46 rfl) rfl (G.mv rfl rfl (G.nil (G.then_n (G.block ?_)))))))))))))
     refine G.loopK (ι := Nat × Lg) (fun q E => (76, vint q.1) :: E) (fun q => [lgR g x q.2]) (fun q => q.1 ≤ l.length - i ∧ LgI q.2 ∧ lparseZ a b l = entsZ q.2 ((l.drop i).drop q.1)) (fun q => l.length - i - q.1) (0, ⟨a, b, base, sn, [], [], false⟩) (ts := [0, 74, 75]) (.cons rfl (.cons rfl (.cons rfl (.nil)))) (⟨Nat.zero_le _, ⟨Nat.zero_le _, rfl, (fun s hs => by cases hs), hI0, fun z hz => by cases hz⟩, hpz⟩) ⟨rfl, rfl, rfl, rfl, trivial⟩ (by (repeat' constructor)) ?_
     rintro ⟨j, Λ⟩ ⟨hj, hΛ, hpe⟩
     dsimp only
     dsimp only at hj hΛ hpe
     refine G.seq (G.region (G.q (Quiet.int rfl rfl rfl) rfl (G.nil (G.then_n (G.seq ?_)))))
     refine G.condD rfl (fun h77 => ?_) (fun h77 => ?_)
     ·have hjl : j < (l.drop i).length := by rw [List.length_drop]; omega
      have hdj := drop_cons hjl
      have hsl : ((l.drop i).getD j []).length ≤ 1073741824 := by rw [List.getD_eq_getElem?_getD, List.getElem?_eq_getElem hjl]; exact hlt1 _ (List.getElem_mem hjl)
      refine G.skip (G.then_n (G.seq (G.block (G.seq (G.region ?_)))))
      refine G.q (Quiet.indexAddr rfl rfl el_46 (by omega)) rfl ?_
      refine G.q (Quiet.loadEl (p := p) (i := j * 1) (v := vstr ((l.drop i).getD j [])) rfl ag_9 (by (repeat' constructor)) hru (by rw [Nat.mul_one]; simp [strs, List.getElem?_drop, List.getD_eq_getElem?_getD, show i + j < l.length by omega])) rfl ?_
      refine G.ag rfl rfl (G.nil (G.then_n (G.seq (G.region (G.mv rfl rfl ?_)))))
      refine G.oq (OpSpec.call Tryz.func53 rfl rfl (vs := [_]) rfl (wget_spec ((l.drop i).getD j []) (by omega))) ?nx81
      rintro v L' ⟨ge, er, hge, rfl, rfl⟩
      refine G.mv rfl rfl (G.q (Quiet.extract rfl rfl) rfl (G.q (Quiet.extract rfl rfl) rfl ?_))
      refine G.oq (OpSpec.allocA ze_38) ?nx85
      rintro v L' ⟨b9, rfl, rfl⟩
      refine G.oq (OpSpec.storeA rfl rfl ?c87 sz_38 ?c90 ?c88 ?c89) ?nx91
      case c87 => exact hge.cells
      case c90 => rfl
      case c88 => simp [enC, ptC]
      case c89 => exact nfz0 _ _
      rintro v L' rfl
      refine G.ag rfl rfl (G.nil ?_)
      refine G.ptCast (b := b9) (l' := enC ge) (by (repeat' constructor)) (by exact rfl) ?_
      refine G.lgOpen (by (repeat' constructor)) fun ea ec za zc => ?_
      refine G.then_n (G.seq (G.seq ?_))
      refine G.draw [] [[0, 1, 2, 3, 4, 5, 6, 7, 8, 9, 10, 11, 12, 13, 14, 15, 16]] mixed (by kernel_rfl) ?_
      refine Phases.go [ptc b9 _ _, ptc g _ _, strR _ Λ.ents, intR _ Λ.zxs] (by (repeat' constructor)) ?_
      refine D.kw [1, 2, 3, 4, 5, 6, 7, 8, 9, 10, 11, 12, 13, 14, 15, 16] rfl (Quiet.move rfl) ?_
      refine D.kw [2, 3, 4, 5, 6, 7, 8, 9, 10, 11, 12, 13, 14, 15, 16] rfl (Quiet.int rfl rfl rfl) ?_
      refine D.kw [3, 4, 5, 6, 7, 8, 9, 10, 11, 12, 13, 14, 15, 16] rfl (Quiet.move rfl) ?_
      refine D.ndec (t := 87) rfl (fun h18_87 => ?_) (fun h18_87 => ?_)
      ·refine D.kNT (t := 86) rfl h18_87 ?_
       refine D.gs (t := 87) rfl rfl rfl rfl (by kernel_rfl) ?_
       refine D.gs (t := 87) rfl rfl rfl rfl (by kernel_rfl) ?_
       refine D.gs (t := 87) rfl rfl rfl rfl (by kernel_rfl) ?_
       refine D.gs (t := 87) rfl rfl rfl rfl (by kernel_rfl) ?_
       refine D.gs (t := 87) rfl rfl rfl rfl (by kernel_rfl) ?_
       refine D.kw [9, 10, 11, 12, 13, 14, 15, 16] rfl (Quiet.pickT rfl rfl) ?_
       refine D.kw [10, 11, 12, 13, 14, 15, 16] rfl (Quiet.move rfl) ?_
       refine D.gs (t := 94) rfl rfl rfl rfl (by kernel_rfl) ?_
       refine D.gs (t := 94) rfl rfl rfl rfl (by kernel_rfl) ?_
       refine D.gs (t := 94) rfl rfl rfl rfl (by kernel_rfl) ?_
       refine D.gs (t := 94) rfl rfl rfl rfl (by kernel_rfl) ?_
       refine D.gs (t := 94) rfl rfl rfl rfl (by kernel_rfl) ?_
       refine D.gs (t := 94) rfl rfl rfl rfl (by kernel_rfl) ?_
       refine D.kw [] rfl (Quiet.pickT rfl rfl) ?_
       refine D.ph (Phases.fin (G.then_n (G.condT rfl (G.seq (G.region (G.ag rfl rfl (G.nil (G.then_n (G.ret (G.then_r (G.blk_r (G.then_r (G.then_r (G.blk_r (G.then_r ?_)))))))))))))))
       refine G.lgFold (g := g) (x := x) Λ (by (repeat' constructor)) (by exact rfl) (by first | rfl | simp [Lg.keep]) (by first | rfl | simp [Lg.keep]) (by first | rfl | simp [Lg.keep]) (by first | rfl | simp [Lg.keep]) ?_
       exact G.dn (l := [.tmp 4]) rfl rfl ⟨_, false, (fun h => by cases h), fun _ => by rw [hpe, hdj, ents_none (by rcases hge with ⟨g1, -, -⟩ | ⟨-, g2, -⟩; exact absurd g1 h18_87; exact g2)], rfl, rfl⟩
      ·have hgz : getZ ((l.drop i).getD j []) = some ge.pl := by rcases hge with ⟨-, g2, -⟩ | ⟨g1, -⟩; exact g2; omega
       have hgi : I64 ge.zx := (get_zx64 hgz : I64 ge.pl.zx)
       refine D.kNF (t := 86) rfl h18_87 ?_
       refine D.gqw [4, 7, 8, 9, 10, 11, 12, 13, 14, 15, 16] (t := 87) rfl rfl rfl (by kernel_rfl) (Quiet.fieldAddr rfl fo_38_0) ?_
       refine D.gqw [7, 8, 9, 10, 11, 12, 13, 14, 15, 16] (t := 87) rfl rfl rfl (by kernel_rfl) (Quiet.ld rfl ag_3) ?_
       refine D.gqw [6, 7, 8, 9, 10, 11, 12, 13, 14, 15, 16] (t := 87) rfl rfl rfl (by kernel_rfl) (Quiet.move rfl) ?_
       refine D.gm (t := 87) rfl rfl rfl (by kernel_rfl) (OpSpec.call Tryz.func17 rfl rfl (vs := [_]) rfl (llastO_spec g x Λ hΛ ea ec za zc)) (by (repeat' constructor)) ?nx99
       refine D.gqw [8, 9, 10, 11, 12, 13, 14, 15, 16] (t := 87) rfl rfl rfl (by kernel_rfl) (Quiet.int rfl rfl rfl) ?_
       refine D.kw [9, 10, 11, 12, 13, 14, 15, 16] rfl (Quiet.pickF rfl rfl) ?_
       refine D.kw [10, 11, 12, 13, 14, 15, 16] rfl (Quiet.move rfl) ?_
       refine D.dec (t := 94) rfl (fun h18_94 => ?_) (fun h18_94 => ?_)
       ·refine D.kDT (t := 92) rfl h18_94 (D.kDT (t := 93) rfl h18_94 ?_)
        refine D.gs (t := 94) rfl rfl rfl rfl (by kernel_rfl) ?_
        refine D.gs (t := 94) rfl rfl rfl rfl (by kernel_rfl) ?_
        refine D.gs (t := 94) rfl rfl rfl rfl (by kernel_rfl) ?_
        refine D.gs (t := 94) rfl rfl rfl rfl (by kernel_rfl) ?_
        refine D.gs (t := 94) rfl rfl rfl rfl (by kernel_rfl) ?_
        refine D.gs (t := 94) rfl rfl rfl rfl (by kernel_rfl) ?_
        refine D.kw [] rfl (Quiet.pickT rfl rfl) ?_
        refine D.ph (Phases.fin (G.then_n (G.condT rfl (G.seq (G.region (G.ag rfl rfl (G.nil (G.then_n (G.ret (G.then_r (G.blk_r (G.then_r (G.then_r (G.blk_r (G.then_r ?_)))))))))))))))
        refine G.lgFold (g := g) (x := x) Λ (by (repeat' constructor)) (by exact rfl) (by first | rfl | simp [Lg.keep]) (by first | rfl | simp [Lg.keep]) (by first | rfl | simp [Lg.keep]) (by first | rfl | simp [Lg.keep]) ?_
        exact G.dn (l := [.tmp 4]) rfl rfl ⟨_, false, (fun h => by cases h), fun _ => by rw [hpe, hdj, ents_bad hgz (by first | exact .inl h18_94 | exact .inr (by omega))], rfl, rfl⟩
       ·refine D.kDF (t := 92) rfl h18_94 (D.kDF (t := 93) rfl h18_94 ?_)
        refine D.gqw [11, 12, 13, 14, 15, 16] (t := 94) rfl rfl rfl (by kernel_rfl) (Quiet.move rfl) ?_
        refine D.gqw [12, 13, 14, 15, 16] (t := 94) rfl rfl rfl (by kernel_rfl) (Quiet.nilp rfl) ?_
        refine D.gqw [13, 14, 15, 16] (t := 94) rfl rfl rfl (by kernel_rfl) (Quiet.fieldAddr rfl fo_79_4) ?_
        refine D.gqw [14, 15, 16] (t := 94) rfl rfl rfl (by kernel_rfl) (Quiet.ld rfl ag_46) ?_
        refine D.gqw [15, 16] (t := 94) rfl rfl rfl (by kernel_rfl) (Quiet.slen rfl Tryz.underlying46 rfl) ?_
        refine D.gqw [16] (t := 94) rfl rfl rfl (by kernel_rfl) (Quiet.int rfl rfl rfl) ?_
        refine D.kw [] rfl (Quiet.pickF rfl rfl) ?_
        refine D.ph (Phases.fin (G.then_n ?_))
        refine G.condD rfl (fun h101 => ?_) (fun h101 => ?_)
        ·refine G.seq (G.region (G.ag rfl rfl (G.nil (G.then_n (G.ret (G.then_r (G.blk_r (G.then_r (G.then_r (G.blk_r (G.then_r ?_)))))))))))
         refine G.lgFold (g := g) (x := x) Λ (by (repeat' constructor)) (by exact rfl) (by first | rfl | simp [Lg.keep]) (by first | rfl | simp [Lg.keep]) (by first | rfl | simp [Lg.keep]) (by first | rfl | simp [Lg.keep]) ?_
         exact G.dn (l := [.tmp 4]) rfl rfl ⟨_, false, (fun h => by cases h), fun _ => by rw [hpe, hdj, ents_bad hgz (by first | exact .inl h18_94 | exact .inr (by omega))], rfl, rfl⟩
        ·refine G.lgFold (g := g) (x := x) Λ (by (repeat' constructor)) (by exact rfl) (by first | rfl | simp [Lg.keep]) (by first | rfl | simp [Lg.keep]) (by first | rfl | simp [Lg.keep]) (by first | rfl | simp [Lg.keep]) ?_
         have hkI : LgI (Λ.keep ((l.drop i).getD j []) ge.zx) := hΛ.keep (by have := hΛ.ents; omega) hsl hgi
         refine G.skip (G.then_n (G.region (G.mv rfl rfl (G.mv rfl rfl (G.q (Quiet.fieldAddr rfl fo_38_0) rfl ?_)))))
         refine G.q (Quiet.ld rfl ag_3) rfl ?_
         refine G.oq (OpSpec.call Tryz.func51 rfl rfl (vs := [_, _, _]) rfl (lkeep_spec g x Λ ((l.drop i).getD j []) ge.zx hΛ)) ?nx114
         rintro v L' ⟨rfl, rfl⟩
         refine G.nil (G.blk_n (G.then_n (G.region ?_)))
         refine G.q (Quiet.add rfl rfl (by omega)) rfl ?_
         refine G.mv rfl rfl (G.nil (G.then_n ?_))
         exact G.roundK ((j + 1, Λ.keep ((l.drop i).getD j []) ge.zx)) (⟨by dsimp only; omega, hkI, by rw [hpe, hdj, ents_step hgz (by rintro (g1 | g1); exact h18_94 g1; omega)]; rfl⟩) (by dsimp only; omega) ⟨rfl, rfl, rfl, rfl, trivial⟩ (by (repeat' constructor)) (by ((repeat (apply Have.cons; (repeat (first | exact Pick.here | apply Pick.there)))); apply Have.base; repeat' constructor))
     ·refine G.exit (G.then_e (G.then_e (G.blk_e (G.then_n (G.seq (G.region (G.ag rfl rfl (G.nil (G.then_n (G.ret ?_))))))))))
      exact G.dn (l := [.tmp 4]) rfl rfl ⟨_, true, fun _ => by rw [hpe, List.drop_eq_nil_of_le (by rw [List.length_drop]; omega)]; rfl, (fun h => by cases h), rfl, rfl⟩

theorem lopen_spec (d : Nat) (δ : Dk) (hn : 2 ≤ δ.now.length ∧ δ.now.length ≤ 32768) (hok : δ.Ok) (hrs : ∀ ω, openZ δ = some ω → ω.doubt = false ∧ ω.recs.length ≤ 1048576 ∧ ∀ s ∈ ω.recs, s.length ≤ 1073741824) : Fn Tryz.prog 18 #[vptr d] [dkR d δ] fun v L => (δ.dead = true ∧ v = .tuple #[.pointer none, vint 2] ∧ L = [dkR d δ]) ∨
    (δ.dead = false ∧ openZ δ = none ∧ v = .tuple #[.pointer none, vint 80] ∧ L = [dkR d δ]) ∨ (δ.dead = false ∧ ∃ ω, openZ δ = some ω ∧ ((openLZ ω = none ∧ v = .tuple #[.pointer none, vint 80] ∧ L = [dkR d δ]) ∨ (∃ Λ g x, openLZ ω = some Λ ∧ v = .tuple #[vptr g, vint 0] ∧ L = [lgR g x Λ, wlR x d ω, dkR d δ]))) := by
 refine Fn.intro (vs := [vptr d]) Tryz.func18 rfl rfl ?_
 intro F W
 refine G.seq (G.region (G.ag rfl rfl (G.ag rfl rfl (G.nil (G.then_n (G.seq (G.region (G.mv rfl rfl ?_))))))))
 refine G.oq (OpSpec.call Tryz.func54 rfl rfl (vs := [_]) rfl (open_spec d δ hn hok)) ?nx4
 rintro v L' (⟨hdd, rfl, rfl⟩ | ⟨hdd, hop, rfl, rfl⟩ | ⟨hdd, ω, hop, x, rfl, rfl⟩)
 ·refine G.mv rfl rfl (G.q (Quiet.extract rfl rfl) rfl (G.q (Quiet.extract rfl rfl) rfl (G.ag rfl rfl (G.ag rfl rfl (G.nil (G.then_n (G.seq (G.block (G.seq (G.region (G.mv rfl rfl ?_)))))))))))
  refine G.q (Quiet.as (v' := .bool false) (by rfl) (Quiet.int rfl rfl rfl)) rfl ?_
  refine G.ag rfl rfl (G.nil (G.then_n (G.condF rfl (G.seq (G.region (G.mv rfl rfl ?_))))))
  refine G.q (Quiet.as (v' := .bool true) (by rfl) (Quiet.int rfl rfl rfl)) rfl ?_
  refine G.ag rfl rfl (G.nil (G.then_n (G.condT rfl (G.seq (G.region (G.mv rfl rfl (G.ag rfl rfl (G.ag rfl rfl (G.nil (G.then_n (G.ret (G.blk_r (G.then_r ?_)))))))))))))
  exact G.dn (l := [.tmp 2, .tmp 3]) rfl rfl (.inl ⟨hdd, rfl, rfl⟩)
 ·refine G.mv rfl rfl (G.q (Quiet.extract rfl rfl) rfl (G.q (Quiet.extract rfl rfl) rfl (G.ag rfl rfl (G.ag rfl rfl (G.nil (G.then_n (G.seq (G.block (G.seq (G.region (G.mv rfl rfl ?_)))))))))))
  refine G.q (Quiet.as (v' := .bool true) (by rfl) (Quiet.int rfl rfl rfl)) rfl ?_
  refine G.ag rfl rfl (G.nil (G.then_n (G.condT rfl (G.seq (G.region (G.ag rfl rfl (G.ag rfl rfl (G.nil (G.then_n (G.ret (G.blk_r (G.then_r ?_))))))))))))
  exact G.dn (l := [.tmp 2, .tmp 3]) rfl rfl (.inr (.inl ⟨hdd, hop, rfl, rfl⟩))
 ·obtain ⟨hr1, hr2, hr3⟩ := hrs ω hop
  refine G.mv rfl rfl (G.q (Quiet.extract rfl rfl) rfl (G.q (Quiet.extract rfl rfl) rfl (G.ag rfl rfl (G.ag rfl rfl (G.nil (G.then_n (G.seq (G.block (G.seq (G.region (G.mv rfl rfl ?_)))))))))))
  refine G.q (Quiet.as (v' := .bool false) (by rfl) (Quiet.int rfl rfl rfl)) rfl ?_
  refine G.ag rfl rfl (G.nil (G.then_n (G.condF rfl (G.seq (G.region (G.mv rfl rfl ?_))))))
  refine G.q (Quiet.as (v' := .bool false) (by rfl) (Quiet.int rfl rfl rfl)) rfl ?_
  refine G.ag rfl rfl (G.nil (G.then_n (G.condF rfl (G.skip (G.blk_n (G.then_n (G.seq (G.region (G.mv rfl rfl ?_)))))))))
  refine G.oq (OpSpec.call Tryz.func55 rfl rfl (vs := [_]) rfl (wmarks_spec x d ω)) ?nx22
  rintro v L' ⟨rfl, rfl⟩
  refine G.mv rfl rfl (G.q (Quiet.extract rfl rfl) rfl (G.q (Quiet.extract rfl rfl) rfl (G.ag rfl rfl (G.ag rfl rfl (G.nil (G.then_n (G.seq (G.region (G.mv rfl rfl (G.mv rfl rfl ?_))))))))))
  refine G.q (Quiet.build (us := [(0, _), (1, _)]) fl_76 ze_76 rfl rfl (by simp [isCell])) rfl ?_
  refine G.mv rfl rfl ?_
  refine G.q (Quiet.buildN (pl := [(0, 2), (2, 1), (3, 1), (4, 1), (5, 1), (6, 1), (7, 1)]) (us := [(0, _), (1, _)]) (cells := [vint ω.a, vint ω.b, vptr x, vint 0, vstr [], .slice none 0 0, .slice none 0 0, .bool false]) Tryz.underlying79 (by kernel_rfl) ze_79 rfl rfl) rfl ?_
  refine G.oq (OpSpec.box rfl) ?nx28
  rintro v L' ⟨g, rfl, rfl⟩
  refine G.ag rfl rfl (G.nil ?_)
  refine G.ptCast (b := g) (l' := [vint ω.a, vint ω.b, vptr x, vint 0, vstr [], .slice none 0 0, .slice none 0 0, .bool false]) (by (repeat' constructor)) rfl ?_
  refine G.add (slR_nil 9 1) (G.add (slR_nil 3 1) ?_)
  refine G.lgFold (g := g) (x := x) (ea := none) (ec := 0) (za := none) (zc := 0) (es := []) (zs := []) ⟨ω.a, ω.b, 0, [], [], [], false⟩ (by (repeat' constructor)) rfl rfl rfl rfl rfl ?_
  refine G.then_n (G.seq (G.region (G.mv rfl rfl ?_)))
  refine G.oq (OpSpec.call Tryz.func56 rfl rfl (vs := [_]) rfl (wrecords_spec x d ω (by omega))) ?nx30
  rintro v L' (⟨h, -, -⟩ | ⟨-, aR, cR, rfl, rfl⟩); · rw [hr1] at h; cases h
  refine G.mv rfl rfl (G.q (Quiet.extract rfl rfl) rfl (G.q (Quiet.extract rfl rfl) rfl (G.ag rfl rfl (G.ag rfl rfl (G.nil (G.then_n (G.seq (G.seq (G.region (G.mv rfl rfl (G.q (Quiet.int rfl rfl rfl) rfl (G.mv rfl rfl ?_))))))))))))
  refine G.dec (t := 41) rfl (fun h9_41 => ?_) (fun h9_41 => ?_)
  ·refine G.kDT (t := 40) rfl h9_41 (G.gskip (t := 41) rfl rfl rfl rfl (G.gskip (t := 41) rfl rfl rfl rfl (G.gskip (t := 41) rfl rfl rfl rfl (G.q (Quiet.pickT rfl rfl) rfl (G.mv rfl rfl (G.gskip (t := 46) rfl rfl rfl rfl (G.gskip (t := 46) rfl rfl rfl rfl (G.gskip (t := 46) rfl rfl rfl rfl (G.gskip (t := 46) rfl rfl rfl rfl (G.q (Quiet.pickT rfl rfl) rfl (G.nil (G.then_n (G.condT rfl (G.seq (G.region (G.ag rfl rfl (G.ag rfl rfl (G.nil (G.then_n (G.ret (G.then_r ?_)))))))))))))))))))))
   exact G.dn (l := [.tmp 2, .tmp 3]) rfl rfl (.inr (.inr ⟨hdd, ω, hop, .inl ⟨by unfold openLZ; rw [if_pos (.inl h9_41)], rfl, rfl⟩⟩))
  ·refine G.kDF (t := 40) rfl h9_41 (G.grun (t := 41) rfl rfl rfl (G.mv rfl rfl (G.grun (t := 41) rfl rfl rfl (G.mv rfl rfl (G.grun (t := 41) rfl rfl rfl (G.q (Quiet.int rfl rfl rfl) rfl (G.q (Quiet.pickF rfl rfl) rfl (G.mv rfl rfl ?_))))))))
   refine G.dec (t := 46) rfl (fun h9_46 => ?_) (fun h9_46 => ?_)
   ·refine G.kDT (t := 44) rfl h9_46 (G.kDT (t := 45) rfl h9_46 (G.gskip (t := 46) rfl rfl rfl rfl (G.gskip (t := 46) rfl rfl rfl rfl (G.gskip (t := 46) rfl rfl rfl rfl (G.gskip (t := 46) rfl rfl rfl rfl (G.q (Quiet.pickT rfl rfl) rfl (G.nil (G.then_n (G.condT rfl (G.seq (G.region (G.ag rfl rfl (G.ag rfl rfl (G.nil (G.then_n (G.ret (G.then_r ?_)))))))))))))))))
    exact G.dn (l := [.tmp 2, .tmp 3]) rfl rfl (.inr (.inr ⟨hdd, ω, hop, .inl ⟨by unfold openLZ; rw [if_pos (.inr h9_46)], rfl, rfl⟩⟩))
   ·refine G.kDF (t := 44) rfl h9_46 (G.kDF (t := 45) rfl h9_46 (G.grun (t := 46) rfl rfl rfl (G.mv rfl rfl (G.grun (t := 46) rfl rfl rfl (G.mv rfl rfl (G.grun (t := 46) rfl rfl rfl ?_))))))
    refine G.oq (OpSpec.call Tryz.func57 rfl rfl (vs := [_, _]) rfl (lparse_spec g x ω.a ω.b (.slice aR ω.recs.length cR) ω.recs (strR (.slice aR ω.recs.length cR) ω.recs) (fun h hp => slR_rd hp) hr2 hr3)) ?nx43
    rintro v L' ⟨Λ, ok, hpy, hpn, rfl, rfl⟩
    refine G.grun (t := 46) rfl rfl rfl (G.q (Quiet.not rfl) rfl (G.q (Quiet.pickF rfl rfl) rfl (G.nil (G.then_n ?_))))
    refine G.condB rfl (fun h51 => ?_) (fun h51 => ?_)
    ·refine G.seq (G.region (G.ag rfl rfl (G.ag rfl rfl (G.nil (G.then_n (G.ret (G.then_r ?_)))))))
     exact G.dn (l := [.tmp 2, .tmp 3]) rfl rfl (.inr (.inr ⟨hdd, ω, hop, .inl ⟨by unfold openLZ; rw [if_neg (by rintro (g1 | g1); exact h9_41 g1; exact h9_46 g1)]; exact hpn (by simpa using h51), rfl, rfl⟩⟩))
    ·refine G.skip (G.then_n (G.seq (G.region (G.mv rfl rfl (G.ag rfl rfl (G.ag rfl rfl (G.nil (G.then_n (G.ret ?_)))))))))
     exact G.dn (l := [.tmp 2, .tmp 3]) rfl rfl (.inr (.inr ⟨hdd, ω, hop, .inr ⟨Λ, g, x, by unfold openLZ; rw [if_neg (by rintro (g1 | g1); exact h9_41 g1; exact h9_46 g1)]; exact hpy (by simpa using h51), rfl, rfl⟩⟩))

theorem OpSpec.preImp {P : Program} {E : Env} {o : Oper} {p p' : HP} {R : List HP} {K : Value → List HP → Prop} (hi : ∀ h, p h → p' h) (h : OpSpec P o E (p' :: R) K) : OpSpec P o E (p :: R) K := by
  intro ρ w F ha hs
  exact h ρ w F ha (sep_imp hi hs)
theorem shr32 (z : Int) : vint (z.fdiv (2 ^ min (32 : Int).toNat IntKind.i64.bits)) = vint (z / 4294967296) := by
  show vint (z.fdiv 4294967296) = _
  rw [Int.fdiv_eq_ediv_of_nonneg _ (by decide)]
theorem mk_step {all : List Int} {j : Nat} (h : j < all.length) : (all.take (j + 1)).foldl markStep [] = markStep ((all.take j).foldl markStep []) (all.getD j 0) := by
  rw [List.take_succ_eq_append_getElem h, List.foldl_append]
  simp [List.getD_eq_getElem?_getD, h]
theorem mk_0 {out : List Int} {z : Int} (h : z = 0) : markStep out z = out := by unfold markStep; rw [if_pos h]
theorem mk_same {out : List Int} {z : Int} (h : ¬ z = 0) (h2 : out ≠ []) (h3 : out.getLastD 0 / 4294967296 = z / 4294967296) : markStep out z = out.dropLast ++ [z] := by unfold markStep; rw [if_neg h, if_pos ⟨h2, h3⟩]
theorem mk_new {out : List Int} {z : Int} (h : ¬ z = 0) (h2 : out = [] ∨ ¬ out.getLastD 0 / 4294967296 = z / 4294967296) : markStep out z = out ++ [z] := by
  unfold markStep; rw [if_neg h, if_neg]
  rintro ⟨g1, g2⟩; rcases h2 with h2 | h2
  · exact g1 h2
  · exact h2 g2
theorem set_last {out : List Int} {i : Nat} (h : i + 1 = out.length) (z : Int) : out.set i z = out.dropLast ++ [z] := by
  obtain ⟨l, x, rfl⟩ : ∃ l x, out = l ++ [x] := ⟨out.dropLast, out.getLast (by intro g; subst g; simp at h), (List.dropLast_concat_getLast _).symm⟩
  rw [List.length_append, List.length_singleton] at h
  obtain rfl : i = l.length := by omega
  simp
theorem lastD_at {out : List Int} {i : Nat} (h : i + 1 = out.length) : out.getLastD 0 = out.getD i 0 := by
  obtain ⟨l, x, rfl⟩ : ∃ l x, out = l ++ [x] := ⟨out.dropLast, out.getLast (by intro g; subst g; simp at h), (List.dropLast_concat_getLast _).symm⟩
  rw [List.length_append, List.length_singleton] at h
  obtain rfl : i = l.length := by omega
  simp [List.getD_eq_getElem?_getD]
theorem mk_len (out : List Int) (z : Int) : (markStep out z).length ≤ out.length + 1 := by
  unfold markStep
  split
  · omega
  · split
    · rw [List.length_append, List.length_dropLast, List.length_singleton]; omega
    · rw [List.length_append, List.length_singleton]; omega
theorem mk_lens (all : List Int) (j : Nat) (h : j ≤ all.length) : ((all.take j).foldl markStep []).length ≤ j := by
  induction j with
  | zero => simp
  | succ j ih =>
    rw [mk_step (by omega)]
    have := mk_len ((all.take j).foldl markStep []) (all.getD j 0)
    have := ih (by omega)
    omega
theorem lmarks_spec (g x : Nat) (Λ : Lg) (hΛ : LgI Λ) : Fn Tryz.prog 15 #[vptr g] [lgR g x Λ] fun v L => ∃ a c, v = .slice a (marksZ Λ).length c ∧ L = [lgR g x Λ, intR v (marksZ Λ)] := by
 refine Fn.intro (vs := [vptr g]) Tryz.func15 rfl rfl ?_
 intro F W
 refine G.lgOpen (by (repeat' constructor)) fun ea ec za zc => ?_
 have h1 := hΛ.ents
 have h2 := hΛ.same
 refine G.seq (G.region (G.ag rfl rfl (G.nil (G.then_n (G.seq (G.add (slR_nil 3 1) (G.region (G.ag rfl rfl (G.nil (G.then_n (G.seq (G.seq ?_))))))))))))
 refine G.draw [4, 9] [[0, 1, 2, 3, 5, 6, 7, 8, 11, 4, 9, 10]] mixed (by kernel_rfl) ?_
 refine Phases.go [ptc g _ _] (by (repeat' constructor)) ?_
 refine D.kw [1, 2, 3, 4, 9, 10] rfl (Quiet.move rfl) ?_
 refine D.kw [2, 3, 4, 9, 10] rfl (Quiet.nilp rfl) ?_
 refine D.kw [3, 4, 9, 10] rfl (Quiet.fieldAddr rfl fo_79_2) ?_
 refine D.kw [4, 9, 10] rfl (Quiet.ld rfl ag_3) ?_
 refine D.k rfl (Quiet.move rfl) ?_
 refine D.k rfl (Quiet.nilp rfl) ?_
 refine D.k rfl (Quiet.fieldAddr rfl fo_79_5) ?_
 refine D.k rfl (Quiet.ld rfl ag_31) ?_
 refine D.k rfl (Quiet.move rfl) ?_
 refine D.h rfl (by kernel_rfl) (OpSpec.buildSlice1 (vs := [_]) el_31 ze_3 rfl rfl rfl rfl rfl (by decide)) (by (repeat' constructor)) ?nx12
 rintro v L' ⟨b4, rfl, rfl⟩
 refine D.h rfl (by kernel_rfl) (OpSpec.preImp (p := ptc b4 [vint Λ.base] 3) (p' := slR 3 1 (.slice (some ⟨b4, 0, none⟩) 1 1) 1 [vint Λ.base]) (fun h hp => slR_pt hp rfl) (OpSpec.append (n := 1) (m := Λ.zxs.length) (xs := [vint Λ.base]) (ys := ints Λ.zxs) (p := intR (.slice za Λ.zxs.length zc) Λ.zxs) rfl rfl rfl el_31 (.inl ⟨_, Tryz.underlying31⟩) ze_3 rfl rfl ?hc14 ?hr15 ?hb16 (by decide))) (by (repeat' constructor)) ?nx17
 case hc14 => intro y hy; obtain ⟨z, -, rfl⟩ := List.mem_map.1 hy; rfl
 case hr15 => exact fun h hp => slR_rd hp
 case hb16 => omega
 rintro v L' ⟨⟨a9, c9, rfl⟩, rfl⟩
 refine D.kw [] rfl (Quiet.slen rfl Tryz.underlying31 rfl) ?_
 refine D.ph (Phases.fin ?_)
 refine G.slShape (v := .slice a9 _ c9) (by (repeat' constructor)) (by omega) fun b9 cc9 e0 mb9 _ => ?_
 simp only [Value.slice.injEq, true_and] at e0
 obtain ⟨rfl, rfl⟩ := e0
 have hall : (Λ.base :: Λ.zxs).length = 1 + Λ.zxs.length := by rw [List.length_cons]; omega
 refine G.then_n (G.block ?_)
 refine G.loopK (ι := Nat × Value × (List Int)) (fun q E => (18, vint q.1) :: (3, q.2.1) :: E) (fun q => [intR q.2.1 q.2.2]) (fun q => q.1 ≤ 1 + Λ.zxs.length ∧ (∃ a c, q.2.1 = .slice a q.2.2.length c) ∧ q.2.2 = (((Λ.base :: Λ.zxs).take q.1).foldl markStep [])) (fun q => 1 + Λ.zxs.length - q.1) (0, .slice none 0 0, []) (ts := [2, 16, 17]) (.cons rfl (.cons rfl (.cons rfl (.nil)))) (⟨Nat.zero_le _, ⟨none, 0, rfl⟩, rfl⟩) ⟨rfl, rfl, rfl, rfl, rfl, trivial⟩ (by (repeat' constructor)) ?_
 rintro ⟨j, u, out⟩ ⟨hj, ⟨au, cu, hu⟩, ho⟩
 dsimp only
 dsimp only at hj hu ho
 subst hu
 have hol : out.length ≤ j := by rw [ho]; exact mk_lens _ _ (by omega)
 refine G.seq (G.region (G.q (Quiet.int rfl rfl rfl) rfl (G.nil (G.then_n (G.seq ?_)))))
 refine G.condD rfl (fun h19 => ?_) (fun h19 => ?_)
 ·refine G.skip (G.then_n (G.seq (G.block (G.seq (G.region ?_)))))
  refine G.q (Quiet.indexAddr rfl rfl el_31 (by omega)) rfl ?_
  refine G.q (Quiet.loadEl (p := slR 3 1 (.slice (some ⟨b9, 0, none⟩) (1 + Λ.zxs.length) c9) (1 + Λ.zxs.length) ([vint Λ.base] ++ ints Λ.zxs)) (i := j * 1) (v := vint ((Λ.base :: Λ.zxs).getD j 0)) rfl ag_3 (by (repeat' constructor)) (fun h hp => slR_rd hp) (by have hjl : j < (Λ.base :: Λ.zxs).length := (by omega); rw [show [vint Λ.base] ++ ints Λ.zxs = ints (Λ.base :: Λ.zxs) from rfl]; simp only [ints, List.getElem?_map, Nat.mul_one, List.getElem?_eq_getElem hjl, List.getD_eq_getElem?_getD]; rfl)) rfl ?_
  refine G.ag rfl rfl (G.nil (G.then_n (G.seq (G.region (G.mv rfl rfl (G.q (Quiet.slen rfl Tryz.underlying31 rfl) rfl (G.ag rfl rfl (G.nil (G.then_n (G.block (G.seq (G.region (G.mv rfl rfl (G.q (Quiet.int rfl rfl rfl) rfl (G.ag rfl rfl (G.nil (G.then_n ?_)))))))))))))))))
  refine G.condD rfl (fun h28 => ?_) (fun h28 => ?_)
  ·refine G.skip (G.blk_n (G.blk_n (G.then_n (G.region ?_))))
   refine G.q (Quiet.add rfl rfl (by omega)) rfl ?_
   refine G.mv rfl rfl (G.nil (G.then_n ?_))
   exact G.roundK ((j + 1, .slice au out.length cu, out)) (⟨by dsimp only; omega, ⟨_, _, rfl⟩, by dsimp only; rw [mk_step (by omega), ← ho, mk_0 h28]⟩) (by dsimp only; omega) ⟨rfl, rfl, rfl, rfl, rfl, trivial⟩ (by (repeat' constructor)) (by ((repeat (apply Have.cons; (repeat (first | exact Pick.here | apply Pick.there)))); apply Have.base; repeat' constructor))
  ·refine G.seq (G.region (G.mv rfl rfl (G.q (Quiet.int rfl rfl rfl) rfl (G.mv rfl rfl ?_))))
   refine G.dec (t := 34) rfl (fun h8_34 => ?_) (fun h8_34 => ?_)
   ·obtain ⟨i, hi⟩ : ∃ i, i + 1 = out.length := ⟨out.length - 1, by omega⟩
    refine G.slShape (v := .slice au _ cu) (xs := ints out) (by (repeat' constructor)) (by omega) fun bu cu' e0 mbu _ => ?_
    simp only [Value.slice.injEq, true_and] at e0
    obtain ⟨rfl, rfl⟩ := e0
    refine G.kDT (t := 33) rfl h8_34 (G.grun (t := 34) rfl rfl rfl (G.mv rfl rfl (G.grun (t := 34) rfl rfl rfl (G.mv rfl rfl (G.grun (t := 34) rfl rfl rfl ?_)))))
    refine G.q (Quiet.as (v' := vint (i : Nat)) (by congr 1; omega) (Quiet.sub rfl rfl (by omega))) rfl ?_
    refine G.grun (t := 34) rfl rfl rfl ?_
    refine G.q (Quiet.indexAddr rfl rfl el_31 (by omega)) rfl ?_
    refine G.grun (t := 34) rfl rfl rfl ?_
    refine G.q (Quiet.loadEl (p := intR (.slice (some ⟨bu, 0, none⟩) out.length cu) out) (i := i * 1) (v := vint (out.getD i 0)) rfl ag_3 (by (repeat' constructor)) (fun h hp => slR_rd hp) (by have hil : i < out.length := (by omega); simp [ints, List.getD_eq_getElem?_getD, hil])) rfl ?_
    refine G.grun (t := 34) rfl rfl rfl ?_
    refine G.q (Quiet.as (v' := vint (out.getD i 0 / 4294967296)) (by exact shr32 _) (Quiet.shr rfl rfl (by first | decide | omega))) rfl ?_
    refine G.grun (t := 34) rfl rfl rfl (G.mv rfl rfl (G.grun (t := 34) rfl rfl rfl ?_))
    refine G.q (Quiet.as (v' := vint ((Λ.base :: Λ.zxs).getD j 0 / 4294967296)) (by exact shr32 _) (Quiet.shr rfl rfl (by first | decide | omega))) rfl ?_
    refine G.grun (t := 34) rfl rfl rfl (G.q (Quiet.int rfl rfl rfl) rfl (G.q (Quiet.pickT rfl rfl) rfl (G.ag rfl rfl (G.nil (G.then_n ?_)))))
    refine G.condD rfl (fun h31 => ?_) (fun h31 => ?_)
    ·refine G.region (G.mv rfl rfl (G.mv rfl rfl ?_))
     refine G.q (Quiet.as (v' := vint (i : Nat)) (by congr 1; omega) (Quiet.sub rfl rfl (by omega))) rfl ?_
     refine G.mv rfl rfl ?_
     refine G.q (Quiet.indexAddr rfl rfl el_31 (by omega)) rfl ?_
     refine G.oq (OpSpec.storeRd (sz := 1) (n := out.length) (c := cu) (j := i * 1) (xs := ints out) rfl rfl rfl sz_3 ?h138 ?h239) ?nx40
     case h138 => simp
     case h239 => omega
     rintro v L' rfl
     refine G.nil (G.blk_n (G.blk_n (G.then_n (G.region ?_))))
     refine G.q (Quiet.add rfl rfl (by omega)) rfl ?_
     refine G.mv rfl rfl (G.nil (G.then_n ?_))
     refine G.slCast (T := 3) (sz := 1) (m' := (out.set i ((Λ.base :: Λ.zxs).getD j 0)).length) (xs' := ints (out.set i ((Λ.base :: Λ.zxs).getD j 0))) (by (repeat' constructor)) (by simp) (by simp [ints, List.map_set]) ?_
     exact G.roundK ((j + 1, .slice (some ⟨bu, 0, none⟩) out.length cu, out.set i ((Λ.base :: Λ.zxs).getD j 0))) (⟨by dsimp only; omega, ⟨some ⟨bu, 0, none⟩, cu, by simp⟩, by dsimp only; rw [mk_step (by omega), ← ho, mk_same h28 (by intro g; rw [g] at hi; simp at hi) (by rw [lastD_at hi]; exact h31), set_last hi]⟩) (by dsimp only; omega) ⟨rfl, rfl, rfl, rfl, rfl, trivial⟩ (by (repeat' constructor)) (by ((repeat (apply Have.cons; (repeat (first | exact Pick.here | apply Pick.there)))); apply Have.base; repeat' constructor))
    ·refine G.region (G.mv rfl rfl (G.mv rfl rfl ?_))
     refine G.oq (OpSpec.buildSlice1 (vs := [_]) el_31 ze_3 rfl rfl rfl rfl rfl (by decide)) ?nx43
     rintro v L' ⟨b6, rfl, rfl⟩
     refine G.oq (OpSpec.append1 rfl rfl rfl el_31 ze_3 rfl rfl ?c45 ?c46 (Nat.le_refl _) ?c47 (by decide)) ?nx48
     case c45 => (first | (simp [isCell]; done) | (simp [isCell, setAll, Value.cells]; done))
     case c46 => rfl
     case c47 => omega
     rintro v L' ⟨⟨a6, c6, rfl⟩, rfl⟩
     refine G.ag rfl rfl (G.nil (G.blk_n (G.blk_n (G.then_n (G.region ?_)))))
     refine G.q (Quiet.add rfl rfl (by omega)) rfl ?_
     refine G.mv rfl rfl (G.nil (G.then_n ?_))
     refine G.slCast (T := 3) (sz := 1) (m' := (out ++ [(Λ.base :: Λ.zxs).getD j 0]).length) (xs' := ints (out ++ [(Λ.base :: Λ.zxs).getD j 0])) (by (repeat' constructor)) (by simp) (by simp [ints, Value.cells]) ?_
     exact G.roundK ((j + 1, .slice a6 (out.length + 1) c6, out ++ [(Λ.base :: Λ.zxs).getD j 0])) (⟨by dsimp only; omega, ⟨a6, c6, by simp⟩, by dsimp only; rw [mk_step (by omega), ← ho, mk_new h28 (.inr (by rw [lastD_at hi]; exact h31))]⟩) (by dsimp only; omega) ⟨rfl, rfl, rfl, rfl, rfl, trivial⟩ (by (repeat' constructor)) (by ((repeat (apply Have.cons; (repeat (first | exact Pick.here | apply Pick.there)))); apply Have.base; repeat' constructor))
   ·refine G.kDF (t := 33) rfl h8_34 (G.gskip (t := 34) rfl rfl rfl rfl (G.gskip (t := 34) rfl rfl rfl rfl (G.gskip (t := 34) rfl rfl rfl rfl (G.gskip (t := 34) rfl rfl rfl rfl (G.gskip (t := 34) rfl rfl rfl rfl (G.gskip (t := 34) rfl rfl rfl rfl (G.gskip (t := 34) rfl rfl rfl rfl (G.gskip (t := 34) rfl rfl rfl rfl (G.gskip (t := 34) rfl rfl rfl rfl (G.q (Quiet.pickF rfl rfl) rfl (G.ag rfl rfl (G.nil (G.then_n (G.condF rfl (G.region (G.mv rfl rfl (G.mv rfl rfl ?_)))))))))))))))))
    refine G.oq (OpSpec.buildSlice1 (vs := [_]) el_31 ze_3 rfl rfl rfl rfl rfl (by decide)) ?nx53
    rintro v L' ⟨b6, rfl, rfl⟩
    refine G.oq (OpSpec.append1 rfl rfl rfl el_31 ze_3 rfl rfl ?c55 ?c56 (Nat.le_refl _) ?c57 (by decide)) ?nx58
    case c55 => (first | (simp [isCell]; done) | (simp [isCell, setAll, Value.cells]; done))
    case c56 => rfl
    case c57 => omega
    rintro v L' ⟨⟨a6, c6, rfl⟩, rfl⟩
    refine G.ag rfl rfl (G.nil (G.blk_n (G.blk_n (G.then_n (G.region ?_)))))
    refine G.q (Quiet.add rfl rfl (by omega)) rfl ?_
    refine G.mv rfl rfl (G.nil (G.then_n ?_))
    refine G.slCast (T := 3) (sz := 1) (m' := (out ++ [(Λ.base :: Λ.zxs).getD j 0]).length) (xs' := ints (out ++ [(Λ.base :: Λ.zxs).getD j 0])) (by (repeat' constructor)) (by simp) (by simp [ints, Value.cells]) ?_
    exact G.roundK ((j + 1, .slice a6 (out.length + 1) c6, out ++ [(Λ.base :: Λ.zxs).getD j 0])) (⟨by dsimp only; omega, ⟨a6, c6, by simp⟩, by dsimp only; rw [mk_step (by omega), ← ho, mk_new h28 (.inl (List.eq_nil_of_length_eq_zero (by omega)))]⟩) (by dsimp only; omega) ⟨rfl, rfl, rfl, rfl, rfl, trivial⟩ (by (repeat' constructor)) (by ((repeat (apply Have.cons; (repeat (first | exact Pick.here | apply Pick.there)))); apply Have.base; repeat' constructor))
 ·have hje : j = 1 + Λ.zxs.length := by omega
  have hoz : out = marksZ Λ := by rw [ho, hje]; unfold marksZ; rw [List.take_of_length_le (by omega)]
  subst hoz
  refine G.exit (G.then_e (G.then_e (G.blk_e (G.then_n (G.seq (G.region (G.mv rfl rfl ?_)))))))
  refine G.oq (OpSpec.call Tryz.func52 rfl rfl (vs := [_]) rfl (clipI_spec _ _ _)) ?nx62
  rintro v L' ⟨⟨ac, cc, rfl⟩, rfl⟩
  refine G.ag rfl rfl (G.nil (G.then_n (G.ret ?_)))
  refine G.lgFold (g := g) (x := x) (ea := ea) (ec := ec) (za := za) (zc := zc) (m := Λ.ents.length) (k := Λ.zxs.length) Λ (by (repeat' constructor)) (by exact rfl) (by first | rfl | simp [Lg.keep]) (by first | rfl | simp [Lg.keep]) (by first | rfl | simp [Lg.keep]) (by first | rfl | simp [Lg.keep]) ?_
  exact G.dn (l := [.tmp 2]) rfl rfl ⟨_, _, rfl, rfl⟩

def behindT (Λ : Lg) (z : Int) (j : Nat) : List En := (((Λ.ents.zip Λ.zxs).take j).filter fun q => decide (q.2 > z)).map entAt
theorem behind_step {Λ : Lg} {z : Int} {j : Nat} (h1 : j < Λ.ents.length) (h2 : j < Λ.zxs.length) : behindT Λ z (j + 1) = if Λ.zxs.getD j 0 > z then behindT Λ z j ++ [entAt (Λ.ents.getD j [], Λ.zxs.getD j 0)] else behindT Λ z j := by
  have hz : j < (Λ.ents.zip Λ.zxs).length := by rw [List.length_zip]; omega
  unfold behindT
  rw [List.take_succ_eq_append_getElem hz, List.filter_append, List.map_append]
  have e : (Λ.ents.zip Λ.zxs)[j] = (Λ.ents.getD j [], Λ.zxs.getD j 0) := by simp [List.getD_eq_getElem?_getD, h1, h2]
  rw [e]
  split
  · rename_i g
    rw [List.filter_cons_of_pos (by simpa using g)]; rfl
  · rename_i g
    rw [List.filter_cons_of_neg (by simpa using g)]; simp
theorem enK0 : EnK en0 := ⟨⟨rfl, rfl⟩, fun y hy => by cases hy⟩
theorem GotZ.at {s : Bs} {e : En} {er : Int} (h : GotZ s e er) (z : Int) : e.pl = entAt (s, z) ∧ EnK e := by
  unfold entAt
  rcases h with ⟨-, h1, h2⟩ | ⟨-, h1, rfl⟩
  · exact ⟨by dsimp only; rw [h1]; rfl, h2⟩
  · exact ⟨by dsimp only; rw [h1]; rfl, enK0⟩
theorem lentries_spec (g x : Nat) (Λ : Lg) (z : Int) (hΛ : LgI Λ) : Fn Tryz.prog 16 #[vptr g, vint z] [lgR g x Λ] fun v L => (z < Λ.base ∧ v = .tuple #[.slice none 0 0, vint 81] ∧ L = [lgR g x Λ]) ∨ (¬ z < Λ.base ∧ ∃ es : List En, es.map En.pl = behindL Λ z ∧ (∀ e ∈ es, EnK e) ∧ ∃ a c, v = .tuple #[.slice a es.length c, vint 0] ∧ L = [lgR g x Λ, slR 38 11 (.slice a es.length c) es.length (es.flatMap enC), bigR entR es]) := by
 refine Fn.intro (vs := [vptr g, vint z]) Tryz.func16 rfl rfl ?_
 intro F W
 refine G.lgOpen (by (repeat' constructor)) fun ea ec za zc => ?_
 have h1 := hΛ.ents
 have h2 := hΛ.same
 refine G.seq (G.region (G.ag rfl rfl (G.ag rfl rfl (G.nil (G.then_n (G.seq (G.seq (G.region (G.mv rfl rfl (G.mv rfl rfl (G.q (Quiet.nilp rfl) rfl (G.q (Quiet.fieldAddr rfl fo_79_2) rfl ?_))))))))))))
 refine G.q (Quiet.ld rfl ag_3) rfl ?_
 refine G.q (Quiet.int rfl rfl rfl) rfl (G.nil (G.then_n ?_))
 refine G.condD rfl (fun h16 => ?_) (fun h16 => ?_)
 ·refine G.seq (G.region (G.ag rfl rfl (G.ag rfl rfl (G.nil (G.then_n (G.ret (G.then_r ?_)))))))
  refine G.lgFold (g := g) (x := x) (ea := ea) (ec := ec) (za := za) (zc := zc) (m := Λ.ents.length) (k := Λ.zxs.length) Λ (by (repeat' constructor)) (by exact rfl) (by first | rfl | simp [Lg.keep]) (by first | rfl | simp [Lg.keep]) (by first | rfl | simp [Lg.keep]) (by first | rfl | simp [Lg.keep]) ?_
  exact G.dn (l := [.tmp 4, .tmp 5]) rfl rfl (.inl ⟨h16, rfl, rfl⟩)
 ·refine G.skip (G.then_n (G.seq (G.add (slR_nil 38 11) ?_)))
  refine G.add (p := bigR entR []) (fun h => big_nil h) ?_
  refine G.region (G.ag rfl rfl (G.nil (G.then_n (G.seq (G.seq (G.region (G.mv rfl rfl (G.q (Quiet.nilp rfl) rfl (G.q (Quiet.fieldAddr rfl fo_79_4) rfl ?_)))))))))
  refine G.q (Quiet.ld rfl ag_46) rfl ?_
  refine G.q (Quiet.slen rfl Tryz.underlying46 rfl) rfl (G.mv rfl rfl (G.nil (G.then_n (G.block ?_))))
  refine G.loopK (ι := Nat × Value × (List En)) (fun q E => (22, vint q.1) :: (6, q.2.1) :: E) (fun q => [slR 38 11 q.2.1 q.2.2.length (q.2.2.flatMap enC), bigR entR q.2.2]) (fun q => q.1 ≤ Λ.ents.length ∧ (∃ a c, q.2.1 = .slice a q.2.2.length c) ∧ q.2.2.map En.pl = behindT Λ z q.1 ∧ (∀ e ∈ q.2.2, EnK e) ∧ q.2.2.length ≤ q.1) (fun q => Λ.ents.length - q.1) (0, .slice none 0 0, []) (ts := [0, 1, 4, 5, 20, 21]) (.cons rfl (.cons rfl (.cons rfl (.cons rfl (.cons rfl (.cons rfl (.nil))))))) (⟨Nat.zero_le _, ⟨none, 0, rfl⟩, rfl, (fun e he => by cases he), Nat.le_refl _⟩) ⟨rfl, rfl, rfl, rfl, rfl, rfl, rfl, rfl, trivial⟩ (by (repeat' constructor)) ?_
  rintro ⟨j, u, es⟩ ⟨hj, ⟨au, cu, hu⟩, hes, hek, hel⟩
  dsimp only
  dsimp only at hj hu hes hek hel
  subst hu
  refine G.seq (G.region (G.q (Quiet.int rfl rfl rfl) rfl (G.nil (G.then_n (G.seq ?_)))))
  refine G.condD rfl (fun h23 => ?_) (fun h23 => ?_)
  ·have hj2 : j < Λ.ents.length := by omega
   have hjz : j < Λ.zxs.length := by omega
   refine G.slShape (v := .slice ea _ ec) (xs := strs Λ.ents) (by (repeat' constructor)) (by omega) fun be ce' e0 mbe _ => ?_
   simp only [Value.slice.injEq, true_and] at e0
   obtain ⟨rfl, rfl⟩ := e0
   refine G.slShape (v := .slice za _ zc) (xs := ints Λ.zxs) (by (repeat' constructor)) (by omega) fun bz cz e0 mbz _ => ?_
   simp only [Value.slice.injEq, true_and] at e0
   obtain ⟨rfl, rfl⟩ := e0
   have hsl : (Λ.ents.getD j []).length ≤ 1073741824 := by rw [List.getD_eq_getElem?_getD, List.getElem?_eq_getElem hj2]; exact hΛ.each _ (List.getElem_mem hj2)
   refine G.skip (G.then_n (G.seq (G.block (G.seq (G.region (G.mv rfl rfl ?_))))))
   refine G.q (Quiet.indexAddr rfl rfl el_46 (by omega)) rfl ?_
   refine G.q (Quiet.loadEl (p := strR (.slice (some ⟨be, 0, none⟩) Λ.ents.length ec) Λ.ents) (i := j * 1) (v := vstr (Λ.ents.getD j [])) rfl ag_9 (by (repeat' constructor)) (fun h hp => slR_rd hp) (by simp [strs, List.getD_eq_getElem?_getD, hj2])) rfl ?_
   refine G.ag rfl rfl (G.ag rfl rfl (G.nil (G.then_n (G.seq (G.region (G.mv rfl rfl (G.q (Quiet.nilp rfl) rfl (G.q (Quiet.fieldAddr rfl fo_79_5) rfl ?_))))))))
   refine G.q (Quiet.ld rfl ag_31) rfl ?_
   refine G.mv rfl rfl ?_
   refine G.q (Quiet.indexAddr rfl rfl el_31 (by omega)) rfl ?_
   refine G.q (Quiet.loadEl (p := intR (.slice (some ⟨bz, 0, none⟩) Λ.zxs.length zc) Λ.zxs) (i := j * 1) (v := vint (Λ.zxs.getD j 0)) rfl ag_3 (by (repeat' constructor)) (fun h hp => slR_rd hp) (by simp [ints, List.getD_eq_getElem?_getD, hjz])) rfl ?_
   refine G.mv rfl rfl (G.q (Quiet.int rfl rfl rfl) rfl (G.nil (G.then_n ?_)))
   refine G.condD rfl (fun h35 => ?_) (fun h35 => ?_)
   ·refine G.seq (G.region (G.mv rfl rfl ?_))
    refine G.oq (OpSpec.call Tryz.func53 rfl rfl (vs := [_]) rfl (wget_spec (Λ.ents.getD j []) (by omega))) ?nx30
    rintro v L' ⟨ge, er, hge, rfl, rfl⟩
    refine G.mv rfl rfl (G.q (Quiet.extract rfl rfl) rfl (G.q (Quiet.extract rfl rfl) rfl ?_))
    refine G.oq (OpSpec.allocA ze_38) ?nx34
    rintro v L' ⟨b9, rfl, rfl⟩
    refine G.oq (OpSpec.storeA rfl rfl ?c36 sz_38 ?c39 ?c37 ?c38) ?nx40
    case c36 => exact hge.cells
    case c39 => rfl
    case c37 => simp [enC, ptC]
    case c38 => exact nfz0 _ _
    rintro v L' rfl
    refine G.ag rfl rfl (G.nil ?_)
    refine G.ptCast (b := b9) (l' := enC ge) (by (repeat' constructor)) (by exact rfl) ?_
    refine G.then_n (G.region (G.mv rfl rfl ?_))
    refine G.q (Quiet.loadAs (vs := enC ge) rfl ag_38 (by (repeat' constructor)) (by simp [enC, ptC]) rfl) rfl ?_
    refine G.oq (OpSpec.buildSlice (vs := [_]) el_22 ze_38 rfl rfl rfl rfl (by first | (simp [Value.cells]; done) | (intro v hv; simp only [List.mem_cons, List.not_mem_nil, or_false] at hv; (repeat (first | (subst hv; rfl) | (rcases hv with hv | hv; (subst hv; rfl)))))) (by decide)) ?nx43
    rintro v L' ⟨b10, rfl, rfl⟩
    refine G.oq (OpSpec.append1 rfl rfl rfl el_22 ze_38 rfl rfl ?c45 ?c46 (Nat.le_refl _) ?c47 (by decide)) ?nx48
    case c45 => simp only [List.map_cons, List.map_nil, List.flatten_cons, List.flatten_nil, List.append_nil]; simp only [Value.cells]; intro z hz; exact hge.cells z (by simpa using hz)
    case c46 => rfl
    case c47 => omega
    rintro v L' ⟨⟨a6, c6, rfl⟩, rfl⟩
    refine G.ag rfl rfl (G.nil (G.blk_n (G.then_n (G.region ?_))))
    refine G.q (Quiet.add rfl rfl (by omega)) rfl ?_
    refine G.mv rfl rfl (G.nil (G.then_n ?_))
    refine G.bigAdd (f := entR) (l := es) (p := entR ge) ge rfl (by (repeat' constructor)) ?_
    refine G.slCast (T := 38) (sz := 11) (m' := (es ++ [ge]).length) (xs' := (es ++ [ge]).flatMap enC) (by (repeat' constructor)) (by simp) (by rw [List.flatMap_append]; simp [Value.cells]) ?_
    exact G.roundK ((j + 1, .slice a6 (es.length + 1) c6, es ++ [ge])) (⟨by dsimp only; omega, ⟨a6, c6, by simp⟩, by dsimp only; rw [behind_step (by omega) (by omega), if_pos h35, List.map_append, hes, ← (hge.at (Λ.zxs.getD j 0)).1]; rfl, (fun e he => by rcases List.mem_append.1 he with he | he; exact hek e he; rw [List.mem_singleton] at he; subst he; exact (hge.at 0).2), by dsimp only; rw [List.length_append, List.length_singleton]; omega⟩) (by dsimp only; omega) ⟨rfl, rfl, rfl, rfl, rfl, rfl, rfl, rfl, trivial⟩ (by (repeat' constructor)) (by ((repeat (apply Have.cons; (repeat (first | exact Pick.here | apply Pick.there)))); apply Have.base; repeat' constructor))
   ·refine G.skip (G.blk_n (G.then_n (G.region ?_)))
    refine G.q (Quiet.add rfl rfl (by omega)) rfl ?_
    refine G.mv rfl rfl (G.nil (G.then_n ?_))
    exact G.roundK ((j + 1, .slice au es.length cu, es)) (⟨by dsimp only; omega, ⟨au, cu, rfl⟩, by dsimp only; rw [behind_step (by omega) (by omega), if_neg h35]; exact hes, hek, by dsimp only; omega⟩) (by dsimp only; omega) ⟨rfl, rfl, rfl, rfl, rfl, rfl, rfl, rfl, trivial⟩ (by (repeat' constructor)) (by ((repeat (apply Have.cons; (repeat (first | exact Pick.here | apply Pick.there)))); apply Have.base; repeat' constructor))
  ·have hje : j = Λ.ents.length := by omega
   have hes2 : es.map En.pl = behindL Λ z := by rw [hes, hje]; unfold behindT behindL; rw [List.take_of_length_le (by rw [List.length_zip]; omega)]
   refine G.exit (G.then_e (G.then_e (G.blk_e (G.then_n (G.seq (G.region (G.mv rfl rfl (G.ag rfl rfl (G.ag rfl rfl (G.nil (G.then_n (G.ret ?_))))))))))))
   refine G.lgFold (g := g) (x := x) (ea := ea) (ec := ec) (za := za) (zc := zc) (m := Λ.ents.length) (k := Λ.zxs.length) Λ (by (repeat' constructor)) (by exact rfl) (by first | rfl | simp [Lg.keep]) (by first | rfl | simp [Lg.keep]) (by first | rfl | simp [Lg.keep]) (by first | rfl | simp [Lg.keep]) ?_
   exact G.dn (l := [.tmp 4, .tmp 5]) rfl rfl (.inr ⟨h16, es, hes2, hek, _, _, rfl, rfl⟩)

end Go.Proofs.YtidjhgbdokcphaaGreat

/- Own work: a ledger on a disk that lives: all its calls. -/

namespace Go.Proofs.YtidjhgbdokcphaaGreat
open Go

theorem well_setm {δ : Dk} {ω : Wl} {N : Int} (h : Well δ ω N) (a b : Int) : Well (setmZ δ ω a b).1 (setmZ δ ω a b).2.1 (N + 2000000) ∧ (setmZ δ ω a b).1.now.length = δ.now.length ∧
    ((∃ c, (setmZ δ ω a b).2 = ({ ω with a := a, b := b, count := c }, 0)) ∨ (∃ e, (e = 1 ∨ e = 30) ∧ setmZ δ ω a b = (δ, ω, e))) := by
  have hk := kept_setm h a b
  refine ⟨hk.well, hk.len, ?_⟩
  unfold setmZ
  rw [if_neg (by rw [h.doubt]; decide)]
  split
  · exact .inr ⟨1, .inl rfl, rfl⟩
  · split
    · exact .inr ⟨30, .inr rfl, rfl⟩
    · obtain ⟨n1, -, -⟩ := al_next h.al h.size.1 (ω.mark ω.area (ω.recs.take ω.synced.toNat) a b)
      rw [if_neg (by rw [n1]; exact fun g => g rfl)]
      exact .inl ⟨_, rfl⟩
theorem well_sync {δ : Dk} {ω : Wl} {N : Int} (h : Well δ ω N) : Well (syncZ δ ω).1 (syncZ δ ω).2.1 (N + 2000000) ∧ (syncZ δ ω).1.now.length = δ.now.length ∧
    ((∃ c, (syncZ δ ω).2 = ({ ω with synced := ω.recs.length, count := c }, 0)) ∨ syncZ δ ω = (δ, ω, 30)) := by
  have hk := kept_sync h
  refine ⟨hk.well, hk.len, ?_⟩
  unfold syncZ
  rw [if_neg (by rw [h.doubt]; decide)]
  split
  · rename_i hs
    refine .inl ⟨ω.count, ?_⟩
    rw [← hs]
  · split
    · exact .inr rfl
    · rename_i hc
      obtain ⟨e, -, -⟩ := well_seal h hc h.area h.fits h.al rfl (by have := h.acts; omega)
      rw [e]; exact .inl ⟨_, rfl⟩
theorem well_renew {δ : Dk} {ω : Wl} {N : Int} (h : Well δ ω N) (l : List Bs) : Well (renewZ δ ω l).1 (renewZ δ ω l).2.1 (N + 2000000) ∧ (renewZ δ ω l).1.now.length = δ.now.length ∧
    ((∃ ar c, (renewZ δ ω l).2 = ({ ω with recs := l, synced := l.length, area := ar, count := c }, 0) ∧ ∀ s ∈ l, s.length ≤ 4000) ∨ (∃ e, (e = 33 ∨ e = 30) ∧ renewZ δ ω l = (δ, ω, e))) := by
  have hk := kept_renew h l
  refine ⟨hk.well, hk.len, ?_⟩
  unfold renewZ
  rw [if_neg (by rw [h.doubt]; decide)]
  split
  · exact .inr ⟨33, .inl rfl, rfl⟩
  · rename_i hlong
    split
    · exact .inr ⟨30, .inr rfl, rfl⟩
    · split
      · exact .inr ⟨30, .inr rfl, rfl⟩
      · rename_i h2 h3
        have hl : ((laidZ l).length : Int) ≤ 64 * halfZ δ := by omega
        have ha : 0 ≤ 1 - ω.area ∧ 1 - ω.area ≤ 1 := by have := h.area; omega
        have hh := half_le h.size
        obtain ⟨a1, a2⟩ := al_lay ((laidZ l).length + 1) δ (1 - ω.area) (laidZ l) (0 / 64) h.al ha h.size.1 hl
        have ak := layZ_keeps δ (1 - ω.area) (laidZ l) 0
        rw [if_neg (by show ¬ (layF _ _ _ _ _).2 ≠ 0; rw [a1]; exact fun g => g rfl)]
        obtain ⟨e, -, -⟩ := well_seal h (by omega) ha hl a2 ak.1 (by have := h.acts; have := ak.2; show (layZ δ (1 - ω.area) (laidZ l) 0).1.acts ≤ _; omega)
        have e2 : (dbt (sealZ (layZ δ (1 - ω.area) (laidZ l) 0).1 ω (1 - ω.area) l)).2 = ({ ω with recs := l, synced := l.length, area := 1 - ω.area, count := ω.count + 1 }, 0) := e
        rw [e2]
        refine .inl ⟨1 - ω.area, ω.count + 1, rfl, fun s hs => ?_⟩
        rcases Nat.lt_or_ge 4000 s.length with g | g
        · exact absurd (List.any_eq_true.2 ⟨s, hs, decide_eq_true g⟩) hlong
        · exact g
structure LKept (s : Ld) (N : Int) (r : Ld × Int) : Prop where
  well : LWell r.1 (N + 4000000)
  len : r.1.δ.now.length = s.δ.now.length
  bad : r.2 ≠ 0 → r.1.Λ = s.Λ
  live : r.2 ≠ 2
theorem LKept.same {s : Ld} {N : Int} (h : LWell s N) {e : Int} (he : e ≠ 2) : LKept s N (s, e) := ⟨h.more (by omega), rfl, fun _ => rfl, he⟩
theorem metE_ne {e : Int} (h : e = 33 ∨ e = 30 ∨ e = 1) : metE e ≠ 0 ∧ metE e ≠ 2 := by rcases h with rfl | rfl | rfl <;> exact ⟨by decide, by decide⟩
theorem met_same {Λ : Lg} {e : Int} (h : e ≠ 2) : Λ.met e = Λ := by unfold Lg.met; rw [if_neg h]
theorem lk_sync {s : Ld} {N : Int} (h : LWell s N) : LWell (lgSync s).1 (N + 2000000) ∧ (lgSync s).1.δ.now.length = s.δ.now.length ∧ (lgSync s).1.Λ = s.Λ ∧ (lgSync s).2 ≠ 2 ∧ ((lgSync s).2 = 0 → (lgSync s).1.ω.synced = s.ω.recs.length ∧ (lgSync s).1.ω.recs = s.ω.recs) := by
  unfold lgSync
  rw [if_neg (by rw [h.live]; decide)]
  obtain ⟨w1, w2, w3⟩ := well_sync h.well
  obtain ⟨⟨δ1, ω1, e1⟩, hq⟩ : ∃ r, syncZ s.δ s.ω = r := ⟨_, rfl⟩
  rw [hq] at w1 w2 w3 ⊢
  dsimp only at w1 w2 w3
  rcases w3 with ⟨c, g⟩ | g
  · cases g
    exact ⟨⟨w1, h.w, h.live, h.recs, h.a, h.b⟩, w2, rfl, by show metE 0 ≠ 2; decide, fun _ => ⟨rfl, rfl⟩⟩
  · cases g
    exact ⟨⟨w1, h.w, h.live, h.recs, h.a, h.b⟩, w2, rfl, by show metE 30 ≠ 2; decide, fun g => absurd (show metE 30 = 0 from g) (by decide)⟩
theorem lk_accept {s : Ld} {N : Int} (h : LWell s N) (n : Int) : LKept s N (lgAccept s n) ∧ s.Λ.acc ≤ (lgAccept s n).1.Λ.acc ∧ (lgAccept s n).1.Λ.cur = s.Λ.cur := by
  unfold lgAccept
  rw [if_neg (by rw [h.live]; decide)]
  split
  · exact ⟨.same h (by decide), Int.le_refl _, rfl⟩
  split
  · exact ⟨.same h (by decide), Int.le_refl _, rfl⟩
  rename_i h1 h2
  obtain ⟨w1, w2, w3⟩ := well_setm h.well n s.Λ.cur
  obtain ⟨⟨δ1, ω1, e1⟩, hq⟩ : ∃ r, setmZ s.δ s.ω n s.Λ.cur = r := ⟨_, rfl⟩
  rw [hq] at w1 w2 w3 ⊢
  dsimp only at w1 w2 w3
  have he := h.w.eps
  rcases w3 with ⟨c, g⟩ | ⟨e, hee, g⟩
  · cases g
    rw [if_pos (by show metE 0 = 0; decide)]
    exact ⟨⟨⟨w1.more (by omega), ⟨h.w.few, h.w.each, h.w.base, h.w.snap, h.w.rows, ⟨he.1, by show s.Λ.cur ≤ n; omega, by show n ≤ _; omega⟩⟩, h.live, h.recs, rfl, rfl⟩, w2, fun g => absurd rfl g, by show (0 : Int) ≠ 2; decide⟩, by show s.Λ.acc ≤ n; omega, rfl⟩
  · cases g
    obtain ⟨m1, m2⟩ := metE_ne (e := e1) (by omega)
    rw [if_neg (show ¬ (metL s.Λ (s.δ, s.ω, e1)).2 = 0 from m1)]
    have hm : s.Λ.met e1 = s.Λ := met_same (by omega)
    exact ⟨⟨⟨w1.more (by omega), by show LgW (s.Λ.met e1); rw [hm]; exact h.w, by show (s.Λ.met e1).doubt = false; rw [hm]; exact h.live, by show s.ω.recs = headL (s.Λ.met e1).base (s.Λ.met e1).snap ++ (s.Λ.met e1).ents; rw [hm]; exact h.recs, by show s.ω.a = (s.Λ.met e1).acc; rw [hm]; exact h.a, by show s.ω.b = (s.Λ.met e1).cur; rw [hm]; exact h.b⟩, w2, fun _ => hm, m2⟩, by show s.Λ.acc ≤ (s.Λ.met e1).acc; rw [hm]; exact Int.le_refl _, by show (s.Λ.met e1).cur = s.Λ.cur; rw [hm]⟩
theorem lk_adopt2 {s : Ld} {N : Int} (h : LWell s N) (n : Int) (hn : s.Λ.cur ≤ n ∧ n ≤ s.Λ.acc) : LWell (lgAdopt2 s n).1 (N + 2000000) ∧ (lgAdopt2 s n).1.δ.now.length = s.δ.now.length ∧ (lgAdopt2 s n).2 ≠ 2 ∧ (((lgAdopt2 s n).2 = 0 ∧ (lgAdopt2 s n).1.Λ = s.Λ.setCur n) ∨ ((lgAdopt2 s n).2 ≠ 0 ∧ (lgAdopt2 s n).1.Λ = s.Λ)) := by
  unfold lgAdopt2
  obtain ⟨w1, w2, w3⟩ := well_setm h.well s.Λ.acc n
  obtain ⟨⟨δ1, ω1, e1⟩, hq⟩ : ∃ r, setmZ s.δ s.ω s.Λ.acc n = r := ⟨_, rfl⟩
  rw [hq] at w1 w2 w3 ⊢
  dsimp only at w1 w2 w3
  have he := h.w.eps
  rcases w3 with ⟨c, g⟩ | ⟨e, hee, g⟩
  · cases g
    rw [if_pos (by show metE 0 = 0; decide)]
    exact ⟨⟨w1.more (by omega), ⟨h.w.few, h.w.each, h.w.base, h.w.snap, h.w.rows, ⟨by show 0 ≤ n; omega, hn.2, he.2.2⟩⟩, h.live, h.recs, rfl, rfl⟩, w2, by show (0 : Int) ≠ 2; decide, .inl ⟨rfl, rfl⟩⟩
  · cases g
    obtain ⟨m1, m2⟩ := metE_ne (e := e1) (by omega)
    rw [if_neg (show ¬ (metL s.Λ (s.δ, s.ω, e1)).2 = 0 from m1)]
    have hm : s.Λ.met e1 = s.Λ := met_same (by omega)
    exact ⟨⟨w1.more (by omega), by show LgW (s.Λ.met e1); rw [hm]; exact h.w, by show (s.Λ.met e1).doubt = false; rw [hm]; exact h.live, by show s.ω.recs = headL (s.Λ.met e1).base (s.Λ.met e1).snap ++ (s.Λ.met e1).ents; rw [hm]; exact h.recs, by show s.ω.a = (s.Λ.met e1).acc; rw [hm]; exact h.a, by show s.ω.b = (s.Λ.met e1).cur; rw [hm]; exact h.b⟩, w2, m2, .inr ⟨m1, hm⟩⟩
theorem lk_adopt {s : Ld} {N : Int} (h : LWell s N) (n : Int) : LKept s N (lgAdopt s n) ∧ (lgAdopt s n).1.Λ.acc = s.Λ.acc ∧ s.Λ.cur ≤ (lgAdopt s n).1.Λ.cur ∧ ((lgAdopt s n).2 = 0 → (lgAdopt s n).1.Λ = s.Λ.setCur n) := by
  unfold lgAdopt
  rw [if_neg (by rw [h.live]; decide)]
  split
  · exact ⟨.same h (by decide), rfl, Int.le_refl _, fun g => absurd (show (82 : Int) = 0 from g) (by decide)⟩
  rename_i h1
  obtain ⟨k1, k2, k3, k4, -⟩ := lk_sync h
  split
  · rename_i h2
    exact ⟨⟨k1.more (by omega), k2, fun _ => k3, k4⟩, by rw [k3], by rw [k3]; exact Int.le_refl _, fun g => absurd g h2⟩
  · rename_i h2
    obtain ⟨j1, j2, j3, j4⟩ := lk_adopt2 k1 n (by rw [k3]; omega)
    rw [k3] at j4
    refine ⟨⟨j1.more (by omega), j2.trans k2, fun g => ?_, j3⟩, ?_, ?_, fun g => ?_⟩
    · rcases j4 with ⟨g1, -⟩ | ⟨-, g2⟩
      · exact absurd g1 g
      · exact g2
    · rcases j4 with ⟨-, g2⟩ | ⟨-, g2⟩ <;> rw [g2] <;> rfl
    · rcases j4 with ⟨-, g2⟩ | ⟨-, g2⟩ <;> rw [g2]
      · show s.Λ.cur ≤ n; omega
      · exact Int.le_refl _
    · rcases j4 with ⟨-, g2⟩ | ⟨g1, -⟩
      · exact g2
      · exact absurd g g1
theorem lk_append {s : Ld} {N : Int} (h : LWell s N) {e : En} (he : EnI e) : LKept s N (lgAppend s e) := by
  obtain ⟨w1, w2, w3⟩ := lw_append h he
  refine ⟨w1.more (by omega), w2, fun g => ?_, ?_⟩
  · rcases w3 with ⟨g1, -⟩ | ⟨-, g2⟩
    · exact absurd g1 g
    · rw [g2]
  · intro g
    rcases w3 with ⟨g1, -⟩ | ⟨-, g2⟩
    · rw [g1] at g; cases g
    · revert g
      unfold lgAppend
      rw [if_neg (by rw [h.live]; decide)]
      split
      · show (1 : Int) = 2 → False; decide
      split
      · show (81 : Int) = 2 → False; decide
      split
      · show (83 : Int) = 2 → False; decide
      rcases (well_append h.well (enB e)).2.2 with ⟨-, -, q⟩ | ⟨-, q⟩ | ⟨-, -, q⟩
      · obtain ⟨⟨δ1, q1⟩, hq⟩ : ∃ r, appendZ s.δ s.ω (enB e) = r := ⟨_, rfl⟩
        rw [hq] at q ⊢; dsimp only at q; subst q
        rw [if_pos (by show metE 0 = 0; decide)]
        show (0 : Int) = 2 → False; decide
      · rw [q, if_neg (by show ¬ metE 33 = 0; decide)]; show metE 33 = 2 → False; decide
      · rw [q, if_neg (by show ¬ metE 30 = 0; decide)]; show metE 30 = 2 → False; decide
end Go.Proofs.YtidjhgbdokcphaaGreat

/- Own work: the first example of law 09, reckoned. -/
namespace Go.Proofs.YtidjhgbdokcphaaGreat
open Go

def anyP : HP := fun _ => True
def awe (z : Int) : En := ⟨z, 0, 0, pt0, []⟩
def la0 : Ld := ⟨(lgFormat (Dk.new 64)).1, (lgF2 (Dk.new 64)).2.1, lg0⟩
def la1 : Ld × Int := lgAccept la0 3
def la2 : Ld × Int := lgAppend la1.1 (awe 4294967297)
def la3 : Ld × Int := lgAppend la2.1 (awe 4294967298)
def la4 : Ld × Int := lgAdopt la3.1 1
def la5 : Ld × Int := lgAppend la4.1 (awe 12884901889)
theorem la_olds : la5.1.δ.old.map (·.1) = [2, 3] := by kernel_rfl
theorem sort23 : sortI [2, 3] = [2, 3] := by
  unfold sortI
  exact List.mergeSort_of_pairwise (by simp)
def la6 : Dk := { ((la5.1.δ.crash1 (fateOf [] 0) 2).crash1 (fateOf [] 1) 3) with old := [], dead := false, left := 0 }
theorem la_crash : la5.1.δ.crash [] = la6 := by
  have h : la5.1.δ.pend = [2, 3] := by unfold Dk.pend; rw [la_olds, sort23]
  unfold Dk.crash
  rw [show la5.1.δ.pend.length = 2 by rw [h]; rfl]
  show { Dk.crash1 (Dk.crash1 la5.1.δ (fateOf [] 0) (la5.1.δ.pend.getD 0 0)) (fateOf [] 1) (la5.1.δ.pend.getD 1 0) with old := [], dead := false, left := 0 } = la6
  rw [h]; rfl
theorem la_ok : (la1.2, la2.2, la3.2, la4.2, la5.2) = (0, 0, 0, 0, 0) := by kernel_rfl
theorem la_dead : la6.dead = false := by kernel_rfl
theorem la_len : la6.now.length = 64 := by kernel_rfl
theorem la_acts : la6.acts = 18 := by kernel_rfl
theorem la_open : (openZ la6).map (fun ω => ((ω.doubt, ω.recs.length, ω.recs.all fun s => decide (s.length ≤ 4000)), (ω.area, ω.count, decide (ω.synced = ω.recs.length), (laidZ ω.recs).length), (openLZ ω).map fun Λ => (lastZ Λ, Λ.acc, Λ.cur, marksZ Λ, Λ.doubt, Λ.ents.length, Λ.zxs, Λ.base, Λ.ents.all fun s => decide (s.length ≤ 4000)))) = some ((false, 3, true), (0, 5, true, 50), some (4294967298, 3, 1, [4294967298], false, 2, [4294967297, 4294967298], 0, true)) := by kernel_rfl
structure LaOpen (ω : Wl) (Λ : Lg) : Prop where
  w : openZ la6 = some ω
  l : openLZ ω = some Λ
  doubt : ω.doubt = false
  few : ω.recs.length = 3
  each : ∀ s ∈ ω.recs, s.length ≤ 4000
  i : WlI la6 ω
  synced : ω.synced = ω.recs.length
  last : lastZ Λ = 4294967298
  acc : Λ.acc = 3
  cur : Λ.cur = 1
  marks : marksZ Λ = [4294967298]
  live : Λ.doubt = false
  li : LgI Λ
theorem la_opened : ∃ ω Λ, LaOpen ω Λ := by
  have h := la_open
  rcases hw : openZ la6 with _ | ω
  · rw [hw] at h; cases h
  rw [hw] at h
  rcases hl : openLZ ω with _ | Λ
  · rw [Option.map_some, hl] at h; simp at h
  rw [Option.map_some, hl, Option.map_some] at h
  simp only [Option.some.injEq, Prod.mk.injEq, List.all_eq_true, decide_eq_true_eq] at h
  obtain ⟨⟨h1, h2, h3⟩, ⟨h4, h5, h6, h7⟩, h8, h9, h10, h11, h12, h13, h14, h15, h16⟩ := h
  have hl6 := la_len
  have ha6 := la_acts
  have hh : halfZ la6 = 31 := by unfold halfZ; omega
  refine ⟨ω, Λ, hw, hl, h1, h2, h3, ⟨by omega, by omega, by omega, by omega, by omega, by rw [hh, h7]; decide⟩, h6, h8, h9, h10, h11, h12, ⟨by omega, by rw [h14, h13]; rfl, fun s hs => by have := h16 s hs; omega, by rw [h15]; decide, by rw [h14]; decide⟩⟩
theorem sync_done {s : Ld} (h : s.Λ.doubt = false) (h2 : s.ω.doubt = false) (h3 : s.ω.synced = s.ω.recs.length) : lgSync s = (s, 0) := by
  unfold lgSync
  rw [if_neg (by rw [h]; decide)]
  have e : syncZ s.δ s.ω = (s.δ, s.ω, 0) := by unfold syncZ; rw [if_neg (by rw [h2]; decide), if_pos h3]
  rw [e]; rfl
theorem lgFormat_some {δ : Dk} {ω : Wl} (h : (lgFormat δ).2 = some ω) : ω = (lgF2 δ).2.1 := by
  unfold lgFormat at h
  split at h
  · cases h
  split at h
  · cases h
  split at h
  · cases h
  · cases h; rfl
theorem numB_len {z : Int} (hz : I64 z) : (numB z).length ≤ 10 := sev_len10 (zig_lt hz)
theorem awe_X {z : Int} (hz : I64 z) : EnX anyP (awe z) := by
  have hr : ∀ sz h, rdS sz h nilV 0 [] := fun sz h => .inl ⟨rfl, rfl, _, _, rfl⟩
  have i0 : I64 0 := by decide
  have hi : EnI (awe z) := ⟨hz, i0, i0, ⟨i0, i0, i0, i0, (by decide : (0 : Nat) < U64), (by decide : (0 : Nat) < U64), (by decide : (0 : Nat) < U64), fun a ha => by cases ha⟩, (by decide : (0 : Nat) < U64), fun y hy => by cases hy⟩
  refine ⟨⟨⟨hi, fun h _ => hr 2 h, fun h _ => hr 8 h, fun y hy => by cases hy⟩, ?_, ⟨Nat.zero_le _, Nat.zero_le _, fun y hy => by cases hy⟩, ⟨rfl, rfl⟩, fun y hy => by cases hy⟩, fun y hy => by cases hy⟩
  have h1 : (numB 0).length = 1 := by kernel_rfl
  have h2 : (ptB pt0).length = 7 := by kernel_rfl
  have h3 : (subsB []).length = 1 := by kernel_rfl
  have h4 := numB_len hz
  rw [enB_len]
  show ([z, 0, 0].flatMap numB).length + (ptB pt0).length + (subsB []).length ≤ _
  simp only [List.flatMap_cons, List.flatMap_nil, List.length_append, List.length_nil]
  omega
theorem la_chain : LWell la0 4000003 ∧ LWell la1.1 8000003 ∧ LWell la2.1 12000003 ∧ LWell la3.1 16000003 ∧ LWell la4.1 20000003 ∧ LWell la5.1 24000003 ∧ WlI (lgSync la3.1).1.δ (lgSync la3.1).1.ω ∧ Well (formatZ (Dk.new 64)).1 newW 3 ∧ Well (lgF1 (Dk.new 64)).1 (lgF1 (Dk.new 64)).2.1 2000003 := by
  obtain ⟨ω, f1, f2, f3, f4, f5⟩ := format_lwell (n := 64) (by decide)
  rw [lgFormat_some f1] at f2
  have h1 := (lk_accept (s := la0) f2 3).1.well
  have h2 := (lk_append (s := la1.1) h1 (e := awe 4294967297) (awe_X (by decide)).l.w.i).well
  have h3 := (lk_append (s := la2.1) h2 (e := awe 4294967298) (awe_X (by decide)).l.w.i).well
  have h4 := (lk_adopt (s := la3.1) h3 1).1.well
  have h5 := (lk_append (s := la4.1) h4 (e := awe 12884901889) (awe_X (by decide)).l.w.i).well
  exact ⟨f2, h1, h2, h3, h4, h5, (lk_sync h3).1.well.i (by decide), f4, f5⟩
end Go.Proofs.YtidjhgbdokcphaaGreat

/- Own work, by program: the first example of law 09: walked. -/
namespace Go.Proofs.YtidjhgbdokcphaaGreat
open Go
theorem la_fmt : (lgFormat (Dk.new 64)).2 = some (lgF2 (Dk.new 64)).2.1 := by
  obtain ⟨ω, h, -⟩ := format_lwell (n := 64) (by decide)
  rw [h, lgFormat_some h]
theorem awake9_spec : Fn Tryz.prog 10 #[] [] fun v L => v = .bool true ∧ L = [] := by
 refine Fn.intro (vs := []) Tryz.func10 rfl rfl ?_
 intro F W
 obtain ⟨h0, h1, h2, h3, h4, h5, hsy, hf3, hf4⟩ := la_chain
 obtain ⟨ω, Λ, hO⟩ := la_opened
 have hok := la_ok
 simp only [Prod.mk.injEq] at hok
 obtain ⟨e1, e2, e3, e4, e5⟩ := hok
 refine G.add (p := anyP) (fun _ => trivial) ?_
 refine G.add (slR_nil 3 1) ?_
 refine G.seq (G.region (G.ag rfl rfl (G.nil (G.then_n (G.seq (G.region ?_))))))
 refine G.oq (OpSpec.call Tryz.func11 rfl rfl (vs := [_]) rfl (new_spec 64)) ?nx2
 rintro v L' (⟨h, -, -⟩ | ⟨-, d, rfl, rfl⟩); · omega
 refine G.mv rfl rfl (G.q (Quiet.extract rfl rfl) rfl (G.q (Quiet.extract rfl rfl) rfl (G.ag rfl rfl (G.ag rfl rfl (G.nil (G.then_n (G.seq (G.region (G.mv rfl rfl ?_)))))))))
 refine G.oq (OpSpec.call Tryz.func12 rfl rfl (vs := [_]) rfl (lformat_spec d (Dk.new 64) (by decide) (hf3.i (by decide)) (hf4.i (by decide)))) ?nx6
 rintro v L' (⟨h, -, -⟩ | ⟨ω0, g, x, hw0, rfl, rfl⟩); · rw [la_fmt] at h; cases h
 obtain rfl := lgFormat_some hw0
 rw [show lg0 = la0.Λ from rfl, show (lgF2 (Dk.new 64)).2.1 = la0.ω from rfl, show (lgFormat (Dk.new 64)).1 = la0.δ from rfl]
 refine G.mv rfl rfl (G.q (Quiet.extract rfl rfl) rfl (G.q (Quiet.extract rfl rfl) rfl (G.ag rfl rfl (G.ag rfl rfl (G.nil (G.then_n (G.seq (G.seq (G.region (G.mv rfl rfl (G.q (Quiet.ptreq rfl rfl Tryz.underlying28) rfl (G.mv rfl rfl (G.grun (t := 25) rfl rfl rfl (G.mv rfl rfl (G.grun (t := 25) rfl rfl rfl ?_)))))))))))))))
 refine G.q (Quiet.as (v' := .bool false) (by rfl) (Quiet.int rfl rfl rfl)) rfl ?_
 refine G.q (Quiet.pickF rfl rfl) rfl (G.mv rfl rfl (G.grun (t := 29) rfl rfl rfl (G.mv rfl rfl (G.grun (t := 29) rfl rfl rfl ?_))))
 refine G.q (Quiet.as (v' := .bool false) (by rfl) (Quiet.int rfl rfl rfl)) rfl ?_
 refine G.q (Quiet.pickF rfl rfl) rfl (G.nil (G.then_n (G.condF rfl (G.skip (G.then_n (G.seq (G.region (G.mv rfl rfl ?_))))))))
 refine G.oq (OpSpec.call Tryz.func39 rfl rfl (vs := [_, _]) rfl (laccept_spec g x d la0.δ la0.ω la0.Λ 3 (h0.well.i (by decide)))) ?nx13
 rintro v L' ⟨rfl, rfl⟩; rw [show lgAccept ⟨la0.δ, la0.ω, la0.Λ⟩ 3 = la1 from rfl]
 refine G.ag rfl rfl (G.nil (G.then_n (G.seq (G.region (G.mv rfl rfl ?_)))))
 refine G.q (Quiet.to (v' := .agg (enC (awe 4294967297)).toArray) (Quiet.buildN (pl := [(0, 1), (1, 1), (2, 1), (3, 8)]) (us := [(0, _)]) (cells := enC (awe 4294967297)) Tryz.underlying38 (by kernel_rfl) ze_38 rfl rfl) rfl) rfl ?_
 refine G.oq (OpSpec.call Tryz.func13 rfl rfl (vs := [_, _]) rfl (lappend_spec g x d la1.1.δ la1.1.ω la1.1.Λ (awe 4294967297) anyP (awe_X (by decide)) (h1.well.i (by decide)) h1.w.i)) ?nx16
 rintro v L' ⟨rfl, rfl⟩; rw [show lgAppend ⟨la1.1.δ, la1.1.ω, la1.1.Λ⟩ (awe 4294967297) = la2 from rfl]
 refine G.ag rfl rfl (G.nil (G.then_n (G.seq (G.region (G.mv rfl rfl ?_)))))
 refine G.q (Quiet.to (v' := .agg (enC (awe 4294967298)).toArray) (Quiet.buildN (pl := [(0, 1), (1, 1), (2, 1), (3, 8)]) (us := [(0, _)]) (cells := enC (awe 4294967298)) Tryz.underlying38 (by kernel_rfl) ze_38 rfl rfl) rfl) rfl ?_
 refine G.oq (OpSpec.call Tryz.func13 rfl rfl (vs := [_, _]) rfl (lappend_spec g x d la2.1.δ la2.1.ω la2.1.Λ (awe 4294967298) anyP (awe_X (by decide)) (h2.well.i (by decide)) h2.w.i)) ?nx19
 rintro v L' ⟨rfl, rfl⟩; rw [show lgAppend ⟨la2.1.δ, la2.1.ω, la2.1.Λ⟩ (awe 4294967298) = la3 from rfl]
 refine G.ag rfl rfl (G.nil (G.then_n (G.seq (G.region (G.mv rfl rfl ?_)))))
 refine G.oq (OpSpec.call Tryz.func43 rfl rfl (vs := [_, _]) rfl (ladopt_spec g x d la3.1.δ la3.1.ω la3.1.Λ 1 (h3.well.i (by decide)) hsy)) ?nx21
 rintro v L' ⟨rfl, rfl⟩; rw [show lgAdopt ⟨la3.1.δ, la3.1.ω, la3.1.Λ⟩ 1 = la4 from rfl]
 refine G.ag rfl rfl (G.nil (G.then_n (G.seq (G.region (G.mv rfl rfl ?_)))))
 refine G.q (Quiet.to (v' := .agg (enC (awe 12884901889)).toArray) (Quiet.buildN (pl := [(0, 1), (1, 1), (2, 1), (3, 8)]) (us := [(0, _)]) (cells := enC (awe 12884901889)) Tryz.underlying38 (by kernel_rfl) ze_38 rfl rfl) rfl) rfl ?_
 refine G.oq (OpSpec.call Tryz.func13 rfl rfl (vs := [_, _]) rfl (lappend_spec g x d la4.1.δ la4.1.ω la4.1.Λ (awe 12884901889) anyP (awe_X (by decide)) (h4.well.i (by decide)) h4.w.i)) ?nx24
 rintro v L' ⟨rfl, rfl⟩; rw [show lgAppend ⟨la4.1.δ, la4.1.ω, la4.1.Λ⟩ (awe 12884901889) = la5 from rfl]
 refine G.ag rfl rfl (G.nil (G.then_n (G.seq (G.region (G.mv rfl rfl ?_)))))
 refine G.oq (OpSpec.call Tryz.func29 rfl rfl (vs := [_, _]) rfl (crash_spec d la5.1.δ (.slice none 0 0) [] (slR 3 1 (.slice none 0 0) 0 []) (fun h hp => slR_rd hp) (fun z hz => by cases hz))) ?nx26
 rintro v L' ⟨rfl, rfl⟩; rw [la_crash]
 refine G.nil (G.then_n (G.seq ?_))
 refine G.dkOk (by (repeat' constructor)) fun hok6 => ?_
 refine G.region (G.mv rfl rfl ?_)
 refine G.oq (OpSpec.call Tryz.func18 rfl rfl (vs := [_]) rfl (lopen_spec d la6 (by rw [la_len]; decide) hok6 (fun ω1 h1 => by rw [hO.w] at h1; cases h1; exact ⟨hO.doubt, by rw [hO.few]; decide, fun s hs => by have := hO.each s hs; omega⟩))) ?nx28
 rintro v L' (⟨h, -, -⟩ | ⟨-, h, -, -⟩ | ⟨-, ω1, h1, ⟨h, -, -⟩ | ⟨Λ1, m, y, hl1, rfl, rfl⟩⟩); · rw [la_dead] at h; cases h
 · rw [hO.w] at h; cases h
 · rw [hO.w] at h1; cases h1; rw [hO.l] at h; cases h
 rw [hO.w] at h1; cases h1; rw [hO.l] at hl1; cases hl1
 refine G.mv rfl rfl (G.q (Quiet.extract rfl rfl) rfl (G.q (Quiet.extract rfl rfl) rfl (G.ag rfl rfl (G.ag rfl rfl (G.nil (G.then_n (G.seq (G.seq (G.region (G.mv rfl rfl (G.q (Quiet.ptreq rfl rfl Tryz.underlying28) rfl (G.nil (G.then_n (G.condF rfl (G.skip (G.then_n (G.seq (G.region (G.mv rfl rfl ?_)))))))))))))))))))
 refine G.oq (OpSpec.call Tryz.func15 rfl rfl (vs := [_]) rfl (lmarks_spec m y Λ hO.li)) ?nx33
 rintro v L' ⟨am, cm, rfl, rfl⟩; rw [hO.marks]
 refine G.ag rfl rfl (G.nil (G.then_n (G.seq ?_)))
 refine G.slShape (v := .slice am _ cm) (xs := ints [4294967298]) (by (repeat' constructor)) (by decide) fun bm cm' em mbm _ => ?_
 simp only [Value.slice.injEq, true_and] at em
 obtain ⟨rfl, rfl⟩ := em
 refine G.region (G.mv rfl rfl ?_)
 refine G.q (Quiet.as (v' := .bool true) (by exact congrArg Value.bool (decide_eq_true e1)) (Quiet.int rfl rfl rfl)) rfl ?_
 refine G.mv rfl rfl (G.grun (t := 59) rfl rfl rfl (G.mv rfl rfl (G.grun (t := 59) rfl rfl rfl ?_)))
 refine G.q (Quiet.as (v' := .bool true) (by exact congrArg Value.bool (decide_eq_true e2)) (Quiet.int rfl rfl rfl)) rfl ?_
 refine G.q (Quiet.pickT rfl rfl) rfl (G.mv rfl rfl (G.grun (t := 63) rfl rfl rfl (G.mv rfl rfl (G.grun (t := 63) rfl rfl rfl ?_))))
 refine G.q (Quiet.as (v' := .bool true) (by exact congrArg Value.bool (decide_eq_true e3)) (Quiet.int rfl rfl rfl)) rfl ?_
 refine G.q (Quiet.pickT rfl rfl) rfl (G.mv rfl rfl (G.grun (t := 67) rfl rfl rfl (G.mv rfl rfl (G.grun (t := 67) rfl rfl rfl ?_))))
 refine G.q (Quiet.as (v' := .bool true) (by exact congrArg Value.bool (decide_eq_true e4)) (Quiet.int rfl rfl rfl)) rfl ?_
 refine G.q (Quiet.pickT rfl rfl) rfl (G.mv rfl rfl (G.grun (t := 71) rfl rfl rfl (G.mv rfl rfl (G.grun (t := 71) rfl rfl rfl ?_))))
 refine G.q (Quiet.as (v' := .bool true) (by exact congrArg Value.bool (decide_eq_true e5)) (Quiet.int rfl rfl rfl)) rfl ?_
 refine G.q (Quiet.pickT rfl rfl) rfl (G.mv rfl rfl (G.grun (t := 75) rfl rfl rfl (G.mv rfl rfl (G.grun (t := 75) rfl rfl rfl ?_))))
 refine G.q (Quiet.as (v' := .bool true) (by rfl) (Quiet.int rfl rfl rfl)) rfl ?_
 refine G.q (Quiet.pickT rfl rfl) rfl (G.ag rfl rfl (G.nil (G.then_n (G.seq (G.region (G.mv rfl rfl (G.mv rfl rfl (G.grun (t := 80) rfl rfl rfl (G.mv rfl rfl (G.grun (t := 80) rfl rfl rfl ?_))))))))))
 refine G.oq (OpSpec.call Tryz.func17 rfl rfl (vs := [_]) rfl (llast_spec m y Λ hO.li)) ?nx41
 rintro v L' ⟨rfl, rfl⟩
 refine G.grun (t := 80) rfl rfl rfl ?_
 refine G.q (Quiet.as (v' := .bool true) (by exact congrArg Value.bool (decide_eq_true hO.last)) (Quiet.int rfl rfl rfl)) rfl ?_
 refine G.q (Quiet.pickT rfl rfl) rfl (G.mv rfl rfl (G.grun (t := 85) rfl rfl rfl (G.mv rfl rfl (G.grun (t := 85) rfl rfl rfl (G.q (Quiet.nilp rfl) rfl (G.grun (t := 85) rfl rfl rfl (G.q (Quiet.fieldAddr rfl fo_79_0) rfl (G.grun (t := 85) rfl rfl rfl ?_))))))))
 refine G.oq (OpSpec.call Tryz.func33 rfl rfl (vs := [_]) rfl (lacc_spec m y Λ)) ?nx46
 rintro v L' ⟨rfl, rfl⟩
 refine G.grun (t := 85) rfl rfl rfl ?_
 refine G.q (Quiet.as (v' := .bool true) (by exact congrArg Value.bool (decide_eq_true hO.acc)) (Quiet.int rfl rfl rfl)) rfl ?_
 refine G.q (Quiet.pickT rfl rfl) rfl (G.mv rfl rfl (G.grun (t := 92) rfl rfl rfl (G.mv rfl rfl (G.grun (t := 92) rfl rfl rfl (G.q (Quiet.nilp rfl) rfl (G.grun (t := 92) rfl rfl rfl (G.q (Quiet.fieldAddr rfl fo_79_0) rfl (G.grun (t := 92) rfl rfl rfl ?_))))))))
 refine G.oq (OpSpec.call Tryz.func34 rfl rfl (vs := [_]) rfl (lcur_spec m y Λ)) ?nx51
 rintro v L' ⟨rfl, rfl⟩
 refine G.grun (t := 92) rfl rfl rfl ?_
 refine G.q (Quiet.as (v' := .bool true) (by exact congrArg Value.bool (decide_eq_true hO.cur)) (Quiet.int rfl rfl rfl)) rfl ?_
 refine G.q (Quiet.pickT rfl rfl) rfl (G.mv rfl rfl (G.grun (t := 99) rfl rfl rfl (G.mv rfl rfl (G.grun (t := 99) rfl rfl rfl (G.q (Quiet.slen rfl Tryz.underlying31 rfl) rfl (G.grun (t := 99) rfl rfl rfl ?_))))))
 refine G.q (Quiet.as (v' := .bool true) (by rfl) (Quiet.int rfl rfl rfl)) rfl ?_
 refine G.q (Quiet.pickT rfl rfl) rfl (G.mv rfl rfl (G.grun (t := 104) rfl rfl rfl (G.mv rfl rfl (G.grun (t := 104) rfl rfl rfl ?_))))
 refine G.q (Quiet.indexAddr rfl rfl el_31 (by exact ⟨by decide, by decide⟩)) rfl ?_
 refine G.grun (t := 104) rfl rfl rfl ?_
 refine G.q (Quiet.loadEl (p := intR (.slice (some ⟨bm, 0, none⟩) ([4294967298] : List Int).length cm) [4294967298]) (i := 0) (v := vint 4294967298) rfl ag_3 (by (repeat' constructor)) (fun h hp => slR_rd hp) rfl) rfl ?_
 refine G.grun (t := 104) rfl rfl rfl ?_
 refine G.q (Quiet.as (v' := .bool true) (by rfl) (Quiet.int rfl rfl rfl)) rfl ?_
 refine G.q (Quiet.pickT rfl rfl) rfl (G.mv rfl rfl (G.grun (t := 110) rfl rfl rfl (G.mv rfl rfl (G.grun (t := 110) rfl rfl rfl ?_))))
 refine G.oq (OpSpec.call Tryz.func43 rfl rfl (vs := [_, _]) rfl (ladopt_spec m y d la6 ω Λ 4 hO.i (by rw [sync_done hO.live hO.doubt hO.synced]; exact hO.i))) ?nx59
 rintro v L' ⟨rfl, rfl⟩; rw [show (lgAdopt ⟨la6, ω, Λ⟩ 4).2 = 82 by unfold lgAdopt; dsimp only; rw [if_neg (by rw [hO.live]; decide), if_pos (.inr (by rw [hO.acc]; decide))]]
 refine G.grun (t := 110) rfl rfl rfl ?_
 refine G.q (Quiet.as (v' := .bool true) (by rfl) (Quiet.int rfl rfl rfl)) rfl ?_
 refine G.q (Quiet.pickT rfl rfl) rfl (G.ag rfl rfl (G.nil (G.then_n (G.ret ?_))))
 exact G.dn (l := [.tmp 0]) rfl rfl ⟨rfl, rfl⟩

end Go.Proofs.YtidjhgbdokcphaaGreat

/- Own work: LedgerMarks, plain: the marks of entries; entries behind a number. -/

namespace Go.Proofs.YtidjhgbdokcphaaGreat
open Go

theorem fm_cell {α : Type} {f : α → List Value} {sz k : Nat} {l : List α} {i : Nat} (hf : ∀ x ∈ l, (f x).length = sz) (hi : i < l.length) (hk : k < sz) : (l.flatMap f)[i * sz + k]? = (f l[i])[k]? := by
  have h := flatMap_at hf hi
  rw [← h, List.getElem?_take, if_pos hk, List.getElem?_drop]
theorem en_cell {l : List En} {i k : Nat} (hi : i < l.length) (hk : k < 11) : (l.flatMap enC)[i * 11 + k]? = (enC l[i])[k]? := fm_cell (f := enC) (sz := 11) (fun _ _ => rfl) hi hk
def wantF : List Int → List Int
  | [] => []
  | [z] => [z]
  | z :: y :: t => if y / 4294967296 = z / 4294967296 then wantF (y :: t) else z :: wantF (y :: t)
theorem marks_fold : ∀ (t : List Int) (out : List Int) (z : Int), (∀ y ∈ t, y ≠ 0) → t.foldl markStep (out ++ [z]) = out ++ wantF (z :: t)
  | [], out, z, _ => rfl
  | y :: t, out, z, h => by
    rw [List.foldl_cons]
    by_cases g : y / 4294967296 = z / 4294967296
    · rw [mk_same (h y (List.mem_cons_self ..)) (by simp) (by rw [List.getLastD_concat]; exact g.symm), List.dropLast_concat, marks_fold t out y (fun x hx => h x (List.mem_cons_of_mem _ hx))]
      show _ = out ++ (if _ then _ else _); rw [if_pos g]
    · rw [mk_new (h y (List.mem_cons_self ..)) (.inr (by rw [List.getLastD_concat]; exact fun q => g q.symm)), marks_fold t (out ++ [z]) y (fun x hx => h x (List.mem_cons_of_mem _ hx))]
      show _ = out ++ (if _ then _ else _); rw [if_neg g, List.append_assoc]; rfl
theorem marks_want {Λ : Lg} (hb : Λ.base = 0) (h : ∀ z ∈ Λ.zxs, 0 < z) : marksZ Λ = wantF Λ.zxs := by
  unfold marksZ
  rw [hb, List.foldl_cons, mk_0 rfl]
  cases hz : Λ.zxs with
  | nil => rfl
  | cons z t =>
    rw [hz] at h
    have h0 := h z (List.mem_cons_self ..)
    rw [List.foldl_cons, mk_new (by omega) (.inl rfl), marks_fold t [] z (fun y hy => by have := h y (List.mem_cons_of_mem _ hy); omega), List.nil_append]
theorem want_step {zs : List Int} {i : Nat} (h : i < zs.length) : wantF (zs.drop i) = (if i + 1 = zs.length ∨ ¬ zs.getD (i + 1) 0 / 4294967296 = zs.getD i 0 / 4294967296 then [zs.getD i 0] else []) ++ wantF (zs.drop (i + 1)) := by
  rw [List.drop_eq_getElem_cons h]
  have e : zs.getD i 0 = zs[i] := by simp [List.getD_eq_getElem?_getD, h]
  rw [e]
  rcases Nat.lt_or_ge (i + 1) zs.length with g | g
  · have e2 : zs.getD (i + 1) 0 = zs[i + 1] := by simp [List.getD_eq_getElem?_getD, g]
    rw [e2, List.drop_eq_getElem_cons g]
    show (if zs[i + 1] / 4294967296 = zs[i] / 4294967296 then _ else _) = _
    by_cases q : zs[i + 1] / 4294967296 = zs[i] / 4294967296
    · rw [if_pos q, if_neg (by rintro (g1 | g1); omega; exact g1 q)]; rfl
    · rw [if_neg q, if_pos (.inr q)]; rfl
  · rw [if_pos (.inl (by omega)), List.drop_eq_nil_of_le (by omega)]; rfl
theorem pos_at {Λ : Lg} (h : LgW Λ) {i : Nat} (hi : i < Λ.zxs.length) : Λ.base < Λ.zxs.getD i 0 := by
  have := h.rows.gt (Λ.zxs[i]) (List.getElem_mem hi)
  simpa [List.getD_eq_getElem?_getD, hi] using this
theorem ints_at {zs : List Int} {i : Nat} (h : i < zs.length) : (ints zs)[i * 1]? = some (vint (zs.getD i 0)) := by
  rw [Nat.mul_one]; simp [ints, List.getD_eq_getElem?_getD, h]
end Go.Proofs.YtidjhgbdokcphaaGreat

/- Own work: the document's writer: numbers of 64 bits; cells of lists. -/

namespace Go.Proofs.YtidjhgbdokcphaaGreat
open Go
section
variable {P : Program} {E : Env} {L : List HP} {ty : TypeId}
theorem Quiet.quoU {t t' : TypeId} {x y : Operand} {a b : Int} (hx : ev E x = some (.int .u64 a)) (hy : ev E y = some (.int .u64 b)) (h0 : 0 ≤ a ∧ a < 18446744073709551616) (hb : 0 < b) :
    Quiet P ⟨none, .binOp .quo t x y t', ty, "", #[], none⟩ E L (.int .u64 (a / b)) := by
  intro ρ w ha _
  have e : a.tdiv b = a / b := Int.tdiv_eq_ediv_of_nonneg h0.1
  have h1 : a / b ≤ a := Int.ediv_le_self b h0.1
  have h2 : 0 ≤ a / b := Int.ediv_nonneg h0.1 (by omega)
  have hw : IntKind.u64.wrap (a / b) = a / b := by rw [u64wrap]; omega
  simp [execOp, ha x _ hx, ha y _ hy, eqGuard, binOp, Op.intDiv, Bind.bind, Sem.bind, Pure.pure, Sem.run, show b ≠ 0 by omega, e, hw]
theorem Quiet.remU {t t' : TypeId} {x y : Operand} {a b : Int} (hx : ev E x = some (.int .u64 a)) (hy : ev E y = some (.int .u64 b)) (h0 : 0 ≤ a) (hb : 0 < b) :
    Quiet P ⟨none, .binOp .rem t x y t', ty, "", #[], none⟩ E L (.int .u64 (a % b)) := by
  intro ρ w ha _
  have e : a.tmod b = a % b := Int.tmod_eq_emod_of_nonneg h0
  simp [execOp, ha x _ hx, ha y _ hy, eqGuard, binOp, Op.intDiv, Bind.bind, Sem.bind, Pure.pure, Sem.run, show b ≠ 0 by omega, e]
end
theorem ac_cell {l : List Ac} {i k : Nat} (hi : i < l.length) (hk : k < 2) : (l.flatMap acC)[i * 2 + k]? = (acC l[i])[k]? := fm_cell (f := acC) (sz := 2) (fun _ _ => rfl) hi hk
theorem nums_len {ns : List Int} (h : ∀ n ∈ ns, I64 n) : (ns.flatMap numB).length ≤ ns.length * 10 := by
  induction ns with
  | nil => simp
  | cons n ns ih =>
    have h1 := ih (fun x hx => h x (List.mem_cons_of_mem _ hx))
    have h2 := numB_len (h n (List.mem_cons_self ..))
    rw [List.flatMap_cons, List.length_append, List.length_cons]; omega
end Go.Proofs.YtidjhgbdokcphaaGreat

