/- Own work, some of it printed by program, texts that were built one by one: a part of the proof of followPlays.proved. -/
import Derived.Test.YteebpmkkdlabpaaGreatCFPlaysP0
import Derived.Laws.StructEq
set_option maxRecDepth 100000
namespace Go.Proofs.YteebpmkkdlabpaaGreat
open Go
abbrev I64 (n : Int) : Prop := -9223372036854775808 ≤ n ∧ n ≤ 9223372036854775807
abbrev nilV : Value := .slice none 0 0
def acB (a : Ac) : Bs := numB a.1 ++ txtB a.2
def aclB (l : List Ac) : Bs := cntB l.length ++ l.flatMap acB
def ptB (y : Pt) : Bs := numB y.kind ++ txtB y.path ++ txtB y.data ++ aclB y.acl ++ [y.own, y.num, y.err].flatMap numB
def subsB (l : List Pt) : Bs := cntB l.length ++ l.flatMap ptB
def enB (e : En) : Bs := [e.zx, e.ses, e.xid].flatMap numB ++ ptB e.x ++ subsB e.subs
def Pt.pl (y : Pt) : Pt := ⟨y.kind, y.path, y.data, nilV, y.acl, y.own, y.num, y.err, nilV⟩
def En.pl (e : En) : En := ⟨e.zx, e.ses, e.xid, e.x.pl, e.subs.map Pt.pl⟩
theorem subsB_pl (l : List Pt) : subsB (l.map Pt.pl) = subsB l := by
 unfold subsB
 rw [List.length_map, List.flatMap_map]; rfl
theorem enB_pl (e : En) : enB e.pl = enB e := by
 unfold enB
 rw [show e.pl.subs = e.subs.map Pt.pl from rfl, subsB_pl]; rfl
/-! ### Readings, whatever the state -/
abbrev Rn (α : Type) := Rs → α × Rs
def retR {α : Type} (x : α) : Rn α := fun st => (x, st)
def bindR {α β : Type} (f : Rn α) (g : α → Rn β) : Rn β := fun st => g (f st).1 (f st).2
def manyR {α : Type} (f : Rn α) : Nat → Rn (List α)
 | 0, st => ([], st)
 | n + 1, st => ((manyR f n st).1 ++ [(f (manyR f n st).2).1], (f (manyR f n st).2).2)
def numR : Rn Int := runP 0 numP
def txtR : Rn Bs := runP [] (txtP 4096)
def cntR : Rn Nat := runP 0 (cntP 256)
def rowsR {α : Type} (f : Rn α) : Rn (List α) := bindR cntR (manyR f)
def acR : Rn Ac := bindR numR fun n => bindR txtR fun s => retR (n, s)
def ptR : Rn Pt := bindR numR fun k => bindR txtR fun p => bindR txtR fun d => bindR (rowsR acR) fun l => bindR numR fun o => bindR numR fun n => bindR numR fun x => retR ⟨k, p, d, nilV, l, o, n, x, nilV⟩
def enR : Rn En := bindR numR fun z => bindR numR fun s => bindR numR fun x => bindR ptR fun y => bindR (rowsR ptR) fun l => retR ⟨z, s, x, y, l⟩
def getR (x : En × Rs) : Option En := match x with
 | (q, some []) => some q
 | _ => none
def getZ (s : Bs) : Option En := getR (enR (some s))
def Strict {α : Type} (f : Rn α) : Prop := (f none).2 = none
theorem Strict.ret {α : Type} (x : α) : Strict (retR x) := rfl
theorem Strict.run {α : Type} (d : α) (p : Pa α) : Strict (runP d p) := rfl
theorem Strict.bind {α β : Type} {f : Rn α} {g : α → Rn β} (hf : Strict f) (hg : ∀ x, Strict (g x)) : Strict (bindR f g) := by
 unfold Strict bindR
 rw [hf]; exact hg _
theorem Strict.many {α : Type} {f : Rn α} (hf : Strict f) : ∀ n, Strict (manyR f n)
 | 0 => rfl
 | n + 1 => by
  have h := Strict.many hf n
  unfold Strict at h ⊢
  show (f (manyR f n none).2).2 = none
  rw [h]; exact hf
theorem Strict.rows {α : Type} {f : Rn α} (hf : Strict f) : Strict (rowsR f) := .bind (.run _ _) (.many hf)
theorem strict_ac : Strict acR := .bind (.run _ _) fun _ => .bind (.run _ _) fun _ => .ret _
theorem strict_pt : Strict ptR := .bind (.run _ _) fun _ => .bind (.run _ _) fun _ => .bind (.run _ _) fun _ => .bind (.rows strict_ac) fun _ => .bind (.run _ _) fun _ => .bind (.run _ _) fun _ => .bind (.run _ _) fun _ => .ret _
def BackR {α : Type} (f : Rn α) (b : Bs) (x : α) : Prop := ∀ r, f (some (b ++ r)) = (x, some r) ∨ (f (some (b ++ r))).2 = none
theorem BackR.bind {α β : Type} {f : Rn α} {g : α → Rn β} {b c : Bs} {x : α} {y : β} (hf : BackR f b x) (hs : ∀ x, Strict (g x)) (hg : BackR (g x) c y) : BackR (bindR f g) (b ++ c) y := by
 intro r
 rw [List.append_assoc]
 rcases hf (c ++ r) with h | h
 ·unfold bindR; rw [h]; exact hg r
 ·right; unfold bindR; rw [h]; exact hs _
theorem BackR.end_ {α β : Type} {f : Rn α} {g : α → β} {b : Bs} {x : α} (hf : BackR f b x) : BackR (bindR f fun x => retR (g x)) b (g x) := by
 intro r
 rcases hf r with h | h
 ·left; unfold bindR retR; rw [h]
 ·right; unfold bindR retR; exact h
theorem back_num {n : Int} (h : I64 n) : BackR numR (numB n) n := fun r => .inl (by unfold numR runP; dsimp only; rw [num_back h])
theorem back_txt {s : Bs} (h : s.length < U64) : BackR txtR (txtB s) s := fun r => by
 unfold txtR runP
 dsimp only
 rcases Nat.lt_or_ge 4096 s.length with g | g
 ·right; rw [txt_over g h]
 ·left; rw [txt_back g (by decide)]
theorem back_cnt {n : Nat} (h : n < U64) : BackR cntR (cntB n) n := fun r => by
 unfold cntR runP
 dsimp only
 rcases Nat.lt_or_ge 256 n with g | g
 ·right; rw [cnt_over g h]
 ·left; rw [cnt_back g (by decide)]
theorem back_many {α : Type} {f : Rn α} {E : α → Bs} (hs : Strict f) {l : List α} (h : ∀ x ∈ l, BackR f (E x) x) : ∀ i, i ≤ l.length → BackR (manyR f i) ((l.take i).flatMap E) (l.take i)
 | 0, _ => by rw [List.take_zero]; exact fun r => .inl rfl
 | i + 1, hi => by
  have ih := back_many hs h i (by omega)
  rw [List.take_succ_eq_append_getElem (by omega), List.flatMap_append]
  intro r
  rw [List.append_assoc]
  have hx := h l[i] (List.getElem_mem (by omega))
  rcases ih ([l[i]].flatMap E ++ r) with g | g
  ·have e : [l[i]].flatMap E = E l[i] := by simp
   rcases hx r with k | k
   ·left
    show ((manyR f i _).1 ++ [(f (manyR f i _).2).1], (f (manyR f i _).2).2) = _
    rw [g, e, k]
   ·right
    show (f (manyR f i _).2).2 = none
    rw [g, e, k]
  ·right
   show (f (manyR f i _).2).2 = none
   rw [g]; exact hs
theorem back_rows {α : Type} {f : Rn α} {E : α → Bs} (hs : Strict f) {l : List α} (hl : l.length < U64) (h : ∀ x ∈ l, BackR f (E x) x) : BackR (rowsR f) (cntB l.length ++ l.flatMap E) l := by
 have := back_many hs h l.length (Nat.le_refl _)
 rw [List.take_length] at this
 exact BackR.bind (back_cnt hl) (fun n => .many hs n) this
/-! ### What may be laid -/
structure AcI (a : Ac) : Prop where
 n : I64 a.1
 s : a.2.length < U64
structure PtI (y : Pt) : Prop where
 kind : I64 y.kind
 own : I64 y.own
 num : I64 y.num
 err : I64 y.err
 path : y.path.length < U64
 data : y.data.length < U64
 many : y.acl.length < U64
 acl : ∀ a ∈ y.acl, AcI a
structure EnI (e : En) : Prop where
 zx : I64 e.zx
 ses : I64 e.ses
 xid : I64 e.xid
 x : PtI e.x
 many : e.subs.length < U64
 subs : ∀ y ∈ e.subs, PtI y
theorem back_ac {a : Ac} (h : AcI a) : BackR acR (acB a) a :=
 BackR.bind (back_num h.n) (fun _ => .bind (.run _ _) fun _ => .ret _) (BackR.end_ (g := fun s => (a.1, s)) (back_txt h.s))
theorem back_pt {y : Pt} (h : PtI y) : BackR ptR (ptB y) y.pl := by
 have e : ptB y = numB y.kind ++ (txtB y.path ++ (txtB y.data ++ (aclB y.acl ++ (numB y.own ++ (numB y.num ++ numB y.err))))) := by
  unfold ptB; simp [List.append_assoc]
 rw [e]
 refine BackR.bind (back_num h.kind) (fun _ => .bind (.run _ _) fun _ => .bind (.run _ _) fun _ => .bind (.rows strict_ac) fun _ => .bind (.run _ _) fun _ => .bind (.run _ _) fun _ => .bind (.run _ _) fun _ => .ret _) (BackR.bind (back_txt h.path) (fun _ => .bind (.run _ _) fun _ => .bind (.rows strict_ac) fun _ => .bind (.run _ _) fun _ => .bind (.run _ _) fun _ => .bind (.run _ _) fun _ => .ret _) (BackR.bind (back_txt h.data) (fun _ => .bind (.rows strict_ac) fun _ => .bind (.run _ _) fun _ => .bind (.run _ _) fun _ => .bind (.run _ _) fun _ => .ret _) (BackR.bind (back_rows strict_ac h.many fun a ha => back_ac (h.acl a ha)) (fun _ => .bind (.run _ _) fun _ => .bind (.run _ _) fun _ => .bind (.run _ _) fun _ => .ret _) (BackR.bind (back_num h.own) (fun _ => .bind (.run _ _) fun _ => .bind (.run _ _) fun _ => .ret _) (BackR.bind (back_num h.num) (fun _ => .bind (.run _ _) fun _ => .ret _) ?_)))))
 exact BackR.end_ (g := fun x => (⟨y.kind, y.path, y.data, nilV, y.acl, y.own, y.num, x, nilV⟩ : Pt)) (back_num h.err)
theorem PtI.pl {y : Pt} (h : PtI y) : PtI y.pl := ⟨h.kind, h.own, h.num, h.err, h.path, h.data, h.many, h.acl⟩
theorem back_en {e : En} (h : EnI e) : BackR enR (enB e) e.pl := by
 have e1 : enB e = numB e.zx ++ (numB e.ses ++ (numB e.xid ++ (ptB e.x ++ (cntB (e.subs.map Pt.pl).length ++ (e.subs.map Pt.pl).flatMap ptB)))) := by
  have : cntB (e.subs.map Pt.pl).length ++ (e.subs.map Pt.pl).flatMap ptB = subsB e.subs := subsB_pl e.subs
  rw [this]
  unfold enB; simp [List.append_assoc]
 rw [e1]
 refine BackR.bind (back_num h.zx) (fun _ => .bind (.run _ _) fun _ => .bind (.run _ _) fun _ => .bind strict_pt fun _ => .bind (.rows strict_pt) fun _ => .ret _) (BackR.bind (back_num h.ses) (fun _ => .bind (.run _ _) fun _ => .bind strict_pt fun _ => .bind (.rows strict_pt) fun _ => .ret _) (BackR.bind (back_num h.xid) (fun _ => .bind strict_pt fun _ => .bind (.rows strict_pt) fun _ => .ret _) (BackR.bind (back_pt h.x) (fun _ => .bind (.rows strict_pt) fun _ => .ret _) (BackR.end_ (g := fun l => (⟨e.zx, e.ses, e.xid, e.x.pl, l⟩ : En)) (back_rows strict_pt (by rw [List.length_map]; exact h.many) fun y hy => ?_)))))
 obtain ⟨z, hz, rfl⟩ := List.mem_map.1 hy
 exact back_pt (h.subs z hz).pl
theorem get_back {e q : En} (h : EnI e) (hg : getZ (enB e) = some q) : q = e.pl := by
 have hb := back_en h []
 rw [List.append_nil] at hb
 unfold getZ at hg
 rcases hb with hb | hb
 ·rw [hb] at hg; exact (Option.some.inj hg).symm
 ·unfold getR at hg
  split at hg
  ·rename_i q' heq
   rw [heq] at hb; cases hb
  ·cases hg
/-! ### What is read was laid so -/
theorem bind_some {α β : Type} {f : Rn α} {g : α → Rn β} (hs : ∀ x, Strict (g x)) {st : Rs} {z : β} {r : Bs} (h : bindR f g st = (z, some r)) : ∃ y s', f st = (y, some s') ∧ g y (some s') = (z, some r) := by
 unfold bindR at h
 cases e : (f st).2 with
 | none =>
  rw [e] at h
  have := hs (f st).1
  unfold Strict at this
  rw [h] at this; cases this
 | some s' =>
  rw [e] at h
  exact ⟨(f st).1, s', by rw [← e], h⟩
theorem num_some {s r : Bs} {n : Int} (h : numR (some s) = (n, some r)) : s = numB n ++ r ∧ I64 n := by
 unfold numR runP at h
 dsimp only at h
 split at h
 ·rename_i x hx
  simp only [Prod.mk.injEq, Option.some.injEq] at h
  obtain ⟨rfl, rfl⟩ := h
  exact num_form hx
 ·cases h
theorem txt_some {s r x : Bs} (h : txtR (some s) = (x, some r)) : s = txtB x ++ r ∧ x.length ≤ 4096 := by
 unfold txtR runP at h
 dsimp only at h
 split at h
 ·rename_i y hy
  simp only [Prod.mk.injEq, Option.some.injEq] at h
  obtain ⟨rfl, rfl⟩ := h
  exact txt_form hy
 ·cases h
theorem cnt_some {s r : Bs} {n : Nat} (h : cntR (some s) = (n, some r)) : s = cntB n ++ r ∧ n ≤ 256 := by
 unfold cntR runP at h
 dsimp only at h
 split at h
 ·rename_i y hy
  simp only [Prod.mk.injEq, Option.some.injEq] at h
  obtain ⟨rfl, rfl⟩ := h
  exact cnt_form hy
 ·cases h
theorem many_some {α : Type} {f : Rn α} {E : α → Bs} {Q : α → Prop} (hs : Strict f) (hf : ∀ s x r, f (some s) = (x, some r) → s = E x ++ r ∧ Q x) : ∀ n s l r, manyR f n (some s) = (l, some r) → s = l.flatMap E ++ r ∧ l.length = n ∧ ∀ x ∈ l, Q x
 | 0, s, l, r, h => by
  simp only [manyR, Prod.mk.injEq, Option.some.injEq] at h
  obtain ⟨rfl, rfl⟩ := h
  exact ⟨rfl, rfl, fun x hx => by cases hx⟩
 | n + 1, s, l, r, h => by
  simp only [manyR, Prod.mk.injEq] at h
  obtain ⟨rfl, h2⟩ := h
  cases e : (manyR f n (some s)).2 with
  | none => rw [e] at h2; unfold Strict at hs; rw [hs] at h2; cases h2
  | some s' =>
   rw [e] at h2
   obtain ⟨h3, h4, h5⟩ := many_some hs hf n s (manyR f n (some s)).1 s' (by rw [← e])
   obtain ⟨h6, h7⟩ := hf s' (f (some s')).1 r (by rw [← h2])
   refine ⟨?_, by simp [h4], fun x hx => ?_⟩
   ·rw [List.flatMap_append, List.append_assoc]
    simp only [List.flatMap_cons, List.flatMap_nil, List.append_nil]
    rw [← h6, ← h3]
   ·rcases List.mem_append.1 hx with hx | hx
    ·exact h5 x hx
    ·rw [List.mem_singleton] at hx; subst hx; exact h7
theorem rows_some {α : Type} {f : Rn α} {E : α → Bs} {Q : α → Prop} (hs : Strict f) (hf : ∀ s x r, f (some s) = (x, some r) → s = E x ++ r ∧ Q x) {s : Bs} {l : List α} {r : Bs} (h : rowsR f (some s) = (l, some r)) : s = cntB l.length ++ l.flatMap E ++ r ∧ l.length ≤ 256 ∧ ∀ x ∈ l, Q x := by
 obtain ⟨n, s', h1, h2⟩ := bind_some (fun n => .many hs n) h
 obtain ⟨h3, h4⟩ := cnt_some h1
 obtain ⟨h5, h6, h7⟩ := many_some hs hf n s' l r h2
 subst h6
 exact ⟨by rw [h3, h5, List.append_assoc], h4, h7⟩
structure PtF (y : Pt) : Prop where
 kind : I64 y.kind
 own : I64 y.own
 num : I64 y.num
 err : I64 y.err
 path : y.path.length ≤ 4096
 data : y.data.length ≤ 4096
 many : y.acl.length ≤ 256
 acl : ∀ a ∈ y.acl, I64 a.1 ∧ a.2.length ≤ 4096
 pl : y.pl = y
structure EnF (e : En) : Prop where
 zx : I64 e.zx
 ses : I64 e.ses
 xid : I64 e.xid
 x : PtF e.x
 many : e.subs.length ≤ 256
 subs : ∀ y ∈ e.subs, PtF y
theorem ac_some (s : Bs) (a : Ac) (r : Bs) (h : acR (some s) = (a, some r)) : s = acB a ++ r ∧ (I64 a.1 ∧ a.2.length ≤ 4096) := by
 obtain ⟨n, s1, h1, h2⟩ := bind_some (fun _ => .bind (.run _ _) fun _ => .ret _) h
 obtain ⟨t, s2, h3, h4⟩ := bind_some (fun _ => .ret _) h2
 simp only [retR, Prod.mk.injEq, Option.some.injEq] at h4
 obtain ⟨rfl, rfl⟩ := h4
 obtain ⟨e1, i1⟩ := num_some h1
 obtain ⟨e2, i2⟩ := txt_some h3
 exact ⟨by rw [e1, e2]; unfold acB; rw [List.append_assoc], i1, i2⟩
theorem pt_some (s : Bs) (y : Pt) (r : Bs) (h : ptR (some s) = (y, some r)) : s = ptB y ++ r ∧ PtF y := by
 obtain ⟨k, s1, h1, h⟩ := bind_some (fun _ => .bind (.run _ _) fun _ => .bind (.run _ _) fun _ => .bind (.rows strict_ac) fun _ => .bind (.run _ _) fun _ => .bind (.run _ _) fun _ => .bind (.run _ _) fun _ => .ret _) h
 obtain ⟨p, s2, h2, h⟩ := bind_some (fun _ => .bind (.run _ _) fun _ => .bind (.rows strict_ac) fun _ => .bind (.run _ _) fun _ => .bind (.run _ _) fun _ => .bind (.run _ _) fun _ => .ret _) h
 obtain ⟨d, s3, h3, h⟩ := bind_some (fun _ => .bind (.rows strict_ac) fun _ => .bind (.run _ _) fun _ => .bind (.run _ _) fun _ => .bind (.run _ _) fun _ => .ret _) h
 obtain ⟨l, s4, h4, h⟩ := bind_some (fun _ => .bind (.run _ _) fun _ => .bind (.run _ _) fun _ => .bind (.run _ _) fun _ => .ret _) h
 obtain ⟨o, s5, h5, h⟩ := bind_some (fun _ => .bind (.run _ _) fun _ => .bind (.run _ _) fun _ => .ret _) h
 obtain ⟨n, s6, h6, h⟩ := bind_some (fun _ => .bind (.run _ _) fun _ => .ret _) h
 obtain ⟨x, s7, h7, h⟩ := bind_some (fun _ => .ret _) h
 simp only [retR, Prod.mk.injEq, Option.some.injEq] at h
 obtain ⟨rfl, rfl⟩ := h
 obtain ⟨e1, i1⟩ := num_some h1
 obtain ⟨e2, i2⟩ := txt_some h2
 obtain ⟨e3, i3⟩ := txt_some h3
 obtain ⟨e4, i4, j4⟩ := rows_some strict_ac ac_some h4
 obtain ⟨e5, i5⟩ := num_some h5
 obtain ⟨e6, i6⟩ := num_some h6
 obtain ⟨e7, i7⟩ := num_some h7
 refine ⟨?_, ⟨i1, i5, i6, i7, i2, i3, i4, j4, rfl⟩⟩
 rw [e1, e2, e3, e4, e5, e6, e7]
 unfold ptB aclB
 simp [List.append_assoc]
theorem en_some {s : Bs} {e : En} {r : Bs} (h : enR (some s) = (e, some r)) : s = enB e ++ r ∧ EnF e := by
 obtain ⟨z, s1, h1, h⟩ := bind_some (fun _ => .bind (.run _ _) fun _ => .bind (.run _ _) fun _ => .bind strict_pt fun _ => .bind (.rows strict_pt) fun _ => .ret _) h
 obtain ⟨n, s2, h2, h⟩ := bind_some (fun _ => .bind (.run _ _) fun _ => .bind strict_pt fun _ => .bind (.rows strict_pt) fun _ => .ret _) h
 obtain ⟨x, s3, h3, h⟩ := bind_some (fun _ => .bind strict_pt fun _ => .bind (.rows strict_pt) fun _ => .ret _) h
 obtain ⟨y, s4, h4, h⟩ := bind_some (fun _ => .bind (.rows strict_pt) fun _ => .ret _) h
 obtain ⟨l, s5, h5, h⟩ := bind_some (fun _ => .ret _) h
 simp only [retR, Prod.mk.injEq, Option.some.injEq] at h
 obtain ⟨rfl, rfl⟩ := h
 obtain ⟨e1, i1⟩ := num_some h1
 obtain ⟨e2, i2⟩ := num_some h2
 obtain ⟨e3, i3⟩ := num_some h3
 obtain ⟨e4, i4⟩ := pt_some _ _ _ h4
 obtain ⟨e5, i5, j5⟩ := rows_some strict_pt pt_some h5
 refine ⟨?_, ⟨i1, i2, i3, i4, i5, j5⟩⟩
 rw [e1, e2, e3, e4, e5]
 unfold enB subsB
 simp [List.append_assoc]
theorem get_form {s : Bs} {q : En} (h : getZ s = some q) : s = enB q ∧ EnF q := by
 unfold getZ getR at h
 split at h
 ·rename_i q' heq
  cases h
  obtain ⟨h1, h2⟩ := en_some heq
  exact ⟨by rw [h1, List.append_nil], h2⟩
 ·cases h
def wrR (w : Nat) (bs : Bs) : HP := fun h => ∃ y : Option Addr × Nat, True ∧ sep [ptc w [.slice y.1 bs.length y.2, vint 0] 228, bytR (.slice y.1 bs.length y.2) bs] h
def rdW (r : Nat) (s : Bs) (at' : Nat) (e : Int) : HP := fun h => ∃ y : Nat × Nat, (at' ≤ s.length ∧ s.length ≤ 70368744177664) ∧ sep [ptc r [.slice (some ⟨y.1, 0, none⟩) s.length y.2, vint at', vint e] 253, bytR (.slice (some ⟨y.1, 0, none⟩) s.length y.2) s] h
def stW (s : Bs) (at' : Nat) (e : Int) : Rs := if e = 0 then some (s.drop at') else none
def rdR (r : Nat) (st : Rs) : HP := fun h => ∃ y : Bs × (Nat × Int), stW y.1 y.2.1 y.2.2 = st ∧ sep [rdW r y.1 y.2.1 y.2.2] h
section
variable {P : Program} {W : World} {n : Nat} {ds : List Deferred} {E : Env} {L R : List HP} {X : Act → World → Prop}
theorem G.wrOpen {w : Nat} {bs : Bs} (hL : Pick (wrR w bs) L R) (h : ∀ a c, G W n ds E (ptc w [.slice a bs.length c, vint 0] 228 :: bytR (.slice a bs.length c) bs :: R) X) : G W n ds E L X :=
 G.focus hL (G.open (q := fun y : Option Addr × Nat => [ptc w [.slice y.1 bs.length y.2, vint 0] 228, bytR (.slice y.1 bs.length y.2) bs]) (φ := fun _ => True) (fun _ hp => hp) fun y _ => h y.1 y.2)
theorem G.wrFold {w : Nat} (bs : Bs) {l xs : List Value} {a : Option Addr} {c m : Nat} (hL : Picks [ptc w l 228, slR 5 1 (.slice a m c) m xs] L R) (hl : l = [.slice a m c, vint 0]) (hm : m = bs.length) (hx : xs = bysL bs) (h : G W n ds E (wrR w bs :: R) X) : G W n ds E L X := by
 subst hl; subst hm; subst hx
 exact G.fold hL (fun _ hp => ⟨(a, c), trivial, hp⟩) h
theorem G.rdOpen {r : Nat} {s : Bs} {k : Nat} {e : Int} (hL : Pick (rdW r s k e) L R) (h : ∀ a c, k ≤ s.length → s.length ≤ 70368744177664 → G W n ds E (ptc r [.slice (some ⟨a, 0, none⟩) s.length c, vint k, vint e] 253 :: bytR (.slice (some ⟨a, 0, none⟩) s.length c) s :: R) X) : G W n ds E L X :=
 G.focus hL (G.open (q := fun y : Nat × Nat => [ptc r [.slice (some ⟨y.1, 0, none⟩) s.length y.2, vint k, vint e] 253, bytR (.slice (some ⟨y.1, 0, none⟩) s.length y.2) s]) (φ := fun _ => k ≤ s.length ∧ s.length ≤ 70368744177664) (fun _ hp => hp) fun y hy => h y.1 y.2 hy.1 hy.2)
theorem G.rdFold {r : Nat} (s : Bs) (k : Nat) (e : Int) {l : List Value} {a c : Nat} (hL : Picks [ptc r l 253, bytR (.slice (some ⟨a, 0, none⟩) s.length c) s] L R) (hl : l = [.slice (some ⟨a, 0, none⟩) s.length c, vint k, vint e]) (hk : k ≤ s.length) (hs : s.length ≤ 70368744177664) (h : G W n ds E (rdW r s k e :: R) X) : G W n ds E L X := by
 subst hl
 exact G.fold hL (fun _ hp => ⟨(a, c), ⟨hk, hs⟩, hp⟩) h
theorem Fn.rdUp {f : FuncId} {args : Array Value} {r : Nat} {α : Type} {d : α} {p : Pa α} {v : α → Value} (h : ∀ s k e, Fn P f args [rdW r s k e] fun u L => ∃ k' e', stW s k' e' = (runP d p (stW s k e)).2 ∧ u = v (runP d p (stW s k e)).1 ∧ L = [rdW r s k' e']) (st : Rs) :
  Fn P f args [rdR r st] fun u L => u = v (runP d p st).1 ∧ L = [rdR r (runP d p st).2] := by
 intro F w hs
 obtain ⟨h1, h2, hd, a1, a2, ⟨y, hy, hp⟩, hF⟩ := hs
 subst hy
 have hs' : St ([rdW r y.1 y.2.1 y.2.2] ++ F) w := sep_flat ⟨h1, h2, hd, a1, a2, hp, hF⟩
 refine (h _ _ _ F w hs').mono ?_
 rintro e w' ⟨u, L, ⟨k', e', h3, rfl, rfl⟩, he, hs2, hk⟩
 refine ⟨_, _, ⟨rfl, rfl⟩, he, sep_imp (fun hh hq => ⟨(y.1, (k', e')), h3, hh, fun _ => none, fun _ => .inr rfl, fun _ _ e => e, fun _ _ e => (by cases e), hq, trivial⟩) hs2, hk⟩
theorem Fn.rdEnd {f : FuncId} {args : Array Value} {r : Nat} (h : ∀ s k e, Fn P f args [rdW r s k e] fun u L => ∃ e1, (e1 = 0 ↔ stW s k e = some []) ∧ u = vint e1 ∧ L = [rdW r s k e1]) (st : Rs) :
  Fn P f args [rdR r st] fun u L => ∃ e1, (e1 = 0 ↔ st = some []) ∧ u = vint e1 ∧ ∃ st', L = [rdR r st'] := by
 intro F w hs
 obtain ⟨h1, h2, hd, a1, a2, ⟨y, hy, hp⟩, hF⟩ := hs
 subst hy
 have hs' : St ([rdW r y.1 y.2.1 y.2.2] ++ F) w := sep_flat ⟨h1, h2, hd, a1, a2, hp, hF⟩
 refine (h _ _ _ F w hs').mono ?_
 rintro e w' ⟨u, L, ⟨e1, h3, rfl, rfl⟩, he, hs2, hk⟩
 refine ⟨_, _, ⟨e1, h3, rfl, _, rfl⟩, he, sep_imp (fun hh hq => ⟨(y.1, (y.2.1, e1)), rfl, hh, fun _ => none, fun _ => .inr rfl, fun _ _ e => e, fun _ _ e => (by cases e), hq, trivial⟩) hs2, hk⟩
theorem rdW_up {r : Nat} {s : Bs} {k : Nat} {e : Int} {h : Hp} (hp : sep [rdW r s k e] h) : rdR r (stW s k e) h := ⟨(s, (k, e)), rfl, hp⟩
theorem G.rdUpF {r : Nat} {s : Bs} {k : Nat} {e : Int} {st : Rs} (hL : Pick (rdW r s k e) L R) (hs : stW s k e = st) (h : G W n ds E (rdR r st :: R) X) : G W n ds E L X := by
 subst hs; exact G.fold (.cons hL .nil) (fun _ hp => rdW_up hp) h
end
theorem slR_mid {b i j c : Nat} {s : Bs} {h : Hp} (hi : i ≤ j) (hj : j ≤ s.length) (hp : bytR (.slice (some ⟨b, 0, none⟩) s.length c) s h) : rdS 1 h (.slice (some (if c = i then ⟨b, 0, none⟩ else ⟨b, 0 + i * 1, none⟩)) (j - i) (c - i)) ((s.take j).drop i).length (((s.take j).drop i).map vbyte) := by
 obtain ⟨⟨rest, fr⟩, h1, h2, h3, h4, h5⟩ := slR_get hp
 have hl : ((s.take j).drop i).length = j - i := by rw [List.length_drop, List.length_take]; omega
 rcases Nat.lt_or_ge i j with g | g
 ·refine .inr ⟨b, i, c - i, bysL s ++ rest, 5, fr, ?_, h1, ?_, ?_, by omega⟩
  ·rw [if_neg (by omega), hl]; simp
  ·rw [hl, Nat.mul_one, List.drop_append_of_le_length (by simp [bysL]; omega), List.take_append_of_le_length (by simp [bysL]; omega)]
   unfold bysL
   rw [← List.map_drop, ← List.map_take, List.drop_take]
  ·rw [hl]; simp [bysL]; omega
 ·refine .inl ⟨by omega, ?_, ?_⟩
  ·rw [List.drop_eq_nil_of_le (by rw [List.length_take]; omega)]; rfl
  ·rw [show j - i = 0 by omega]; exact ⟨_, _, rfl⟩
/-! ### Bits -/
theorem u64wrap (x : Int) : IntKind.u64.wrap x = x % 18446744073709551616 := rfl
theorem u8wrap (x : Int) : IntKind.u8.wrap x = x % 256 := rfl
theorem bv8_or : ∀ b : BitVec 8, (b ||| 128#8).toNat = b.toNat % 128 + 128 := by decide +kernel
theorem byte_or (u : Nat) : Value.int .u8 (IntKind.u8.wrap (BitVec.ofInt IntKind.u8.bits (IntKind.u8.wrap (u : Int)) ||| BitVec.ofInt IntKind.u8.bits 128).toNat) = vbyte (UInt8.ofNat (u % 128 + 128)) := by
 show Value.int .u8 _ = Value.int .u8 _
 congr 1
 have h : (BitVec.ofInt 8 (IntKind.u8.wrap (u : Int)) ||| BitVec.ofInt 8 128).toNat = u % 128 + 128 := by
  rw [show BitVec.ofInt 8 128 = 128#8 from rfl, bv8_or, BitVec.toNat_ofInt, u8wrap]
  omega
 show IntKind.u8.wrap ((BitVec.ofInt 8 (IntKind.u8.wrap (u : Int)) ||| BitVec.ofInt 8 128).toNat : Int) = _
 rw [h, u8wrap, u8_ofNat (by omega)]
 omega
theorem byte_low {u : Nat} (h : u < 128) : Value.int .u8 (IntKind.u8.wrap (u : Int)) = vbyte (UInt8.ofNat u) := by
 show Value.int .u8 _ = Value.int .u8 _
 rw [u8wrap, u8_ofNat (by omega)]
 congr 1; omega
theorem zig_bits {n : Int} (h : -9223372036854775808 ≤ n ∧ n ≤ 9223372036854775807) : IntKind.u64.wrap (BitVec.ofInt IntKind.u64.bits (IntKind.u64.wrap (IntKind.u64.wrap n * 2 ^ min (1 : Int).toNat IntKind.u64.bits)) ^^^ BitVec.ofInt IntKind.u64.bits (IntKind.u64.wrap (n.fdiv (2 ^ min (63 : Int).toNat IntKind.i64.bits)))).toNat = (zigZ n : Int) := by
 have e1 : (2 : Int) ^ min (1 : Int).toNat IntKind.u64.bits = 2 := rfl
 have e2 : (2 : Int) ^ min (63 : Int).toNat IntKind.i64.bits = 9223372036854775808 := rfl
 rw [e1, e2, Int.fdiv_eq_ediv_of_nonneg _ (by decide)]
 show IntKind.u64.wrap ((BitVec.ofInt 64 (IntKind.u64.wrap (IntKind.u64.wrap n * 2)) ^^^ BitVec.ofInt 64 (IntKind.u64.wrap (n / 9223372036854775808))).toNat : Int) = _
 unfold zigZ
 by_cases h0 : 0 ≤ n
 ·rw [if_pos h0, show n / 9223372036854775808 = 0 by omega, show BitVec.ofInt 64 (IntKind.u64.wrap 0) = 0#64 from rfl, BitVec.xor_zero, BitVec.toNat_ofInt, u64wrap, u64wrap, u64wrap]
  omega
 ·rw [if_neg h0, show n / 9223372036854775808 = -1 by omega, show BitVec.ofInt 64 (IntKind.u64.wrap (-1)) = BitVec.allOnes 64 from rfl, BitVec.xor_allOnes, BitVec.toNat_not, BitVec.toNat_ofInt, u64wrap, u64wrap, u64wrap]
  omega
theorem u64_and1 (u : Nat) : IntKind.u64.wrap (BitVec.ofInt IntKind.u64.bits (u : Int) &&& BitVec.ofInt IntKind.u64.bits 1).toNat = ((u % 2 : Nat) : Int) := by
 show IntKind.u64.wrap ((BitVec.ofInt 64 (u : Int) &&& BitVec.ofInt 64 1).toNat : Int) = _
 have h : (BitVec.ofInt 64 (u : Int) &&& BitVec.ofInt 64 1).toNat = u % 2 := by
  rw [BitVec.toNat_and, show (BitVec.ofInt 64 1).toNat = 1 from rfl, Nat.and_one_is_mod, BitVec.toNat_ofInt]
  have e : ((2 ^ 64 : Nat) : Int) = 18446744073709551616 := rfl
  rw [e]; omega
 rw [h, u64wrap]; omega
theorem zag_bits {u : Nat} (h : u < U64) : IntKind.i64.wrap (BitVec.ofInt IntKind.i64.bits (IntKind.i64.wrap ((u : Int).fdiv (2 ^ min (1 : Int).toNat IntKind.u64.bits))) ^^^ BitVec.ofInt IntKind.i64.bits (-((u % 2 : Nat) : Int))).toNat = zagZ u := by
 have e1 : (2 : Int) ^ min (1 : Int).toNat IntKind.u64.bits = 2 := rfl
 have e64 : ((2 ^ 64 : Nat) : Int) = 18446744073709551616 := rfl
 unfold U64 at h
 rw [e1, Int.fdiv_eq_ediv_of_nonneg _ (by decide)]
 show IntKind.i64.wrap ((BitVec.ofInt 64 (IntKind.i64.wrap ((u : Int) / 2)) ^^^ BitVec.ofInt 64 (-((u % 2 : Nat) : Int))).toNat : Int) = _
 have e3 : IntKind.i64.wrap ((u : Int) / 2) = (u : Int) / 2 := i64w (by omega)
 rw [e3]
 unfold zagZ
 by_cases h0 : u % 2 = 0
 ·rw [if_pos h0, h0, show BitVec.ofInt 64 (-((0 : Nat) : Int)) = 0#64 from rfl, BitVec.xor_zero, BitVec.toNat_ofInt, wrap64, e64]
  omega
 ·rw [if_neg h0, show u % 2 = 1 by omega, show BitVec.ofInt 64 (-((1 : Nat) : Int)) = BitVec.allOnes 64 from rfl, BitVec.xor_allOnes, BitVec.toNat_not, BitVec.toNat_ofInt, wrap64, e64]
  omega
theorem bv8_and : ∀ b : BitVec 8, (b &&& 127#8).toNat = b.toNat % 128 := by decide +kernel
theorem byte_and (c : UInt8) : IntKind.u64.wrap (IntKind.u8.wrap (BitVec.ofInt IntKind.u8.bits (c.toNat : Int) &&& BitVec.ofInt IntKind.u8.bits 127).toNat) = ((c.toNat % 128 : Nat) : Int) := by
 have hc := c.toNat_lt
 have h : (BitVec.ofInt 8 (c.toNat : Int) &&& BitVec.ofInt 8 127).toNat = c.toNat % 128 := by
  rw [show BitVec.ofInt 8 127 = 127#8 from rfl, bv8_and, BitVec.toNat_ofInt]
  have e : ((2 ^ 8 : Nat) : Int) = 256 := rfl
  rw [e]; omega
 show IntKind.u64.wrap (IntKind.u8.wrap ((BitVec.ofInt 8 (c.toNat : Int) &&& BitVec.ofInt 8 127).toNat : Int)) = _
 rw [h, u8wrap, u64wrap]; omega
theorem pow7 (k : Nat) : (2 : Nat) ^ (7 * k) = 128 ^ k := by rw [Nat.pow_mul]
theorem sev_bits {k u x : Nat} (hk : k ≤ 9) (hu : u < 128 ^ k) (hx : x < 128) (h9 : k = 9 → x ≤ 1) :
  IntKind.u64.wrap (BitVec.ofInt IntKind.u64.bits (u : Int) ||| BitVec.ofInt IntKind.u64.bits (IntKind.u64.wrap ((x : Int) * 2 ^ min (7 * (k : Int)).toNat IntKind.u64.bits))).toNat = ((u + x * 128 ^ k : Nat) : Int) := by
 have em : min (7 * (k : Int)).toNat IntKind.u64.bits = 7 * k := by
  have : IntKind.u64.bits = 64 := rfl
  omega
 have hb : x * 128 ^ k < 18446744073709551616 := by
  rcases Nat.lt_or_ge k 9 with g | g
  ·have h4 : 128 ^ k ≤ 128 ^ 8 := Nat.pow_le_pow_right (by decide) (by omega)
   have e8 : (128 : Nat) ^ 8 = 72057594037927936 := by decide
   have : x * 128 ^ k ≤ 127 * 128 ^ 8 := Nat.mul_le_mul (by omega) h4
   omega
  ·have : k = 9 := by omega
   subst this
   have := h9 rfl
   have e9 : (128 : Nat) ^ 9 = 9223372036854775808 := by decide
   have : x * 128 ^ 9 ≤ 1 * 128 ^ 9 := Nat.mul_le_mul_right _ (by omega)
   omega
 have hu64 : u < 18446744073709551616 := by
  have h4 : 128 ^ k ≤ 128 ^ 9 := Nat.pow_le_pow_right (by decide) hk
  have e9 : (128 : Nat) ^ 9 = 9223372036854775808 := by decide
  omega
 have hs : u + x * 128 ^ k < 18446744073709551616 := by
  rcases Nat.lt_or_ge k 9 with g | g
  ·have h4 : 128 ^ (k + 1) ≤ 128 ^ 9 := Nat.pow_le_pow_right (by decide) (by omega)
   have e9 : (128 : Nat) ^ 9 = 9223372036854775808 := by decide
   have : x * 128 ^ k ≤ 127 * 128 ^ k := Nat.mul_le_mul_right _ (by omega)
   rw [Nat.pow_succ] at h4
   omega
  ·have : k = 9 := by omega
   subst this
   have := h9 rfl
   have e9 : (128 : Nat) ^ 9 = 9223372036854775808 := by decide
   have : x * 128 ^ 9 ≤ 1 * 128 ^ 9 := Nat.mul_le_mul_right _ (by omega)
   omega
 rw [em]
 have e2 : (x : Int) * 2 ^ (7 * k) = ((x * 128 ^ k : Nat) : Int) := by
  rw [← pow7]; simp
 have e4 : IntKind.u64.wrap ((x * 128 ^ k : Nat) : Int) = ((x * 128 ^ k : Nat) : Int) := by rw [u64wrap]; exact Int.emod_eq_of_lt (by omega) (by omega)
 rw [e2, e4]
 show IntKind.u64.wrap ((BitVec.ofInt 64 (u : Int) ||| BitVec.ofInt 64 ((x * 128 ^ k : Nat) : Int)).toNat : Int) = _
 have e3 : (BitVec.ofInt 64 (u : Int) ||| BitVec.ofInt 64 ((x * 128 ^ k : Nat) : Int)).toNat = u + x * 128 ^ k := by
  have e64 : ((2 ^ 64 : Nat) : Int) = 18446744073709551616 := rfl
  have f1 : (BitVec.ofInt 64 (u : Int)).toNat = u := by rw [BitVec.toNat_ofInt, e64]; omega
  have f2 : (BitVec.ofInt 64 ((x * 128 ^ k : Nat) : Int)).toNat = x * 128 ^ k := by rw [BitVec.toNat_ofInt, e64]; omega
  rw [BitVec.toNat_or, f1, f2, Nat.or_comm, ← pow7, ← Nat.shiftLeft_eq, ← Nat.shiftLeft_add_eq_or_of_lt (by rw [pow7]; exact hu), Nat.add_comm]
 rw [e3, u64wrap]
 omega
def FEq (P : Program) (d : Nat) (xs ys : Array Value) (f : Field) (r : Bool) : Prop :=
 f.name ≠ "_" ∧ ∀ w, ∃ a b, (part f.type xs f.offset).run P w = .ok a w ∧ (part f.type ys f.offset).run P w = .ok b w ∧ (Op.equalIn d f.type a b).run P w = .ok r w
inductive FEqs (P : Program) (d : Nat) (xs ys : Array Value) : List Field → List Bool → Prop
 | nil : FEqs P d xs ys [] []
 | cons {f fs r rs} : FEq P d xs ys f r → FEqs P d xs ys fs rs → FEqs P d xs ys (f :: fs) (r :: rs)
section parts
variable {P : Program} {w : World}
end parts
section
variable {P : Program} {E : Env} {L R : List HP} {ty : TypeId} {w : World}
end
/-! ### Structs of bigger parts -/
def placesN (P : Program) (fs : Array Field) : Option (List (Nat × Nat)) := fs.toList.mapM fun f => (P.info? f.type).map fun i => (f.offset, i.size)
theorem mapM_placesN {P : Program} {fs : Array Field} {pl : List (Nat × Nat)} (h : placesN P fs = some pl) (w : World) : (fs.mapM (m := Sem) fun f => do pure (f.offset, ← sizeOf f.type)).run P w = .ok pl.toArray w := by
 have key : ∀ (l : List Field) (pl : List (Nat × Nat)), (l.mapM fun f => (P.info? f.type).map fun i => (f.offset, i.size)) = some pl → (l.mapM (m := Sem) fun f => do pure (f.offset, ← sizeOf f.type)).run P w = .ok pl w := by
  intro l
  induction l with
  | nil => intro pl h; simp at h; subst h; rfl
  | cons f l ih =>
   intro pl h
   rw [List.mapM_cons] at h
   simp only [bind, Option.bind_eq_some_iff, pure, Option.some.injEq, Option.map_eq_some_iff] at h
   obtain ⟨a, ⟨i, hi, rfl⟩, bs, hb, rfl⟩ := h
   rw [List.mapM_cons]
   have h2 : sizeOf' P f.type = some i.size := by unfold sizeOf'; rw [hi]; rfl
   rw [run_bind (a := (f.offset, i.size)) (w' := w) (by rw [run_bind (run_sizeOf h2)]; rfl), run_bind (ih bs hb)]
   rfl
 have hm : (fs.mapM (m := Sem) fun f => do pure (f.offset, ← sizeOf f.type)) = (Functor.map List.toArray (fs.toList.mapM (m := Sem) fun f => do pure (f.offset, ← sizeOf f.type))) := by
  rw [Array.mapM_eq_mapM_toList]
 rw [hm]
 rw [show (Functor.map List.toArray (fs.toList.mapM (m := Sem) fun f => do pure (f.offset, ← sizeOf f.type)) : Sem _) = ((fs.toList.mapM (m := Sem) fun f => do pure (f.offset, ← sizeOf f.type)) >>= fun l => pure l.toArray) from rfl]
 rw [run_bind (key _ _ h)]
 rfl
theorem Quiet.buildN {P : Program} {E : Env} {L : List HP} {ty : TypeId} {t : TypeId} {parts : Array (Nat × Operand)} {fs : Array Field} {pl : List (Nat × Nat)} {zl cells : List Value} {us : List (Nat × Value)} (hus : P.underlying t = some (.struct fs)) (hpl : placesN P fs = some pl) (hz : zeroOf P t = some (.agg zl.toArray))
  (hu : parts.toList.map (fun p => (p.1, ev E p.2)) = us.map (fun p => (p.1, some p.2))) (hfill : Instr.fill (fun i => pl.toArray[i]?) zl.toArray us = some cells.toArray) : Quiet P ⟨none, .build t parts, ty, "", #[], none⟩ E L (.agg cells.toArray) := by
 intro ρ w ha _
 refine run_v ?_
 show (Instr.build t (parts.map fun p => (p.1, ρ p.2))).run P w = _
 unfold Instr.build
 rw [run_bind (run_zero hz)]
 dsimp only
 rw [run_bind (run_underlying hus)]
 dsimp only
 rw [run_bind (mapM_placesN hpl w)]
 have hparts : (parts.map fun p => (p.1, ρ p.2)).toList = us := by
  rw [Array.toList_map]; exact agree_parts ha _ _ hu
 rw [hparts]
 rw [show Value.cells (.agg zl.toArray) = zl.toArray from rfl, hfill]
 rfl
/-! ### Keys -/
theorem cnew_spec : Fn Tryz.prog 136 #[] [] fun v L => ∃ w, v = vptr w ∧ L = [wrR w []] := by
 refine Fn.intro Tryz.func136 rfl rfl fun F W => ?_
 refine .sr (.an rfl (.sr (.q (.to (v' := .agg [.slice none 0 0, vint 0].toArray) (.buildN (pl := [(0, 2)]) (us := []) (cells := [.slice none 0 0, vint 0]) Tryz.underlying228 (by kernel_rfl) ze_228 rfl rfl) rfl) rfl (.oq (.box rfl) ?_))))
 rintro v L' ⟨w, rfl, rfl⟩
 refine .an rfl (.ret (.add (slR_nil 5 1) (.wrFold (w := w) [] (a := none) (c := 0) (m := 0) (by repeat' constructor) rfl rfl rfl ?_)))
 exact .dn rfl rfl ⟨w, rfl, rfl⟩
theorem cput_spec (w : Nat) (bs cs : Bs) (va : Value) (p : HP) (hp : ∀ h : Hp, p h → rdS 1 h va cs.length (bysL cs)) (hl : bs.length + cs.length ≤ 70368744177664) : Fn Tryz.prog 224 #[vptr w, va] [wrR w bs, p] fun v L => v = .tuple #[] ∧ L = [wrR w (bs ++ cs), p] := by
 refine Fn.intro Tryz.func224 rfl rfl fun F W => ?_
 refine .wrOpen (by repeat' constructor) fun wa wc => (.region (.m rfl (.m rfl (.nf rfl fo_226_0 (.u (.ld rfl ag_159) (.m rfl (.oq (.append (n := bs.length) (m := cs.length) (ys := bysL cs) (p := p) rfl rfl rfl el_159 (.inl ⟨_, Tryz.underlying159⟩) ze_5 rfl rfl ?hc7 hp ?hb8 (by decide)) ?_)))))))
 case hc7 => exact bysL_cell _
 case hb8 => omega
 rintro v L' ⟨⟨a6, c6, rfl⟩, rfl⟩
 refine .nf rfl fo_226_0 (.st rfl rfl rfl sz_159 ?_)
 refine .nil (.done_n (.wrFold (w := w) (bs ++ cs) (a := a6) (c := c6) (by repeat' constructor) (by rfl) (by simp) (by rw [bysL_append]) ?_))
 exact .vv
theorem sev_step {u : Nat} (h : 127 < u) (bs : Bs) : bs ++ [UInt8.ofNat (u % 128 + 128)] ++ sevZ (u / 128) = bs ++ sevZ u := by
 rw [sevZ.eq_1 u, if_neg (by omega), List.append_assoc]; rfl
theorem sev_last {u : Nat} (h : ¬ 127 < u) (bs : Bs) : bs ++ [UInt8.ofNat u] = bs ++ sevZ u := by
 rw [sevZ.eq_1 u, if_pos (by omega)]
theorem shr7 (u : Nat) : Value.int .u64 ((u : Int).fdiv (2 ^ min (7 : Int).toNat IntKind.u64.bits)) = .int .u64 ((u / 128 : Nat) : Int) := by
 have e1 : (2 : Int) ^ min (7 : Int).toNat IntKind.u64.bits = 128 := rfl
 rw [e1, Int.fdiv_eq_ediv_of_nonneg _ (by decide)]; rfl
theorem csevens_spec (w : Nat) (bs0 : Bs) (u0 : Nat) (hu : u0 < U64) (hl : bs0.length ≤ 70368744177568) : Fn Tryz.prog 191 #[vptr w, .int .u64 u0] [wrR w bs0] fun v L => v = .tuple #[] ∧ L = [wrR w (bs0 ++ sevZ u0)] := by
 refine Fn.intro Tryz.func191 rfl rfl fun F W => ?_
 have hs10 := sev_len10 hu
 refine .seq (.block (.loopK (ι := Nat × Bs) (fun q E => (1, .int .u64 q.1) :: E) (fun q => [wrR w q.2]) (fun q => q.1 ≤ u0 ∧ q.2 ++ sevZ q.1 = bs0 ++ sevZ u0) (fun q => q.1) (u0, bs0) (ts := [0]) (.cons rfl (.nil)) (⟨Nat.le_refl _, rfl⟩) ⟨rfl, rfl, trivial⟩ (by repeat' constructor) ?_))
 rintro ⟨u, bs⟩ ⟨hu0, heq⟩
 dsimp only
 dsimp only at hu0 heq
 have hbl := congrArg List.length heq
 simp only [List.length_append] at hbl
 have hsl := sev_len u
 refine .seq (.sm rfl (.ui rfl rfl rfl (.nt (.condD rfl (fun h5 => ?_) (fun h5 => ?_)))))
 ·have h127 : 127 < u := by omega
  refine .sk (.seq (.block (.region (.m rfl (.nf rfl fo_228_0 (.m rfl (.q (.conv rfl Tryz.underlying202 Tryz.underlying5) rfl (.q (.as (v' := vbyte (UInt8.ofNat (u % 128 + 128))) (by exact byte_or u) (.or rfl rfl)) rfl (.oq (.buildSlice1 (vs := [_]) el_159 ze_5 rfl rfl rfl rfl rfl (by decide)) ?_)))))))))
  rintro v L' ⟨b2, rfl, rfl⟩
  refine .slMake (b := b2) (n := 1) (c := 1) (xs := [vbyte (UInt8.ofNat (u % 128 + 128))]) (by repeat' constructor) (by decide) (by simp) rfl (.oq (.call Tryz.func224 rfl rfl (vs := [_, _]) rfl (cput_spec w bs [(UInt8.ofNat (u % 128 + 128))] _ (slR 5 1 (.slice (some ⟨b2, 0, none⟩) 1 1) 1 [vbyte (UInt8.ofNat (u % 128 + 128))]) (fun h hp => slR_rd hp) (by simp; omega))) ?_)
  rintro v L' ⟨rfl, rfl⟩
  refine .nil (.blk_n (.then_n (.region (.m rfl (.q (.as (v' := .int .u64 ((u / 128 : Nat) : Int)) (by exact shr7 u) (.shr rfl rfl (by first | decide | omega))) rfl (.an rfl ?_))))))
  exact .rk ((u / 128, bs ++ [(UInt8.ofNat (u % 128 + 128))])) (⟨by dsimp only; omega, by dsimp only; rw [sev_step (by omega)]; exact heq⟩) (by dsimp only; omega) ⟨rfl, rfl, trivial⟩
 have h127 : ¬ 127 < u := by omega
 refine .exit (.then_e (.then_e (.blk_e (.then_n (.region (.m rfl (.nf rfl fo_228_0 (.m rfl (.q (.as (v' := vbyte (UInt8.ofNat u)) (by exact byte_low (by omega)) (.conv rfl Tryz.underlying202 Tryz.underlying5)) rfl (.oq (.buildSlice1 (vs := [_]) el_159 ze_5 rfl rfl rfl rfl rfl (by decide)) ?_))))))))))
 rintro v L' ⟨b3, rfl, rfl⟩
 refine .slMake (b := b3) (n := 1) (c := 1) (xs := [vbyte (UInt8.ofNat u)]) (by repeat' constructor) (by decide) (by simp) rfl (.oq (.call Tryz.func224 rfl rfl (vs := [_, _]) rfl (cput_spec w bs [(UInt8.ofNat u)] _ (slR 5 1 (.slice (some ⟨b3, 0, none⟩) 1 1) 1 [vbyte (UInt8.ofNat u)]) (fun h hp => slR_rd hp) (by simp; omega))) ?_)
 rintro v L' ⟨rfl, rfl⟩
 refine .nil (.done_n ?_)
 rw [sev_last h127, heq]
 exact .vv
theorem cnum_spec (w : Nat) (bs : Bs) (n : Int) (hn : -9223372036854775808 ≤ n ∧ n ≤ 9223372036854775807) (hl : bs.length ≤ 70368744177568) : Fn Tryz.prog 137 #[vptr w, vint n] [wrR w bs] fun v L => v = .tuple #[] ∧ L = [wrR w (bs ++ numB n)] := by
 refine Fn.intro Tryz.func137 rfl rfl fun F W => ?_
 have hz := zig_lt hn
 refine .region (.m rfl (.m rfl (.q (.conv rfl Tryz.underlying3 Tryz.underlying202) rfl (.q (.shl rfl rfl (by first | decide | omega)) rfl (.m rfl (.q (.shr rfl rfl (by first | decide | omega)) rfl (.q (.conv rfl Tryz.underlying3 Tryz.underlying202) rfl (.q (.as (v' := .int .u64 (zigZ n : Nat)) (by exact congrArg (Value.int .u64) (zig_bits hn)) (.xor rfl rfl)) rfl (.oq (.c Tryz.func191 [_, _] (csevens_spec _ _ _ ?hu9 ?hl10)) ?_)))))))))
 case hu9 => assumption
 case hl10 => omega
 rintro v L' ⟨rfl, rfl⟩
 refine .nil (.done_n ?_)
 exact .vv
theorem ccount_spec (w : Nat) (bs : Bs) (n : Nat) (hn : n ≤ 70368744177664) (hl : bs.length ≤ 70368744177568) : Fn Tryz.prog 138 #[vptr w, vint n] [wrR w bs] fun v L => v = .tuple #[] ∧ L = [wrR w (bs ++ cntB n)] := by
 refine Fn.intro Tryz.func138 rfl rfl fun F W => ?_
 have hz : n < U64 := by unfold U64; omega
 refine .region (.m rfl (.m rfl (.u (.max2 rfl rfl) (.q (.as (v' := .int .u64 (n : Nat)) (by exact congrArg (Value.int .u64) (by rw [u64wrap]; omega)) (.conv rfl Tryz.underlying3 Tryz.underlying202)) rfl (.oq (.c Tryz.func191 [_, _] (csevens_spec _ _ _ ?hu5 ?hl6)) ?_)))))
 case hu5 => assumption
 case hl6 => omega
 rintro v L' ⟨rfl, rfl⟩
 refine .nil (.done_n ?_)
 exact .vv
theorem ctext_spec (w : Nat) (bs s : Bs) (hl : bs.length + s.length ≤ 70368744177368) : Fn Tryz.prog 234 #[vptr w, vstr s] [wrR w bs] fun v L => v = .tuple #[] ∧ L = [wrR w (bs ++ txtB s)] := by
 refine Fn.intro Tryz.func234 rfl rfl fun F W => ?_
 have hc : (cntB s.length).length ≤ 10 := sev_len10 (by unfold U64; omega)
 refine .sm rfl (.m rfl (.q (.strlen rfl Tryz.underlying9 rfl) rfl (.oq (.c Tryz.func138 [_, _] (ccount_spec _ _ _ ?hn4 ?hb5)) ?_)))
 case hn4 => first | assumption | omega
 case hb5 => omega
 rintro v L' ⟨rfl, rfl⟩
 refine .nt (.region (.m rfl (.nf rfl fo_228_0 (.m rfl (.oq (.strBytes rfl Tryz.underlying9 Tryz.underlying159 Tryz.underlying5) ?_)))))
 rintro v L' ⟨rfl, b8, c8, rfl⟩
 refine .oq (.call Tryz.func224 rfl rfl (vs := [_, _]) rfl (cput_spec w (bs ++ cntB s.length) s _ (slR 5 1 (.slice (some ⟨b8, 0, none⟩) s.length c8) s.length (s.map vbyte)) (fun h hp => slR_rd hp) (by simp; omega))) ?_
 rintro v L' ⟨rfl, rfl⟩
 refine .nil (.done_n ?_)
 rw [List.append_assoc]
 exact .vv
theorem cbytes_spec (w : Nat) (bs : Bs) : Fn Tryz.prog 139 #[vptr w] [wrR w bs] fun v L => v = vstr bs ∧ L = [wrR w bs] := by
 refine Fn.intro Tryz.func139 rfl rfl fun F W => ?_
 refine .wrOpen (by repeat' constructor) fun wa wc => (.sr (.an rfl (.sm rfl (.nf rfl fo_228_0 (.u (.fieldAddr rfl fo_226_0) (.u (.ld rfl ag_159) (.q (.bytesBy (cs := bs) (n := bs.length) (p := bytR (.slice wa bs.length wc) bs) rfl Tryz.underlying159 Tryz.underlying5 Tryz.underlying9 (fun h hp => slR_rd hp) (by repeat' constructor)) rfl (.an rfl (.ret (.wrFold (w := w) bs (by repeat' constructor) rfl rfl rfl ?_))))))))))
 exact .vv
theorem rleft_spec (r : Nat) (s : Bs) (k : Nat) (e : Int) : Fn Tryz.prog 217 #[vptr r] [rdW r s k e] fun v L => v = vint ((s.length : Int) - k) ∧ L = [rdW r s k e] := by
 refine Fn.intro Tryz.func217 rfl rfl fun F W => ?_
 refine .rdOpen (by repeat' constructor) fun ra rc hkl hsz => (.sr (.an rfl (.seq (.draw [] [[0, 1, 2, 3, 4, 5, 6, 7, 8, 9, 10]] mixed (by kernel_rfl) (.g0 (.mv rfl rfl (.nf rfl rfl rfl fo_226_0 (.kv rfl (.ld rfl ag_159) (.kv rfl (.slen rfl Tryz.underlying159 rfl) (.mv rfl rfl (.nf rfl rfl rfl fo_226_1 (.kv rfl (.ld rfl ag_3) (.kv rfl (.sub rfl rfl (by omega)) (.kv rfl (.assign rfl) (.pf (.ret (.rdFold (r := r) s (k) (e) (by repeat' constructor) (by first | rfl | (simp only [List.set]; congr; omega)) (by omega) hsz ?_)))))))))))))))))
 exact .vv
theorem rfails_spec (r : Nat) (s : Bs) (k : Nat) (e e' : Int) : Fn Tryz.prog 237 #[vptr r, vint e'] [rdW r s k e] fun v L => v = .tuple #[] ∧ L = [rdW r s k (if e = 0 then e' else e)] := by
 refine Fn.intro Tryz.func237 rfl rfl fun F W => ?_
 refine .rdOpen (by repeat' constructor) fun ra rc hkl hsz => (.sm rfl (.nf rfl fo_253_1 (.u (.ld rfl ag_60) (.ui rfl rfl rfl (.nt (.condD rfl (fun h8 => ?_) (fun h8 => ?_)))))))
 ·refine .region (.m rfl (.m rfl (.nf rfl fo_253_1 (.st rfl rfl rfl sz_60 ?_))))
  refine .nil (.done_n (.rdFold (r := r) s (k) (if e = 0 then e' else e) (by repeat' constructor) (by rw [if_pos h8]; rfl) (by omega) hsz ?_))
  exact .vv
 refine .skip (.done_n (.rdFold (r := r) s (k) (if e = 0 then e' else e) (by repeat' constructor) (by rw [if_neg h8]) (by omega) hsz ?_))
 exact .vv
theorem rfail_spec (r : Nat) (s : Bs) (k : Nat) (e : Int) : Fn Tryz.prog 218 #[vptr r] [rdW r s k e] fun v L => v = .tuple #[] ∧ L = [rdW r s k (if e = 0 then 11 else e)] := by
 refine Fn.intro Tryz.func218 rfl rfl fun F W => ?_
 refine .region (.m rfl (.cv Tryz.func237 [_, _] (rfails_spec _ _ _ _ _) ?_))
 refine .nil (.done_n ?_)
 exact .vv
def SevA (s : Bs) (k : Nat) (e : Int) (u m : Nat) (e' : Int) : Prop :=
 ((e ≠ 0 ∨ sevP 0 0 (s.drop k) = none) ∧ u = 0 ∧ m = 0 ∧ e' ≠ 0) ∨ (e = 0 ∧ e' = 0 ∧ k + m ≤ s.length ∧ sevP 0 0 (s.drop k) = some (u, s.drop (k + m)))
def badB (k : Nat) (c : UInt8) : Prop := (k = 9 ∧ 1 < c.toNat) ∨ (c.toNat = 0 ∧ 0 < k)
instance (k : Nat) (c : UInt8) : Decidable (badB k c) := inferInstanceAs (Decidable (_ ∨ _))
theorem sevP_at {s : Bs} {k j u : Nat} (h : k + j < s.length) : sevP j u (s.drop (k + j)) = if badB j s[k + j] then none else if s[k + j].toNat < 128 then some (u + s[k + j].toNat % 128 * 128 ^ j, s.drop (k + j + 1)) else sevP (j + 1) (u + s[k + j].toNat % 128 * 128 ^ j) (s.drop (k + j + 1)) := by
 rw [List.drop_eq_getElem_cons h]
 conv => lhs; unfold sevP
 rfl
theorem sevP_out {s : Bs} {k j u : Nat} (h : s.length ≤ k + j) : sevP j u (s.drop (k + j)) = none := by
 rw [List.drop_eq_nil_of_le h]; unfold sevP; rfl
theorem rsevens_spec (r : Nat) (s : Bs) (k : Nat) (e : Int) : Fn Tryz.prog 238 #[vptr r] [rdW r s k e] fun v L => ∃ u m e', SevA s k e u m e' ∧ v = .tuple #[.int .u64 (u : Nat), vint (m : Nat)] ∧ L = [rdW r s k e'] := by
 refine Fn.intro Tryz.func238 rfl rfl fun F W => ?_
 refine .rdOpen (by repeat' constructor) fun ra rc hkl hsz => (.sr (.a rfl (.an rfl (.seq (.sr ?_)))))
 rcases Decidable.em (e = 0) with he0 | he0
 ·subst he0
  refine .m rfl (.nf rfl fo_253_1 (.u (.ld rfl ag_60) (.q (.as (v' := .bool false) (by rfl) (.int rfl rfl rfl)) rfl (.nt (.condF rfl (.sk (.sr (.an rfl (.seq (.sm rfl (.nf rfl fo_253_0 (.rdFold (r := r) s (k) (0) (by repeat' constructor) (by first | rfl | (simp only [List.set]; congr; omega)) (by omega) hsz (.cv Tryz.func217 [_] (rleft_spec r s k 0) ?_)))))))))))))
  refine .m rfl (.nil (.rdOpen (by repeat' constructor) fun ra1 rc1 _ _ => (.then_n (.block (.loopK (ι := Nat × Nat) (fun q E => (16, vint q.1) :: (4, .int .u64 q.2) :: E) (fun q => []) (fun q => k + q.1 ≤ s.length ∧ q.1 ≤ 9 ∧ q.2 < 128 ^ q.1 ∧ sevP q.1 q.2 (s.drop (k + q.1)) = sevP 0 0 (s.drop k)) (fun q => s.length - q.1) (0, 0) (ts := [0, 15]) (.cons rfl (.cons rfl (.nil))) (⟨by dsimp only; omega, by dsimp only; omega, by dsimp only; decide, rfl⟩) ⟨rfl, rfl, rfl, rfl, trivial⟩ (by repeat' constructor) ?_)))))
  rintro ⟨j, u⟩ ⟨hj, hj9, huj, hsv⟩
  dsimp only
  dsimp only at hj hj9 huj hsv
  refine .sr (.ui rfl rfl rfl (.nt (.seq (.condD rfl (fun h17 => ?_) (fun h17 => ?_)))))
  ·have hlt : k + j < s.length := by omega
   have hxl := s[k + j].toNat_lt
   refine .sk (.seq (.block (.sm rfl (.an rfl (.seq (.draw [] [[0, 1, 2, 3, 4, 5, 6, 7, 8, 9, 10, 11, 12, 13, 14]] mixed (by kernel_rfl) (.g0 (.mv rfl rfl (.nf rfl rfl rfl fo_253_0 (.kv rfl (.fieldAddr rfl fo_226_0) (.kv rfl (.ld rfl ag_159) (.mv rfl rfl (.nf rfl rfl rfl fo_253_0 (.kv rfl (.fieldAddr rfl fo_226_1) (.kv rfl (.ld rfl ag_3) (.mv rfl rfl (.kv rfl (.add rfl rfl (by omega)) (.kv rfl (.indexAddr rfl rfl el_159 (by omega)) (.kv rfl (.loadRd (sz := 1) (j := k + j) (p := bytR (.slice _ s.length _) s) (v := vbyte s[k + j]) rfl ag_5 (by repeat' constructor) (fun h hp => slR_rd hp) (by omega) (by simp [bysL, List.getElem?_eq_getElem hlt])) ?_)))))))))))))))))))
   refine D.kv rfl (.assign rfl) (.pf (.seq (.seq (.joinK (ι := Bool) (fun q E => (46, .bool q) :: E) (fun q => []) (fun q => q = decide (badB j s[k + j])) (pre := []) (ts := [0, 4, 5, 6, 15, 16, 17, 18, 19, 20, 21, 22, 23, 24, 25, 26, 27, 28, 29, 30, 31, 32]) (.cons rfl (.cons rfl (.cons rfl (.cons rfl (.cons rfl (.cons rfl (.cons rfl (.cons rfl (.cons rfl (.cons rfl (.cons rfl (.cons rfl (.cons rfl (.cons rfl (.cons rfl (.cons rfl (.cons rfl (.cons rfl (.cons rfl (.cons rfl (.cons rfl (.cons rfl (.nil))))))))))))))))))))))) (by repeat' constructor) ?_ ?_))))
   ·refine .region (.m rfl (.ui rfl rfl rfl (.m rfl (.dec (t := 35) rfl (fun h8_35 => ?_) (fun h8_35 => ?_)))))
    ·refine .kDT (t := 34) rfl h8_35 (.grun (t := 35) rfl rfl rfl (.m rfl (.grun (t := 35) rfl rfl rfl (.ui rfl rfl rfl (.u (.pickT rfl rfl) (.m rfl (.dec (t := 39) rfl (fun h8_39 => ?_) (fun h8_39 => ?_))))))))
     ·refine .kDT (t := 37) rfl h8_39 (.kDT (t := 38) rfl h8_39 (.gk (.gk (.gk (.gskipU (t := 42) rfl rfl rfl (.gskipU (t := 42) rfl rfl rfl (.gk (.u (.pickT rfl rfl) (.nt ?_)))))))))
      exact .mk (true) ((by rw [decide_eq_true]; exact .inl ⟨by omega, by omega⟩)) ⟨rfl, rfl, rfl, rfl, rfl, rfl, rfl, rfl, rfl, rfl, rfl, rfl, rfl, rfl, rfl, rfl, rfl, rfl, rfl, rfl, rfl, rfl, rfl, trivial⟩
     refine .kDF (t := 37) rfl h8_39 (.kDF (t := 38) rfl h8_39 (.grun (t := 39) rfl rfl rfl (.m rfl (.grun (t := 39) rfl rfl rfl (.ui rfl rfl rfl (.grun (t := 39) rfl rfl rfl (.m rfl (.dec (t := 42) rfl (fun h8_42 => ?_) (fun h8_42 => ?_)))))))))
     ·refine .kDT (t := 41) rfl h8_42 (.grun (t := 42) rfl rfl rfl (.m rfl (.grun (t := 42) rfl rfl rfl (.ui rfl rfl rfl (.grun (t := 39) rfl rfl rfl (.u (.pickT rfl rfl) (.u (.pickF rfl rfl) (.nt ?_))))))))
      exact .mk ((decide ((j : Int) > 0))) ((by exact decide_eq_decide.2 ⟨fun g => .inr ⟨by omega, by omega⟩, fun g => by rcases g with ⟨g1, g2⟩ | ⟨g1, g2⟩ <;> omega⟩)) ⟨rfl, rfl, rfl, rfl, rfl, rfl, rfl, rfl, rfl, rfl, rfl, rfl, rfl, rfl, rfl, rfl, rfl, rfl, rfl, rfl, rfl, rfl, rfl, trivial⟩
     refine .kDF (t := 41) rfl h8_42 (.gk (.gk (.grun (t := 39) rfl rfl rfl (.u (.pickF rfl rfl) (.u (.pickF rfl rfl) (.nt ?_))))))
     exact .mk (false) ((by exact (decide_eq_false (by rintro (⟨g1, g2⟩ | ⟨g1, g2⟩) <;> omega)).symm)) ⟨rfl, rfl, rfl, rfl, rfl, rfl, rfl, rfl, rfl, rfl, rfl, rfl, rfl, rfl, rfl, rfl, rfl, rfl, rfl, rfl, rfl, rfl, rfl, trivial⟩
    refine .kDF (t := 34) rfl h8_35 (.gk (.gk (.u (.pickF rfl rfl) (.m rfl (.grun (t := 39) rfl rfl rfl (.m rfl (.grun (t := 39) rfl rfl rfl (.ui rfl rfl rfl (.grun (t := 39) rfl rfl rfl (.m rfl (.dec (t := 42) rfl (fun h8_42 => ?_) (fun h8_42 => ?_))))))))))))
    ·refine .kDT (t := 41) rfl h8_42 (.grun (t := 42) rfl rfl rfl (.m rfl (.grun (t := 42) rfl rfl rfl (.ui rfl rfl rfl (.grun (t := 39) rfl rfl rfl (.u (.pickT rfl rfl) (.u (.pickF rfl rfl) (.nt ?_))))))))
     exact .mk ((decide ((j : Int) > 0))) ((by exact decide_eq_decide.2 ⟨fun g => .inr ⟨by omega, by omega⟩, fun g => by rcases g with ⟨g1, g2⟩ | ⟨g1, g2⟩ <;> omega⟩)) ⟨rfl, rfl, rfl, rfl, rfl, rfl, rfl, rfl, rfl, rfl, rfl, rfl, rfl, rfl, rfl, rfl, rfl, rfl, rfl, rfl, rfl, rfl, rfl, trivial⟩
    refine .kDF (t := 41) rfl h8_42 (.gk (.gk (.grun (t := 39) rfl rfl rfl (.u (.pickF rfl rfl) (.u (.pickF rfl rfl) (.nt ?_))))))
    exact .mk (false) ((by exact (decide_eq_false (by rintro (⟨g1, g2⟩ | ⟨g1, g2⟩) <;> omega)).symm)) ⟨rfl, rfl, rfl, rfl, rfl, rfl, rfl, rfl, rfl, rfl, rfl, rfl, rfl, rfl, rfl, rfl, rfl, rfl, rfl, rfl, rfl, rfl, rfl, trivial⟩
   rintro b hb
   subst hb
   refine .condD rfl (fun h46 => ?_) (fun h46 => ?_)
   ·refine .seq (.rdFold (r := r) s (k) (0) (by repeat' constructor) (by first | rfl | (simp only [List.set]; congr; omega)) (by omega) hsz (.region (.m rfl (.oq (.c Tryz.func237 [_, _] (rfails_spec r s k 0 11)) ?_))))
    rintro v L' ⟨rfl, rfl⟩; rw [if_pos rfl]
    refine .nt (.sr (.a rfl (.an rfl (.rt (.blk_r (.then_r (.then_r (.blk_r (.then_r ?_)))))))))
    exact .dn rfl rfl ⟨0, 0, 11, .inl ⟨.inr (by rw [← hsv, sevP_at hlt, if_pos h46]), rfl, rfl, by decide⟩, rfl, rfl⟩
   have h9 : j = 9 → s[k + j].toNat ≤ 1 := fun g => by rcases Nat.lt_or_ge 1 s[k + j].toNat with g2 | g2; exact absurd (.inl ⟨g, g2⟩) h46; exact g2
   refine .sk (.sm rfl (.m rfl (.u (.and rfl rfl) (.q (.as (v' := .int .u64 ((s[k + j].toNat % 128 : Nat) : Int)) (by exact congrArg (Value.int .u64) (byte_and _)) (.conv rfl Tryz.underlying5 Tryz.underlying202)) rfl (.m rfl (.q (.mul rfl rfl (by omega)) rfl (.q (.shl rfl rfl (by first | decide | omega)) rfl (.q (.as (v' := .int .u64 ((u + s[k + j].toNat % 128 * 128 ^ j : Nat) : Int)) (by exact congrArg (Value.int .u64) (sev_bits hj9 huj (by omega) (fun g => by have := h9 g; omega))) (.or rfl rfl)) rfl (.an rfl (.sm rfl (.ui rfl rfl rfl (.nt (.condD rfl (fun h58 => ?_) (fun h58 => ?_))))))))))))))
   ·refine .sm rfl (.m rfl (.q (.add rfl rfl (by omega)) rfl (.a rfl (.an rfl (.ret (.blk_r (.then_r (.then_r (.blk_r (.then_r (.rdFold (r := r) s (k) (0) (by repeat' constructor) (by first | rfl | (simp only [List.set]; congr; omega)) (by omega) hsz ?_)))))))))))
    exact .dn rfl rfl ⟨_, j + 1, 0, .inr ⟨rfl, rfl, by omega, by rw [← hsv, sevP_at hlt, if_neg h46, if_pos (by omega)]; rfl⟩, rfl, rfl⟩
   refine .skip (.blk_n (.then_n (.region (.q (.add rfl rfl (by omega)) rfl (.m rfl (.nt ?_))))))
   exact .rk ((j + 1, u + s[k + j].toNat % 128 * 128 ^ j)) (⟨by dsimp only; omega, by dsimp only; rcases Nat.lt_or_ge j 9 with g | g; (omega); exact absurd (h9 (by omega)) (by omega), by dsimp only; rw [Nat.pow_succ]; have := Nat.mul_le_mul_right (128 ^ j) (show s[k + j].toNat % 128 ≤ 127 by omega); omega, by dsimp only; rw [← hsv, sevP_at hlt, if_neg h46, if_neg (by omega)]; rfl⟩) (by dsimp only; omega) ⟨rfl, rfl, rfl, rfl, trivial⟩
  refine .exit (.then_e (.then_e (.blk_e (.then_n (.seq (.rdFold (r := r) s (k) (0) (by repeat' constructor) (by first | rfl | (simp only [List.set]; congr; omega)) (by omega) hsz (.region (.m rfl (.oq (.c Tryz.func237 [_, _] (rfails_spec r s k 0 10)) ?_)))))))))
  rintro v L' ⟨rfl, rfl⟩; rw [if_pos rfl]
  refine .nt (.sr (.a rfl (.an rfl (.ret ?_))))
  exact .dn rfl rfl ⟨0, 0, 10, .inl ⟨.inr (by rw [← hsv]; exact sevP_out (by omega)), rfl, rfl, by decide⟩, rfl, rfl⟩
 refine .m rfl (.nf rfl fo_253_1 (.u (.ld rfl ag_60) (.q (.as (v' := .bool true) (by simp [he0]) (.int rfl rfl rfl)) rfl (.nt (.condT rfl (.sr (.a rfl (.an rfl (.rt (.rdFold (r := r) s (k) (e) (by repeat' constructor) (by first | rfl | (simp only [List.set]; congr; omega)) (by omega) hsz ?_))))))))))
 exact .dn rfl rfl ⟨0, 0, e, .inl ⟨.inl he0, rfl, rfl, he0⟩, rfl, rfl⟩
theorem SevA.lt {s : Bs} {k : Nat} {e : Int} {u m : Nat} {e' : Int} (h : SevA s k e u m e') : u < U64 := by
 rcases h with ⟨-, rfl, -⟩ | ⟨-, -, -, h⟩
 ·decide
 ·exact sevP_lt 0 0 _ _ _ h (by decide) (by decide)
theorem SevA.le {s : Bs} {k : Nat} {e : Int} {u m : Nat} {e' : Int} (h : SevA s k e u m e') (hk : k ≤ s.length) : k + m ≤ s.length := by
 rcases h with ⟨-, -, rfl, -⟩ | ⟨-, -, h, -⟩
 ·exact hk
 ·exact h
theorem SevA.num {s : Bs} {k : Nat} {e : Int} {u m : Nat} {e' : Int} (h : SevA s k e u m e') : stW s (k + m) e' = (runP 0 numP (stW s k e)).2 ∧ zagZ u = (runP 0 numP (stW s k e)).1 := by
 rcases h with ⟨h1, rfl, rfl, h2⟩ | ⟨rfl, rfl, -, h⟩
 ·have e2 : stW s (k + 0) e' = none := if_neg h2
  rw [e2]
  rcases h1 with h1 | h1
  ·have e1 : stW s k e = none := if_neg h1
   rw [e1]; exact ⟨rfl, rfl⟩
  ·unfold stW
   split
   ·unfold runP numP; dsimp only; rw [h1]; exact ⟨rfl, rfl⟩
   ·exact ⟨rfl, rfl⟩
 ·have e1 : stW s k 0 = some (s.drop k) := if_pos rfl
  have e2 : stW s (k + m) 0 = some (s.drop (k + m)) := if_pos rfl
  rw [e1, e2]
  unfold runP numP; dsimp only; rw [h]; exact ⟨rfl, rfl⟩
theorem SevA.cntT {s : Bs} {k : Nat} {e : Int} {u m : Nat} {e' : Int} {most : Nat} (h : SevA s k e u m e') (hm : most < u) : runP 0 (cntP most) (stW s k e) = (0, none) := by
 rcases h with ⟨h1, rfl, rfl, h2⟩ | ⟨rfl, rfl, -, h⟩
 ·omega
 ·have e1 : stW s k 0 = some (s.drop k) := if_pos rfl
  rw [e1]
  unfold runP cntP; dsimp only; rw [h]; dsimp only; rw [if_pos hm]
theorem SevA.cntF {s : Bs} {k : Nat} {e : Int} {u m : Nat} {e' : Int} {most : Nat} (h : SevA s k e u m e') (hm : ¬ most < u) : stW s (k + m) e' = (runP 0 (cntP most) (stW s k e)).2 ∧ u = (runP 0 (cntP most) (stW s k e)).1 := by
 rcases h with ⟨h1, rfl, rfl, h2⟩ | ⟨rfl, rfl, -, h⟩
 ·have e2 : stW s (k + 0) e' = none := if_neg h2
  rw [e2]
  rcases h1 with h1 | h1
  ·have e1 : stW s k e = none := if_neg h1
   rw [e1]; exact ⟨rfl, rfl⟩
  ·unfold stW
   split
   ·unfold runP cntP; dsimp only; rw [h1]; exact ⟨rfl, rfl⟩
   ·exact ⟨rfl, rfl⟩
 ·have e1 : stW s k 0 = some (s.drop k) := if_pos rfl
  have e2 : stW s (k + m) 0 = some (s.drop (k + m)) := if_pos rfl
  rw [e1, e2]
  unfold runP cntP; dsimp only; rw [h]; dsimp only; rw [if_neg hm]; exact ⟨rfl, rfl⟩
theorem st_none {s : Bs} {k : Nat} {e x : Int} (hx : x ≠ 0) : stW s k (if e = 0 then x else e) = none := by
 refine if_neg ?_
 split
 ·exact hx
 ·assumption
theorem txt_run {s : Bs} {k : Nat} {e : Int} {most n k1 : Nat} {e1 : Int} (h1 : stW s k1 e1 = (runP 0 (cntP most) (stW s k e)).2) (hn : n = (runP 0 (cntP most) (stW s k e)).1) (hk : k1 ≤ s.length) :
  ((s.length : Int) - k1 < n → runP [] (txtP most) (stW s k e) = ([], none)) ∧ (¬ (s.length : Int) - k1 < n → stW s (k1 + n) e1 = (runP [] (txtP most) (stW s k e)).2 ∧ (s.take (k1 + n)).drop k1 = (runP [] (txtP most) (stW s k e)).1) := by
 cases hst : stW s k e with
 | none =>
  rw [hst] at h1 hn
  have h1 : stW s k1 e1 = none := h1
  have hn : n = 0 := hn
  subst hn
  refine ⟨fun h => by omega, fun _ => ⟨?_, ?_⟩⟩
  ·unfold stW at h1 ⊢
   split at h1
   ·cases h1
   ·rename_i g; rw [if_neg g]; rfl
  ·rw [Nat.add_zero, List.drop_eq_nil_of_le (by rw [List.length_take]; omega)]; rfl
 | some q =>
  rw [hst] at h1 hn
  cases hc : cntP most q with
  | none =>
   have f : runP 0 (cntP most) (some q) = (0, none) := by unfold runP; dsimp only; rw [hc]
   have f2 : runP [] (txtP most) (some q) = ([], none) := by unfold runP txtP; dsimp only; rw [hc]
   rw [f] at h1 hn
   rw [f2]
   have h1 : stW s k1 e1 = none := h1
   have hn : n = 0 := hn
   subst hn
   refine ⟨fun h => by omega, fun _ => ⟨?_, ?_⟩⟩
   ·unfold stW at h1 ⊢
    split at h1
    ·cases h1
    ·rename_i g; rw [if_neg g]
   ·rw [Nat.add_zero, List.drop_eq_nil_of_le (by rw [List.length_take]; omega)]
  | some x =>
   obtain ⟨m, z⟩ := x
   have f : runP 0 (cntP most) (some q) = (m, some z) := by unfold runP; dsimp only; rw [hc]
   rw [f] at h1 hn
   have h1 : stW s k1 e1 = some z := h1
   have hn : n = m := hn
   subst hn
   unfold stW at h1
   split at h1
   ·rename_i g
    subst g
    have h1 : s.drop k1 = z := Option.some.inj h1
    subst h1
    have hl : (s.drop k1).length = s.length - k1 := List.length_drop
    refine ⟨fun h => ?_, fun h => ?_⟩
    ·unfold runP txtP; dsimp only; rw [hc]; dsimp only; rw [if_pos (by omega)]
    ·have e2 : stW s (k1 + n) 0 = some (s.drop (k1 + n)) := if_pos rfl
     have f2 : runP [] (txtP most) (some q) = ((s.drop k1).take n, some ((s.drop k1).drop n)) := by unfold runP txtP; dsimp only; rw [hc]; dsimp only; rw [if_neg (by omega)]
     rw [e2, f2, List.drop_drop, List.drop_take]
     exact ⟨rfl, by rw [show k1 + n - k1 = n by omega]⟩
   ·cases h1
theorem rnumW_spec (r : Nat) (s : Bs) (k : Nat) (e : Int) : Fn Tryz.prog 219 #[vptr r] [rdW r s k e] fun v L => ∃ k' e', stW s k' e' = (runP 0 numP (stW s k e)).2 ∧ v = vint (runP 0 numP (stW s k e)).1 ∧ L = [rdW r s k' e'] := by
 refine Fn.intro Tryz.func219 rfl rfl fun F W => ?_
 refine .sr (.an rfl (.sm rfl (.oq (.c Tryz.func238 [_] (rsevens_spec r s k e)) ?_)))
 rintro v L' ⟨u, m, e', hA, rfl, rfl⟩; have hu := hA.lt
 refine .m rfl (.u (.extract rfl rfl) (.u (.extract rfl rfl) (.a rfl (.an rfl (.seq (.rdOpen (by repeat' constructor) fun ra rc hkl hsz => ?_))))))
 have hkm := hA.le hkl
 refine .region (.m rfl (.nf rfl fo_253_0 (.u (.fieldAddr rfl fo_226_1) (.u (.ld rfl ag_3) (.m rfl (.q (.add rfl rfl (by omega)) rfl (.nf rfl fo_253_0 (.u (.fieldAddr rfl fo_226_1) (.st rfl rfl rfl sz_3 ?_)))))))))
 refine .nt (.sm rfl (.q (.shr rfl rfl (by first | decide | omega)) rfl (.q (.conv rfl Tryz.underlying202 Tryz.underlying3) rfl (.m rfl (.q (.as (v' := .int .u64 ((u % 2 : Nat) : Int)) (by exact congrArg (Value.int .u64) (u64_and1 u)) (.and rfl rfl)) rfl (.q (.as (v' := vint ((u % 2 : Nat) : Int)) (by rw [i64w (by omega)]) (.conv rfl Tryz.underlying202 Tryz.underlying3)) rfl (.q (.neg rfl (by omega)) rfl (.q (.as (v' := vint (zagZ u)) (by exact congrArg (Value.int .i64) (zag_bits hu)) (.xor rfl rfl)) rfl (.an rfl (.ret (.rdFold (r := r) s (k + m) (e') (by repeat' constructor) (by first | rfl | (simp only [List.set]; congr; omega)) (by omega) hsz ?_)))))))))))
 rw [hA.num.2]
 exact .dn rfl rfl ⟨k + m, e', hA.num.1, rfl, rfl⟩
theorem rcountW_spec (r most : Nat) (hm : most ≤ 70368744177664) (s : Bs) (k : Nat) (e : Int) : Fn Tryz.prog 223 #[vptr r, vint most] [rdW r s k e] fun v L => ∃ k' e', stW s k' e' = (runP 0 (cntP most) (stW s k e)).2 ∧ v = vint ((runP 0 (cntP most) (stW s k e)).1 : Nat) ∧ L = [rdW r s k' e'] := by
 refine Fn.intro Tryz.func223 rfl rfl fun F W => ?_
 refine .sr (.an rfl (.sm rfl (.oq (.c Tryz.func238 [_] (rsevens_spec r s k e)) ?_)))
 rintro v L' ⟨u, m, e', hA, rfl, rfl⟩; have hu := hA.lt
 refine .m rfl (.u (.extract rfl rfl) (.u (.extract rfl rfl) (.a rfl (.an rfl (.seq (.sm rfl (.m rfl (.u (.max2 rfl rfl) (.q (.as (v' := .int .u64 (most : Nat)) (by exact congrArg (Value.int .u64) (by rw [u64wrap]; omega)) (.conv rfl Tryz.underlying3 Tryz.underlying202)) rfl (.ui rfl rfl rfl (.nt (.condD rfl (fun h16 => ?_) (fun h16 => ?_)))))))))))))
 ·refine .sm rfl (.cv Tryz.func237 [_, _] (rfails_spec r s k e' 12) ?_)
  refine .nt (.sr (.an rfl (.rt ?_)))
  rw [hA.cntT (most := most) (by omega)]
  exact .dn rfl rfl ⟨k, _, st_none (x := 12) (by decide), rfl, rfl⟩
 refine .sk (.seq (.rdOpen (by repeat' constructor) fun ra rc hkl hsz => ?_))
 have hkm := hA.le hkl
 refine .region (.m rfl (.nf rfl fo_253_0 (.u (.fieldAddr rfl fo_226_1) (.u (.ld rfl ag_3) (.m rfl (.q (.add rfl rfl (by omega)) rfl (.nf rfl fo_253_0 (.u (.fieldAddr rfl fo_226_1) (.st rfl rfl rfl sz_3 ?_)))))))))
 refine .nt (.sm rfl (.q (.as (v' := vint (u : Nat)) (by rw [i64w (by omega)]) (.conv rfl Tryz.underlying202 Tryz.underlying3)) rfl (.an rfl (.ret (.rdFold (r := r) s (k + m) (e') (by repeat' constructor) (by first | rfl | (simp only [List.set]; congr; omega)) (by omega) hsz ?_)))))
 obtain ⟨hc1, hc2⟩ := hA.cntF (most := most) (by omega)
 rw [hc2]
 exact .dn rfl rfl ⟨k + m, e', hc1, rfl, rfl⟩
theorem rtextW_spec (r most : Nat) (hm : most ≤ 70368744177664) (s : Bs) (k : Nat) (e : Int) : Fn Tryz.prog 239 #[vptr r, vint most] [rdW r s k e] fun v L => ∃ k' e', stW s k' e' = (runP [] (txtP most) (stW s k e)).2 ∧ v = vstr (runP [] (txtP most) (stW s k e)).1 ∧ L = [rdW r s k' e'] := by
 refine Fn.intro Tryz.func239 rfl rfl fun F W => ?_
 refine .rdOpen (by repeat' constructor) fun ra rc hkl hsz => (.sr (.an rfl (.sm rfl (.nf rfl fo_253_0 (.u (.fieldAddr rfl fo_226_1) (.u (.ld rfl ag_3) (.a rfl (.nil (.rdFold (r := r) s (k) (e) (by repeat' constructor) (by first | rfl | (simp only [List.set]; congr; omega)) (by omega) hsz (.then_n (.sm rfl (.m rfl (.oq (.c Tryz.func223 [_, _] (rcountW_spec r most hm s k e)) ?_)))))))))))))
 rintro v L' ⟨k1, e1, hs1, rfl, rfl⟩
 obtain ⟨n, hn⟩ : ∃ n, n = (runP 0 (cntP most) (stW s k e)).1 := ⟨_, rfl⟩
 rw [← hn]
 refine .a rfl (.nil (.rdOpen (by repeat' constructor) fun ra2 rc2 hk1 _ => ?_))
 have hrun := txt_run hs1 hn hk1
 refine .rdFold (r := r) s k1 e1 (by repeat' constructor) rfl hk1 hsz (.then_n (.seq (.sm rfl (.nf rfl fo_253_0 (.cv Tryz.func217 [_] (rleft_spec r s k1 e1) ?_)))))
 refine .m rfl (.ui rfl rfl rfl (.nt (.condD rfl (fun h20 => ?_) (fun h20 => ?_))))
 ·refine .seq (.rdOpen (by repeat' constructor) fun ra3 rc3 _ _ => (.region (.m rfl (.m rfl (.nf rfl fo_253_0 (.u (.fieldAddr rfl fo_226_1) (.st rfl rfl rfl sz_3 ?_)))))))
  refine .nil (.rdFold (r := r) s (k) (e1) (by repeat' constructor) (by first | rfl | (simp only [List.set]; congr; omega)) (by omega) hsz (.then_n (.sm rfl (.cv Tryz.func237 [_, _] (rfails_spec r s k e1 10) ?_))))
  refine .nt (.sr (.an rfl (.rt ?_)))
  rw [hrun.1 h20]
  exact .dn rfl rfl ⟨k, _, st_none (x := 10) (by decide), rfl, rfl⟩
 refine .sk (.seq (.rdOpen (by repeat' constructor) fun ra3 rc3 _ _ => ?_))
 obtain ⟨hr1, hr2⟩ := hrun.2 h20
 refine .region (.m rfl (.nf rfl fo_253_0 (.u (.fieldAddr rfl fo_226_1) (.u (.ld rfl ag_3) (.m rfl (.q (.add rfl rfl (by omega)) rfl (.nf rfl fo_253_0 (.u (.fieldAddr rfl fo_226_1) (.st rfl rfl rfl sz_3 ?_)))))))))
 refine .nil (.ptCast (b := r) (l' := [.slice (some ⟨ra3, 0, none⟩) s.length rc3, vint ((k1 + n : Nat) : Int), vint e1]) (by repeat' constructor) rfl (.slAddr (by repeat' constructor) fun hcap _ => (.then_n (.seq (.draw [] [[0, 1, 2, 3, 4, 5, 6, 7, 8, 9, 10, 11, 12, 13, 14, 15, 16, 17, 18, 19]] mixed (by kernel_rfl) (.g0 (.mv rfl rfl (.nf rfl rfl rfl fo_253_0 (.kv rfl (.fieldAddr rfl fo_226_0) (.kv rfl (.ld rfl ag_159) (.mv rfl rfl (.nf rfl rfl rfl fo_253_0 (.kv rfl (.fieldAddr rfl fo_226_1) (.kv rfl (.ld rfl ag_3) (.mv rfl rfl (.kv rfl (.as (v' := vint (k1 : Nat)) (by congr 1; omega) (.sub rfl rfl (by omega))) (.mv rfl rfl (.nf rfl rfl rfl fo_253_0 (.kv rfl (.fieldAddr rfl fo_226_1) (.kv rfl (.ld rfl ag_3) (.kv rfl (.to (v' := .slice (some (if rc3 = k1 then ⟨ra3, 0, none⟩ else ⟨ra3, 0 + k1 * 1, none⟩)) (k1 + n - k1) (rc3 - k1)) (.slSlice (i := (k1 : Int)) (j := ((k1 + n : Nat) : Int)) rfl el_159 (by exact rfl) (by exact rfl) (by omega)) (by simp only [Int.toNat_natCast])) ?_)))))))))))))))))))))
 refine D.kv rfl (.bytesBy (cs := (s.take (k1 + n)).drop k1) (n := ((s.take (k1 + n)).drop k1).length) (p := bytR (.slice (some ⟨ra3, 0, none⟩) s.length rc3) s) rfl Tryz.underlying159 Tryz.underlying5 Tryz.underlying9 (fun h hp => slR_mid (by omega) (by omega) hp) (by repeat' constructor)) (.kv rfl (.assign rfl) (.pf (.ret (.rdFold (r := r) s (k1 + n) (e1) (by repeat' constructor) (by first | rfl | (simp only [List.set]; congr; omega)) (by omega) hsz ?_))))
 rw [hr2]
 exact .dn rfl rfl ⟨k1 + n, e1, hr1, rfl, rfl⟩
theorem end_T {s : Bs} {k : Nat} {e : Int} (h : k < s.length) : (if e = 0 then (11 : Int) else e) = 0 ↔ stW s k e = some [] := by
 have hl : (s.drop k).length = s.length - k := List.length_drop
 unfold stW
 split
 ·refine ⟨fun g => absurd g (by decide), fun g => ?_⟩
  rw [Option.some.inj g] at hl; simp at hl; omega
 ·rename_i g; exact ⟨fun q => absurd q g, fun q => by cases q⟩
theorem end_F {s : Bs} {k : Nat} {e : Int} (h : s.length ≤ k) : e = 0 ↔ stW s k e = some [] := by
 unfold stW
 split
 ·rename_i g; exact ⟨fun _ => by rw [List.drop_eq_nil_of_le h], fun _ => g⟩
 ·rename_i g; exact ⟨fun q => absurd q g, fun q => by cases q⟩
theorem rendW_spec (r : Nat) (s : Bs) (k : Nat) (e : Int) : Fn Tryz.prog 184 #[vptr r] [rdW r s k e] fun v L => ∃ e1, (e1 = 0 ↔ stW s k e = some []) ∧ v = vint e1 ∧ L = [rdW r s k e1] := by
 refine Fn.intro Tryz.func184 rfl rfl fun F W => ?_
 refine .rdOpen (by repeat' constructor) fun ra rc hkl hsz => (.rdFold (r := r) s (k) (e) (by repeat' constructor) (by first | rfl | (simp only [List.set]; congr; omega)) (by omega) hsz (.sr (.an rfl (.seq (.sm rfl (.nf rfl fo_253_0 (.cv Tryz.func217 [_] (rleft_spec r s k e) ?_)))))))
 refine .ui rfl rfl rfl (.nt (.condD rfl (fun h7 => ?_) (fun h7 => ?_)))
 ·refine .region (.m rfl (.cv Tryz.func218 [_] (rfail_spec r s k e) ?_))
  refine .nt (.seq (.rdOpen (by repeat' constructor) fun ra3 rc3 _ _ => (.region (.m rfl (.nf rfl fo_253_1 (.u (.ld rfl ag_60) (.an rfl (.ret (.rdFold (r := r) s (k) (if e = 0 then 11 else e) (by repeat' constructor) (by first | rfl | (simp only [List.set]; congr; omega)) (by omega) hsz ?_)))))))))
  exact .dn rfl rfl ⟨_, end_T (by omega), rfl, rfl⟩
 refine .sk (.seq (.rdOpen (by repeat' constructor) fun ra3 rc3 _ _ => (.region (.m rfl (.nf rfl fo_253_1 (.u (.ld rfl ag_60) (.an rfl (.ret (.rdFold (r := r) s (k) (e) (by repeat' constructor) (by first | rfl | (simp only [List.set]; congr; omega)) (by omega) hsz ?_)))))))))
 exact .dn rfl rfl ⟨_, end_F (by omega), rfl, rfl⟩
theorem cread_spec (s : Bs) (hs : s.length ≤ 70368744177664) : Fn Tryz.prog 183 #[vstr s] [] fun v L => ∃ r, v = vptr r ∧ L = [rdR r (some s)] := by
 refine Fn.intro Tryz.func183 rfl rfl fun F W => ?_
 refine .sr (.an rfl (.sm rfl (.oq (.strBytes rfl Tryz.underlying9 Tryz.underlying159 Tryz.underlying5) ?_)))
 rintro v L' ⟨rfl, b8, c8, rfl⟩
 refine .q (.to (v' := .agg [.slice (some ⟨b8, 0, none⟩) s.length c8, vint 0].toArray) (.build (us := [(0, _)]) fl_226 ze_226 rfl rfl (by simp [isCell])) rfl) rfl (.q (.to (v' := .agg [.slice (some ⟨b8, 0, none⟩) s.length c8, vint 0, vint 0].toArray) (.buildN (pl := [(0, 2), (2, 1)]) (us := [(0, _)]) (cells := [.slice (some ⟨b8, 0, none⟩) s.length c8, vint 0, vint 0]) Tryz.underlying253 (by kernel_rfl) ze_253 rfl rfl) rfl) rfl (.oq (.box rfl) ?_))
 rintro v L' ⟨r, rfl, rfl⟩
 refine .an rfl (.ret (.rdFold (r := r) s 0 0 (by repeat' constructor) rfl (Nat.zero_le _) hs (.rdUpF (r := r) (st := some s) (by repeat' constructor) rfl ?_)))
 exact .dn rfl rfl ⟨r, rfl, rfl⟩
theorem rnum_spec (r : Nat) (st : Rs) : Fn Tryz.prog 219 #[vptr r] [rdR r st] fun v L => v = vint (runP 0 numP st).1 ∧ L = [rdR r (runP 0 numP st).2] := Fn.rdUp (v := vint) (fun s k e => rnumW_spec r s k e) st
theorem rcount_spec (r most : Nat) (hm : most ≤ 70368744177664) (st : Rs) : Fn Tryz.prog 223 #[vptr r, vint most] [rdR r st] fun v L => v = vint ((runP 0 (cntP most) st).1 : Nat) ∧ L = [rdR r (runP 0 (cntP most) st).2] := Fn.rdUp (v := fun n : Nat => vint n) (fun s k e => rcountW_spec r most hm s k e) st
theorem rtext_spec (r most : Nat) (hm : most ≤ 70368744177664) (st : Rs) : Fn Tryz.prog 239 #[vptr r, vint most] [rdR r st] fun v L => v = vstr (runP [] (txtP most) st).1 ∧ L = [rdR r (runP [] (txtP most) st).2] := Fn.rdUp (v := vstr) (fun s k e => rtextW_spec r most hm s k e) st
theorem rend_spec (r : Nat) (st : Rs) : Fn Tryz.prog 184 #[vptr r] [rdR r st] fun v L => ∃ e1, (e1 = 0 ↔ st = some []) ∧ v = vint e1 ∧ ∃ st', L = [rdR r st'] := Fn.rdEnd (fun s k e => rendW_spec r s k e) st
def Pt.wa (y : Pt) (v : Value) : Pt := ⟨y.kind, y.path, y.data, v, y.acl, y.own, y.num, y.err, y.subsV⟩
def Pt.ws (y : Pt) (v : Value) : Pt := ⟨y.kind, y.path, y.data, y.aclV, y.acl, y.own, y.num, y.err, v⟩
def aclR (y : Pt) : HP := slR 258 2 y.aclV y.acl.length (y.acl.flatMap acC)
def subsR (e : En) : HP := slR 73 8 e.x.subsV e.subs.length (e.subs.flatMap ptC)
def entR (e : En) : HP := sep [aclR e.x, subsR e, bigR aclR e.subs]
structure PtW (p : HP) (y : Pt) : Prop where
 i : PtI y
 acl : ∀ h : Hp, p h → rdS 2 h y.aclV y.acl.length (y.acl.flatMap acC)
structure EnW (p : HP) (e : En) : Prop where
 i : EnI e
 acl : ∀ h : Hp, p h → rdS 2 h e.x.aclV e.x.acl.length (e.x.acl.flatMap acC)
 subs : ∀ h : Hp, p h → rdS 8 h e.x.subsV e.subs.length (e.subs.flatMap ptC)
 each : ∀ y ∈ e.subs, ∀ h : Hp, p h → rdS 2 h y.aclV y.acl.length (y.acl.flatMap acC)
theorem EnW.x {p : HP} {e : En} (h : EnW p e) : PtW p e.x := ⟨h.i.x, h.acl⟩
theorem EnW.sub {p : HP} {e : En} (h : EnW p e) {y : Pt} (hy : y ∈ e.subs) : PtW p y := ⟨h.i.subs y hy, h.each y hy⟩
theorem fm_take {α : Type} (f : α → Bs) (l : List α) (j : Nat) : ((l.take j).flatMap f).length ≤ (l.flatMap f).length := by
 conv => rhs; rw [← List.take_append_drop j l]
 rw [List.flatMap_append, List.length_append]; omega
theorem fm_step {α : Type} (f : α → Bs) {l : List α} {j : Nat} (hj : j < l.length) : (l.take (j + 1)).flatMap f = (l.take j).flatMap f ++ f l[j] := by
 rw [List.take_succ_eq_append_getElem hj, List.flatMap_append]; simp
theorem fm_stepL {α : Type} (f : α → Bs) {l : List α} {j : Nat} (hj : j < l.length) : ((l.take j).flatMap f).length + (f l[j]).length ≤ (l.flatMap f).length := by
 have := fm_take f l (j + 1)
 rw [fm_step f hj, List.length_append] at this
 exact this
theorem many_len {α : Type} (f : Rn α) (st : Rs) : ∀ n, (manyR f n st).1.length = n
 | 0 => rfl
 | n + 1 => by show ((manyR f n st).1 ++ [_]).length = n + 1; rw [List.length_append, many_len f st n]; rfl
theorem cntR_le (st : Rs) : (cntR st).1 ≤ 256 := by
 unfold cntR runP
 split
 ·exact Nat.zero_le _
 ·split
  ·rename_i x hx; exact (cnt_form hx).2
  ·exact Nat.zero_le _
theorem one_sep {p : HP} {h : Hp} (hp : p h) : sep [p] h := ⟨h, fun _ => none, fun _ => .inr rfl, fun _ _ e => e, fun _ _ e => (by cases e), hp, trivial⟩
theorem sep_one {b : Nat} {l : List Value} {T : TypeId} {h : Hp} (hp : sep [ptc b l T] h) : ptc b l T h := sep_pt hp
theorem big_one {α : Type} {f : α → HP} {l : List α} {y : α} {h : Hp} (hs : sep [f y, bigR f l] h) : bigR f (l ++ [y]) h :=
 big_perm (List.perm_append_comm (l₁ := [y])) (big_of_cons hs)
section
variable {P : Program} {W : World} {n : Nat} {ds : List Deferred} {E : Env} {L R : List HP} {X : Act → World → Prop} {ty : TypeId}
theorem G.bigAdd {α : Type} {f : α → HP} {l : List α} (y : α) {p : HP} (hp : p = f y) (hL : Picks [p, bigR f l] L R) (h : G W n ds E (bigR f (l ++ [y]) :: R) X) : G W n ds E L X := by
 subst hp
 exact G.fold hL (fun w hw => big_one hw) h
theorem G.wrCast {w : Nat} {bs bs' : Bs} (hL : Pick (wrR w bs) L R) (hb : bs = bs') (h : G W n ds E (wrR w bs' :: R) X) : G W n ds E L X := by
 subst hb; exact G.perm hL.perm h
theorem OpSpec.inL {o : Oper} {p p' q : HP} (h : OpSpec P o E [p] fun _ L' => L' = [p']) : OpSpec P o E [sep [p, q]] fun _ L' => L' = [sep [p', q]] := by
 intro ρ w F ha hs
 have hs' : St ([p] ++ ([q] ++ F)) w := sep_flat (L1 := [p, q]) hs
 refine (h ρ w _ ha hs').mono ?_
 rintro v w' ⟨L', rfl, hs2, hk⟩
 exact ⟨_, rfl, sep_fold (L1 := [p', q]) hs2, hk⟩
theorem OpSpec.inR {o : Oper} {p q q' : HP} (h : OpSpec P o E [q] fun _ L' => L' = [q']) : OpSpec P o E [sep [p, q]] fun _ L' => L' = [sep [p, q']] := by
 intro ρ w F ha hs
 have hs1 : St (p :: q :: F) w := sep_flat (L1 := [p, q]) hs
 have hs' : St ([q] ++ ([p] ++ F)) w := sep_swap hs1
 refine (h ρ w _ ha hs').mono ?_
 rintro v w' ⟨L', rfl, hs2, hk⟩
 exact ⟨_, rfl, sep_fold (L1 := [p, q']) (sep_swap hs2), hk⟩
end
def addrV (a : Nat × Nat) : Value := .pointer (some ⟨a.1, a.2, none⟩)
theorem wnums_spec (w : Nat) (bs : Bs) (va : Value) (ns : List Int) (p : HP) (hp : ∀ h : Hp, p h → rdS 1 h va ns.length (ints ns)) (hi : ∀ n ∈ ns, I64 n) (hl : bs.length + (ns.flatMap numB).length ≤ 4294900000) (hn : ns.length ≤ 1048576) : Fn Tryz.prog 214 #[vptr w, va] [wrR w bs, p] fun v L => v = .tuple #[] ∧ L = [wrR w (bs ++ ns.flatMap numB), p] := by
 refine Fn.intro Tryz.func214 rfl rfl fun F W => ?_
 refine .rdAny (p := p) hp (by repeat' constructor) fun aa ca e0 _ => ?_
 subst e0
 refine .sm rfl (.q (.slen rfl Tryz.underlying32 rfl) rfl (.m rfl (.nt (.block (.wrCast (w := w) (bs' := bs ++ (ns.take 0).flatMap numB) (by repeat' constructor) (by simp) (.loopK (ι := Nat) (fun q E => (8, vint q) :: E) (fun q => [wrR w (bs ++ (ns.take q).flatMap numB)]) (fun q => q ≤ ns.length) (fun q => ns.length - q) (0) (ts := [0, 6, 7]) (.cons rfl (.cons rfl (.cons rfl (.nil)))) (Nat.zero_le _) ⟨rfl, rfl, rfl, rfl, trivial⟩ (by repeat' constructor) ?_))))))
 rintro j hj
 refine .sr (.ui rfl rfl rfl (.nt (.seq (.condD rfl (fun h9 => ?_) (fun h9 => ?_)))))
 ·have hj2 : j < ns.length := by omega
  have hft := fm_take numB ns j
  refine .rdShape (p := p) hp (by repeat' constructor) (by omega) fun ba oa e => ?_
  subst e
  refine .sk (.seq (.block (.sr (.q (.indexAddr rfl rfl el_32 (by omega)) rfl (.q (.loadEl (p := p) (i := j * 1) (v := vint ns[j]) rfl ag_3 (by repeat' constructor) hp (by simp [hj2])) rfl (.an rfl (.region (.m rfl (.m rfl (.oq (.c Tryz.func137 [_, _] (cnum_spec w _ ns[j] (hi _ (List.getElem_mem hj2)) ?hb8)) ?_))))))))))
  case hb8 => rw [List.length_append]; omega
  rintro v L' ⟨rfl, rfl⟩
  refine .nil (.blk_n (.then_n (.region (.q (.add rfl rfl (by omega)) rfl (.m rfl (.nt (.wrCast (w := w) (bs' := bs ++ (ns.take (j + 1)).flatMap numB) (by repeat' constructor) (by rw [fm_step numB hj2, List.append_assoc]) ?_)))))))
  exact .rk (j + 1) (by omega) (by omega) ⟨rfl, rfl, rfl, rfl, trivial⟩
 have hjj : j = ns.length := by omega
 rw [hjj, List.take_length]
 refine .exit (.then_e (.then_e (.blk_e (.done_n ?_))))
 exact .vv
theorem wacl_spec (w : Nat) (bs : Bs) (a : Ac) (hi : AcI a) (hl : bs.length + (acB a).length ≤ 4294900000) : Fn Tryz.prog 236 #[vptr w, .agg (acC a).toArray] [wrR w bs] fun v L => v = .tuple #[] ∧ L = [wrR w (bs ++ acB a)] := by
 refine Fn.intro Tryz.func236 rfl rfl fun F W => ?_
 have hab : (acB a).length = (numB a.1).length + ((cntB a.2.length).length + a.2.length) := by unfold acB txtB; simp
 refine .sr (.oq (.box rfl) ?_)
 rintro v L' ⟨b3, rfl, rfl⟩
 refine .nil (.ptCast (b := b3) (l' := acC a) (by repeat' constructor) rfl (.then_n (.sm rfl (.u (.fieldAddr rfl fo_258_0) (.u (.ld rfl ag_3) (.cv Tryz.func137 [_, _] (cnum_spec w bs a.1 hi.n (by omega)) ?_))))))
 refine .nt (.region (.m rfl (.u (.fieldAddr rfl fo_258_1) (.u (.ld rfl ag_9) (.oq (.c Tryz.func234 [_, _] (ctext_spec w _ a.2 ?hb11)) ?_)))))
 case hb11 => rw [List.length_append]; omega
 rintro v L' ⟨rfl, rfl⟩
 refine .nil (.done_n (.wrCast (w := w) (bs' := bs ++ acB a) (by repeat' constructor) (by unfold acB; rw [List.append_assoc]) ?_))
 exact .vv
theorem wacls_spec (w : Nat) (bs : Bs) (va : Value) (l : List Ac) (p : HP) (hp : ∀ h : Hp, p h → rdS 2 h va l.length (l.flatMap acC)) (hi : ∀ a ∈ l, AcI a) (hl : bs.length + (cntB l.length ++ l.flatMap acB).length ≤ 4294900000) (hn : l.length ≤ 1048576) : Fn Tryz.prog 235 #[vptr w, va, .func (.func 236) #[] #[]] [wrR w bs, p] fun v L => v = .tuple #[] ∧ L = [wrR w (bs ++ (cntB l.length ++ l.flatMap acB)), p] := by
 refine Fn.intro Tryz.func235 rfl rfl fun F W => ?_
 refine .rdAny (p := p) hp (by repeat' constructor) fun aa ca e0 _ => ?_
 subst e0
 rw [List.length_append] at hl
 refine .sm rfl (.m rfl (.q (.slen rfl Tryz.underlying34 rfl) rfl (.cv Tryz.func138 [_, _] (ccount_spec w bs l.length (by omega) (by omega)) ?_)))
 refine .nt (.sm rfl (.q (.slen rfl Tryz.underlying34 rfl) rfl (.m rfl (.nt (.block (.wrCast (w := w) (bs' := bs ++ cntB l.length ++ (l.take 0).flatMap acB) (by repeat' constructor) (by simp) (.loopK (ι := Nat) (fun q E => (14, vint q) :: E) (fun q => [wrR w (bs ++ cntB l.length ++ (l.take q).flatMap acB)]) (fun q => q ≤ l.length) (fun q => l.length - q) (0) (ts := [0, 2, 12, 13]) (.cons rfl (.cons rfl (.cons rfl (.cons rfl (.nil))))) (Nat.zero_le _) ⟨rfl, rfl, rfl, rfl, rfl, trivial⟩ (by repeat' constructor) ?_)))))))
 rintro j hj
 refine .sr (.ui rfl rfl rfl (.nt (.seq (.condD rfl (fun h15 => ?_) (fun h15 => ?_)))))
 ·have hj2 : j < l.length := by omega
  have hft := fm_stepL acB hj2
  refine .rdShape (p := p) hp (by repeat' constructor) (by omega) fun ba oa e => ?_
  subst e
  refine .sk (.seq (.block (.sr (.q (.indexAddr rfl rfl el_34 (by omega)) rfl (.q (.loadRdA (sz := 2) (j := j * 2) (k := 2) (p := p) (vs := acC l[j]) rfl ag_258 (by repeat' constructor) hp (by simp) (by omega) (by omega) (flatMap_at (f := acC) (sz := 2) (fun _ _ => rfl) (by omega))) rfl (.oq (.allocA ze_258) ?_))))))
  rintro v L' ⟨b7, rfl, rfl⟩
  refine .oq (.storeA rfl rfl ?c14 sz_258 ?c17 ?c15 (nfz0 _ _)) ?_
  case c14 => simp [acC, isCell]
  case c17 => rfl
  case c15 => simp [acC]
  rintro v L' rfl
  refine .nil (.ptCast (b := b7) (l' := acC l[j]) (by repeat' constructor) (by exact rfl) (.then_n (.region (.m rfl (.m rfl (.q (.loadAs (vs := acC l[j]) rfl ag_258 (by repeat' constructor) (by simp [acC]) rfl) rfl (.oq (.callV Tryz.func236 rfl rfl (us := []) (vs := [_, _]) (ws := []) rfl rfl (wacl_spec w _ l[j] (hi _ (List.getElem_mem hj2)) ?hb22)) ?_)))))))
  case hb22 => rw [List.length_append, List.length_append]; omega
  rintro v L' ⟨rfl, rfl⟩
  refine .nil (.blk_n (.then_n (.region (.q (.add rfl rfl (by omega)) rfl (.m rfl (.nt (.wrCast (w := w) (bs' := bs ++ cntB l.length ++ (l.take (j + 1)).flatMap acB) (by repeat' constructor) (by rw [fm_step acB hj2, ← List.append_assoc]) ?_)))))))
  exact .rk (j + 1) (by omega) (by omega) ⟨rfl, rfl, rfl, rfl, rfl, trivial⟩
 have hjj : j = l.length := by omega
 rw [hjj, List.take_length, List.append_assoc]
 refine .exit (.then_e (.then_e (.blk_e (.done_n ?_))))
 exact .vv
theorem ptB_len (y : Pt) : (ptB y).length = (numB y.kind).length + ((cntB y.path.length).length + y.path.length) + ((cntB y.data.length).length + y.data.length) + (aclB y.acl).length + ([y.own, y.num, y.err].flatMap numB).length := by unfold ptB txtB; simp only [List.length_append]
theorem wpart_spec (w : Nat) (bs : Bs) (y : Pt) (p : HP) (hy : PtW p y) (hl : bs.length + (ptB y).length ≤ 4294900000) (hn : y.acl.length ≤ 1048576) : Fn Tryz.prog 215 #[vptr w, .agg (ptC y).toArray] [wrR w bs, p] fun v L => v = .tuple #[] ∧ L = [wrR w (bs ++ ptB y), p] := by
 refine Fn.intro Tryz.func215 rfl rfl fun F W => ?_
 have hpl := ptB_len y
 have hal : (cntB y.acl.length ++ y.acl.flatMap acB).length = (aclB y.acl).length := rfl
 have hiy := hy.i
 refine .sr (.oq (.box rfl) ?_)
 rintro v L' ⟨b3, rfl, rfl⟩
 refine .nil (.ptCast (b := b3) (l' := ptC y) (by repeat' constructor) rfl (.then_n (.sm rfl (.u (.fieldAddr rfl fo_73_0) (.u (.ld rfl ag_3) (.cv Tryz.func137 [_, _] (cnum_spec w bs y.kind hiy.kind (by omega)) ?_))))))
 refine .nt (.sm rfl (.u (.fieldAddr rfl fo_73_1) (.u (.ld rfl ag_9) (.oq (.c Tryz.func234 [_, _] (ctext_spec w _ y.path ?hb11)) ?_))))
 case hb11 => rw [List.length_append]; omega
 rintro v L' ⟨rfl, rfl⟩
 refine .nt (.sm rfl (.u (.fieldAddr rfl fo_73_2) (.u (.ld rfl ag_9) (.oq (.c Tryz.func234 [_, _] (ctext_spec w _ y.data ?hb17)) ?_))))
 case hb17 => simp only [List.length_append, txtB]; omega
 rintro v L' ⟨rfl, rfl⟩
 refine .nt (.sm rfl (.u (.fieldAddr rfl fo_73_3) (.u (.ld rfl ag_34) (.oq (.c Tryz.func235 [_, _, _] (wacls_spec w _ _ y.acl p hy.acl hiy.acl ?hb23 hn)) ?_))))
 case hb23 => rw [hal]; simp only [List.length_append, txtB]; omega
 rintro v L' ⟨rfl, rfl⟩
 refine .nt (.region (.m rfl (.u (.fieldAddr rfl fo_73_4) (.u (.ld rfl ag_3) (.u (.fieldAddr rfl fo_73_5) (.u (.ld rfl ag_3) (.u (.fieldAddr rfl fo_73_6) (.u (.ld rfl ag_60) (.oq (.buildSlice1 (vs := [_, _, _]) el_32 ze_3 rfl rfl rfl rfl rfl (by decide)) ?_)))))))))
 rintro v L' ⟨b5, rfl, rfl⟩
 refine .slMake (b := b5) (n := 3) (c := 3) (xs := ints [y.own, y.num, y.err]) (by repeat' constructor) (by decide) (by simp) rfl (.oq (.call Tryz.func214 rfl rfl (vs := [_, _]) rfl (wnums_spec w _ _ [y.own, y.num, y.err] (slR 3 1 (.slice (some ⟨b5, 0, none⟩) 3 3) 3 (ints [y.own, y.num, y.err])) (fun h hp => slR_rd hp) (fun n hn => by simp only [List.mem_cons, List.not_mem_nil, or_false] at hn; rcases hn with rfl | rfl | rfl; exact hiy.own; exact hiy.num; exact hiy.err) ?hb35 (by simp))) ?_)
 case hb35 => have h9 : (cntB y.acl.length ++ y.acl.flatMap acB).length = (aclB y.acl).length := rfl; simp only [List.length_append, txtB] at h9 ⊢; omega
 rintro v L' ⟨rfl, rfl⟩
 refine .nil (.done_n (.wrCast (w := w) (bs' := bs ++ ptB y) (by repeat' constructor) (by unfold ptB aclB; simp only [List.append_assoc]) ?_))
 exact .vv
theorem wparts_spec (w : Nat) (bs : Bs) (va : Value) (l : List Pt) (p : HP) (hp : ∀ h : Hp, p h → rdS 8 h va l.length (l.flatMap ptC)) (hi : ∀ y ∈ l, PtW p y ∧ y.acl.length ≤ 1048576) (hl : bs.length + (cntB l.length ++ l.flatMap ptB).length ≤ 4294900000) (hn : l.length ≤ 1048576) (hcl : ∀ y ∈ l, ∀ v ∈ ptC y, isCell v = true) : Fn Tryz.prog 216 #[vptr w, va, .func (.func 215) #[] #[]] [wrR w bs, p] fun v L => v = .tuple #[] ∧ L = [wrR w (bs ++ (cntB l.length ++ l.flatMap ptB)), p] := by
 refine Fn.intro Tryz.func216 rfl rfl fun F W => ?_
 refine .rdAny (p := p) hp (by repeat' constructor) fun aa ca e0 _ => ?_
 subst e0
 rw [List.length_append] at hl
 refine .sm rfl (.m rfl (.q (.slen rfl Tryz.underlying71 rfl) rfl (.cv Tryz.func138 [_, _] (ccount_spec w bs l.length (by omega) (by omega)) ?_)))
 refine .nt (.sm rfl (.q (.slen rfl Tryz.underlying71 rfl) rfl (.m rfl (.nt (.block (.wrCast (w := w) (bs' := bs ++ cntB l.length ++ (l.take 0).flatMap ptB) (by repeat' constructor) (by simp) (.loopK (ι := Nat) (fun q E => (14, vint q) :: E) (fun q => [wrR w (bs ++ cntB l.length ++ (l.take q).flatMap ptB)]) (fun q => q ≤ l.length) (fun q => l.length - q) (0) (ts := [0, 2, 12, 13]) (.cons rfl (.cons rfl (.cons rfl (.cons rfl (.nil))))) (Nat.zero_le _) ⟨rfl, rfl, rfl, rfl, rfl, trivial⟩ (by repeat' constructor) ?_)))))))
 rintro j hj
 refine .sr (.ui rfl rfl rfl (.nt (.seq (.condD rfl (fun h15 => ?_) (fun h15 => ?_)))))
 ·have hj2 : j < l.length := by omega
  have hft := fm_stepL ptB hj2
  refine .rdShape (p := p) hp (by repeat' constructor) (by omega) fun ba oa e => ?_
  subst e
  refine .sk (.seq (.block (.sr (.q (.indexAddr rfl rfl el_71 (by omega)) rfl (.q (.loadRdA (sz := 8) (j := j * 8) (k := 8) (p := p) (vs := ptC l[j]) rfl ag_73 (by repeat' constructor) hp (by simp) (by omega) (by omega) (flatMap_at (f := ptC) (sz := 8) (fun _ _ => rfl) (by omega))) rfl (.oq (.allocA ze_73) ?_))))))
  rintro v L' ⟨b7, rfl, rfl⟩
  refine .oq (.storeA rfl rfl ?c14 sz_73 ?c17 ?c15 (nfz0 _ _)) ?_
  case c14 => exact hcl _ (List.getElem_mem hj2)
  case c17 => rfl
  case c15 => simp [ptC]
  rintro v L' rfl
  refine .nil (.ptCast (b := b7) (l' := ptC l[j]) (by repeat' constructor) (by exact rfl) (.then_n (.region (.m rfl (.m rfl (.q (.loadAs (vs := ptC l[j]) rfl ag_73 (by repeat' constructor) (by simp [ptC]) rfl) rfl (.oq (.callV Tryz.func215 rfl rfl (us := []) (vs := [_, _]) (ws := []) rfl rfl (wpart_spec w _ l[j] p (hi _ (List.getElem_mem hj2)).1 ?hb22 (hi _ (List.getElem_mem hj2)).2)) ?_)))))))
  case hb22 => rw [List.length_append, List.length_append]; omega
  rintro v L' ⟨rfl, rfl⟩
  refine .nil (.blk_n (.then_n (.region (.q (.add rfl rfl (by omega)) rfl (.m rfl (.nt (.wrCast (w := w) (bs' := bs ++ cntB l.length ++ (l.take (j + 1)).flatMap ptB) (by repeat' constructor) (by rw [fm_step ptB hj2, ← List.append_assoc]) ?_)))))))
  exact .rk (j + 1) (by omega) (by omega) ⟨rfl, rfl, rfl, rfl, rfl, trivial⟩
 have hjj : j = l.length := by omega
 rw [hjj, List.take_length, List.append_assoc]
 refine .exit (.then_e (.then_e (.blk_e (.done_n ?_))))
 exact .vv
theorem enB_len (e : En) : (enB e).length = ([e.zx, e.ses, e.xid].flatMap numB).length + (ptB e.x).length + (subsB e.subs).length := by unfold enB; simp only [List.length_append]
theorem pt_cells {y : Pt} (h1 : isCell y.aclV = true) (h2 : isCell y.subsV = true) : ∀ v ∈ ptC y, isCell v = true := by
 intro v hv
 simp only [ptC, List.mem_cons, List.not_mem_nil, or_false] at hv
 rcases hv with rfl | rfl | rfl | rfl | rfl | rfl | rfl | rfl
 case inr.inr.inr.inl => exact h1
 case inr.inr.inr.inr.inr.inr.inr => exact h2
 all_goals rfl
structure EnL (p : HP) (e : En) : Prop where
 w : EnW p e
 len : (enB e).length ≤ 1073741824
 few : e.subs.length ≤ 1048576 ∧ e.x.acl.length ≤ 1048576 ∧ ∀ y ∈ e.subs, y.acl.length ≤ 1048576
 cx : isCell e.x.aclV = true ∧ isCell e.x.subsV = true
 cs : ∀ y ∈ e.subs, isCell y.aclV = true ∧ isCell y.subsV = true
theorem EnL.cells {p : HP} {e : En} (h : EnL p e) : ∀ v ∈ enC e, isCell v = true := by
 intro v hv
 unfold enC at hv
 rcases List.mem_append.1 hv with hv | hv
 ·simp at hv; rcases hv with rfl | rfl | rfl <;> rfl
 ·exact pt_cells h.cx.1 h.cx.2 v hv
theorem wentry_spec (w : Nat) (e : En) (p : HP) (he : EnL p e) : Fn Tryz.prog 176 #[vptr w, .agg (enC e).toArray] [wrR w [], p] fun v L => v = .tuple #[] ∧ L = [wrR w (enB e), p] := by
 refine Fn.intro Tryz.func176 rfl rfl fun F W => ?_
 have hel := enB_len e
 have hle := he.len
 have hie := he.w.i
 have hsb : (cntB e.subs.length ++ e.subs.flatMap ptB).length = (subsB e.subs).length := rfl
 refine .sr (.oq (.box rfl) ?_)
 rintro v L' ⟨b3, rfl, rfl⟩
 refine .nil (.ptCast (b := b3) (l' := enC e) (by repeat' constructor) (by exact rfl) (.then_n (.sm rfl (.u (.fieldAddr rfl fo_75_0) (.u (.ld rfl ag_3) (.u (.fieldAddr rfl fo_75_1) (.u (.ld rfl ag_3) (.u (.fieldAddr rfl fo_75_2) (.u (.ld rfl ag_3) (.oq (.buildSlice1 (vs := [_, _, _]) el_32 ze_3 rfl rfl rfl rfl rfl (by decide)) ?_))))))))))
 rintro v L' ⟨b4, rfl, rfl⟩
 refine .slMake (b := b4) (n := 3) (c := 3) (xs := ints [e.zx, e.ses, e.xid]) (by repeat' constructor) (by decide) (by simp) rfl (.oq (.call Tryz.func214 rfl rfl (vs := [_, _]) rfl (wnums_spec w [] _ [e.zx, e.ses, e.xid] (slR 3 1 (.slice (some ⟨b4, 0, none⟩) 3 3) 3 (ints [e.zx, e.ses, e.xid])) (fun h hp => slR_rd hp) (fun n hn => by simp only [List.mem_cons, List.not_mem_nil, or_false] at hn; rcases hn with rfl | rfl | rfl; exact hie.zx; exact hie.ses; exact hie.xid) (by simp only [List.length_nil]; omega) (by simp))) ?_)
 rintro v L' ⟨rfl, rfl⟩; rw [List.nil_append]
 refine .nt (.sm rfl (.u (.fieldAddr rfl fo_75_3) (.q (.loadAs (vs := ptC e.x) rfl ag_73 (by repeat' constructor) (by simp [enC, ptC]) rfl) rfl (.oq (.c Tryz.func215 [_, _] (wpart_spec w _ e.x p he.w.x ?hb17 he.few.2.1)) ?_))))
 case hb17 => omega
 rintro v L' ⟨rfl, rfl⟩
 refine .nt (.region (.m rfl (.u (.fieldAddr rfl fo_75_3) (.u (.fieldAddr rfl fo_73_7) (.u (.ld rfl ag_71) (.oq (.c Tryz.func216 [_, _, _] (wparts_spec w _ _ e.subs p he.w.subs (fun y hy => ⟨he.w.sub hy, he.few.2.2 y hy⟩) ?hb24 he.few.1 (fun y hy => pt_cells (he.cs y hy).1 (he.cs y hy).2))) ?_))))))
 case hb24 => rw [hsb, List.length_append]; omega
 rintro v L' ⟨rfl, rfl⟩
 refine .nil (.done_n (.wrCast (w := w) (bs' := enB e) (by repeat' constructor) (by unfold enB subsB; simp only [List.append_assoc]) ?_))
 exact .vv
def entC (m0 m1 m2 : Int) : List Value := [vint m0, vint m1, vint m2, vint 0, vstr [], vstr [], nilV, vint 0, vint 0, vint 0, nilV]
def entB (b3 : Nat) (n0 n1 n2 : Int) : Nat → HP
 | 0 => ptc b3 (entC 0 0 0) 75
 | 1 => ptc b3 (entC n0 0 0) 75
 | 2 => ptc b3 (entC n0 n1 0) 75
 | _ => ptc b3 (entC n0 n1 n2) 75
theorem into_ent (b3 : Nat) (st : Rs) :
  ∀ j (hj : j < [(b3, 0), (b3, 1), (b3, 2)].length) (E : Env) (x y : Operand) (ty : TypeId), ev E x = some (addrV [(b3, 0), (b3, 1), (b3, 2)][j]) → ev E y = some (vint (numR (manyR numR j st).2).1) →
  OpSpec Tryz.prog ⟨none, .store 3 x y, ty, "", #[], none⟩ E [entB b3 (numR (manyR numR 0 st).2).1 (numR (manyR numR 1 st).2).1 (numR (manyR numR 2 st).2).1 j]
   fun _ L' => L' = [entB b3 (numR (manyR numR 0 st).2).1 (numR (manyR numR 1 st).2).1 (numR (manyR numR 2 st).2).1 (j + 1)] := by
 intro j hj E x y ty hx hy
 match j, hj with
 | 0, _ => exact OpSpec.store (off := 0) hx hy rfl sz_3 (by simp [entC]) (nfz0 _ _)
 | 1, _ => exact OpSpec.store (off := 1) hx hy rfl sz_3 (by simp [entC]) (nfz0 _ _)
 | 2, _ => exact OpSpec.store (off := 2) hx hy rfl sz_3 (by simp [entC]) (nfz0 _ _)
def partC (v0 : Int) (v1 v2 : Bs) (v3 : Value) (m0 m1 : Int) : List Value := [vint v0, vstr v1, vstr v2, v3, vint m0, vint m1, vint 0, nilV]
def partB (b3 b4 : Nat) (v0 : Int) (v1 v2 : Bs) (v3 : Value) (n0 n1 n2 : Int) : Nat → HP
 | 0 => sep [ptc b3 (partC v0 v1 v2 v3 0 0) 73, ptc b4 [vint 0] 3]
 | 1 => sep [ptc b3 (partC v0 v1 v2 v3 n0 0) 73, ptc b4 [vint 0] 3]
 | 2 => sep [ptc b3 (partC v0 v1 v2 v3 n0 n1) 73, ptc b4 [vint 0] 3]
 | _ => sep [ptc b3 (partC v0 v1 v2 v3 n0 n1) 73, ptc b4 [vint n2] 3]
theorem into_part (b3 b4 : Nat) (v0 : Int) (v1 v2 : Bs) (v3 : Value) (st : Rs) :
  ∀ j (hj : j < [(b3, 4), (b3, 5), (b4, 0)].length) (E : Env) (x y : Operand) (ty : TypeId), ev E x = some (addrV [(b3, 4), (b3, 5), (b4, 0)][j]) → ev E y = some (vint (numR (manyR numR j st).2).1) →
  OpSpec Tryz.prog ⟨none, .store 3 x y, ty, "", #[], none⟩ E [partB b3 b4 v0 v1 v2 v3 (numR (manyR numR 0 st).2).1 (numR (manyR numR 1 st).2).1 (numR (manyR numR 2 st).2).1 j]
   fun _ L' => L' = [partB b3 b4 v0 v1 v2 v3 (numR (manyR numR 0 st).2).1 (numR (manyR numR 1 st).2).1 (numR (manyR numR 2 st).2).1 (j + 1)] := by
 intro j hj E x y ty hx hy
 match j, hj with
 | 0, _ => exact OpSpec.inL (OpSpec.store (off := 4) hx hy rfl sz_3 (by simp [partC]) (nfz0 _ _))
 | 1, _ => exact OpSpec.inL (OpSpec.store (off := 5) hx hy rfl sz_3 (by simp [partC]) (nfz0 _ _))
 | 2, _ => exact OpSpec.inR (OpSpec.store (off := 0) hx hy rfl sz_3 (by simp) (nfz0 _ _))
theorem wputG_spec (e : En) (p : HP) (he : EnL p e) : Fn Tryz.prog 175 #[.agg (enC e).toArray, .func (.func 176) #[] #[]] [p] fun v L => v = vstr (enB e) ∧ L = [p] := by
 refine Fn.intro Tryz.func175 rfl rfl fun F W => ?_
 refine .sr (.oq (.box rfl) ?_)
 rintro v L' ⟨b2, rfl, rfl⟩
 refine .a rfl (.nil (.ptCast (b := b2) (l' := enC e) (by repeat' constructor) (by exact rfl) (.then_n (.sr (.oq (.c Tryz.func136 [] (cnew_spec)) ?_)))))
 rintro v L' ⟨cw, rfl, rfl⟩
 refine .an rfl (.sm rfl (.m rfl (.q (.loadAs (vs := enC e) rfl ag_75 (by repeat' constructor) (by simp [enC, ptC]) rfl) rfl (.oq (.callV Tryz.func176 rfl rfl (us := []) (vs := [_, _]) (ws := []) rfl rfl (wentry_spec cw e p he)) ?_))))
 rintro v L' ⟨rfl, rfl⟩
 refine .nt (.sm rfl (.cv Tryz.func139 [_] (cbytes_spec _ _) ?_))
 refine .an rfl (.ret ?_)
 exact .vv
theorem wput_spec (e : En) (p : HP) (he : EnL p e) : Fn Tryz.prog 111 #[.agg (enC e).toArray] [p] fun v L => v = vstr (enB e) ∧ L = [p] := by
 refine Fn.intro Tryz.func111 rfl rfl fun F W => ?_
 refine .sr (.oq (.box rfl) ?_)
 rintro v L' ⟨b1, rfl, rfl⟩
 refine .a rfl (.nil (.ptCast (b := b1) (l' := enC e) (by repeat' constructor) (by exact rfl) (.then_n (.sr (.q (.loadAs (vs := enC e) rfl ag_75 (by repeat' constructor) (by simp [enC, ptC]) rfl) rfl (.cv Tryz.func175 [_, _] (wputG_spec e p he) ?_))))))
 refine .an rfl (.ret ?_)
 exact .vv
theorem wtext_spec (r : Nat) (st : Rs) : Fn Tryz.prog 220 #[vptr r] [rdR r st] fun v L => v = vstr (txtR st).1 ∧ L = [rdR r (txtR st).2] := by
 refine Fn.intro Tryz.func220 rfl rfl fun F W => ?_
 refine .sr (.an rfl (.sm rfl (.cv Tryz.func239 [_, _] (rtext_spec r 4096 (by decide) st) ?_)))
 refine .an rfl (.ret ?_)
 exact .vv
theorem wnum_spec (r : Nat) (st : Rs) : Fn Tryz.prog 219 #[vptr r] [rdR r st] fun v L => v = vint (numR st).1 ∧ L = [rdR r (numR st).2] := rnum_spec r st
theorem winto_spec (r : Nat) (st : Rs) (va : Value) (ad : List (Nat × Nat)) (q : HP) (hq : ∀ h : Hp, q h → rdS 1 h va ad.length (ad.map addrV)) (B : Nat → HP)
    (hB : ∀ j (hj : j < ad.length) (E : Env) (x y : Operand) (ty : TypeId), ev E x = some (addrV ad[j]) → ev E y = some (vint (numR (manyR numR j st).2).1) → OpSpec Tryz.prog ⟨none, .store 3 x y, ty, "", #[], none⟩ E [B j] fun _ L' => L' = [B (j + 1)]) (hn : ad.length ≤ 1048576) :
    Fn Tryz.prog 185 #[vptr r, va] [rdR r st, q, B 0] fun v L => v = .tuple #[] ∧ L = [rdR r (manyR numR ad.length st).2, q, B ad.length] := by
 refine Fn.intro Tryz.func185 rfl rfl fun F W => ?_
 refine .rdAny (p := q) hq (by repeat' constructor) fun aa ca e0 _ => ?_
 subst e0
 refine .sm rfl (.q (.slen rfl Tryz.underlying254 rfl) rfl (.m rfl (.nt (.block (.loopK (ι := Nat) (fun q E => (8, vint q) :: E) (fun q => [rdR r (manyR numR q st).2, B q]) (fun q => q ≤ ad.length) (fun q => ad.length - q) (0) (ts := [0, 6, 7]) (.cons rfl (.cons rfl (.cons rfl (.nil)))) (Nat.zero_le _) ⟨rfl, rfl, rfl, rfl, trivial⟩ (by repeat' constructor) ?_)))))
 rintro j hj
 refine .sr (.ui rfl rfl rfl (.nt (.seq (.condD rfl (fun h9 => ?_) (fun h9 => ?_)))))
 ·have hj2 : j < ad.length := by omega
  refine .rdShape (p := q) hq (by repeat' constructor) (by omega) fun ba oa e => ?_
  subst e
  refine .sk (.seq (.block (.sr (.q (.indexAddr rfl rfl el_254 (by omega)) rfl (.q (.loadEl (p := q) (i := j * 1) (v := addrV ad[j]) rfl ag_219 (by repeat' constructor) hq (by simp [hj2])) rfl (.an rfl (.region (.m rfl (.m rfl (.cv Tryz.func219 [_] (wnum_spec r _) ?_))))))))))
  refine .u (.nilp rfl) (.oq (hB j hj2 _ _ _ _ rfl rfl) ?_)
  rintro v L' rfl
  refine .nil (.blk_n (.then_n (.region (.q (.add rfl rfl (by omega)) rfl (.m rfl (.nt ?_))))))
  exact .rk (j + 1) (by omega) (by omega) ⟨rfl, rfl, rfl, rfl, trivial⟩
 have hjj : j = ad.length := by omega
 rw [hjj]
 refine .exit (.then_e (.then_e (.blk_e (.done_n ?_))))
 exact .vv
theorem wtacl_spec (r : Nat) (st : Rs) : Fn Tryz.prog 222 #[vptr r] [rdR r st] fun v L => v = .agg (acC (acR st).1).toArray ∧ L = [rdR r (acR st).2] := by
 refine Fn.intro Tryz.func222 rfl rfl fun F W => ?_
 refine .sr (.oq (.allocA ze_258) ?_)
 rintro v L' ⟨b2, rfl, rfl⟩
 refine .nt (.sm rfl (.cv Tryz.func219 [_] (wnum_spec r st) ?_))
 refine .an rfl (.sm rfl (.m rfl (.cv Tryz.func220 [_] (wtext_spec r _) ?_)))
 refine .q (.to (v' := .agg (acC (acR st).1).toArray) (.build (us := [(0, _), (1, _)]) fl_258 ze_258 rfl rfl (by simp [isCell])) rfl) rfl (.oq (.storeA rfl rfl ?c10 sz_258 ?c13 ?c11 (nfz0 _ _)) ?_)
 case c10 => simp [acC, isCell]
 case c13 => rfl
 case c11 => simp [acC]
 rintro v L' rfl
 refine .nt (.ret (.ptCast (b := b2) (l' := acC (acR st).1) (by repeat' constructor) (by exact rfl) ?_))
 exact .d1 rfl (.cellA rfl ag_258 (by repeat' constructor) (by simp [acC]) rfl) ⟨rfl, rfl⟩
theorem wracl_spec (r : Nat) (st : Rs) : Fn Tryz.prog 221 #[vptr r, .func (.func 222) #[] #[]] [rdR r st] fun v L => ∃ a c, v = .slice a (rowsR acR st).1.length c ∧ L = [rdR r (rowsR acR st).2, slR 258 2 v (rowsR acR st).1.length ((rowsR acR st).1.flatMap acC)] := by
 refine Fn.intro Tryz.func221 rfl rfl fun F W => ?_
 obtain ⟨m, hm⟩ : ∃ m, m = (cntR st).1 := ⟨_, rfl⟩
 obtain ⟨st1, hst1⟩ : ∃ s, s = (cntR st).2 := ⟨_, rfl⟩
 have hm2 := cntR_le st
 have hrow : rowsR acR st = manyR acR m st1 := by rw [hm, hst1]; rfl
 have hml := many_len acR st1 m
 rw [hrow, hml]
 refine .sr (.an rfl (.seq (.add (slR_nil 258 2) (.region (.an rfl (.seq (.sm rfl (.oq (.c Tryz.func223 [_, _] (rcount_spec r 256 (by decide) st)) ?_))))))))
 rintro v L' ⟨rfl, rfl⟩; rw [show (runP 0 (cntP 256) st).1 = m from hm.symm, show (runP 0 (cntP 256) st).2 = st1 from hst1.symm]
 refine .m rfl (.nt (.block (.loopK (ι := Nat × Value) (fun q E => (8, vint q.1) :: (5, q.2) :: E) (fun q => [rdR r (manyR acR q.1 st1).2, slR 258 2 q.2 q.1 ((manyR acR q.1 st1).1.flatMap acC)]) (fun q => q.1 ≤ m ∧ ∃ a c, q.2 = .slice a q.1 c) (fun q => m - q.1) (0, .slice none 0 0) (ts := [0, 1, 4, 7]) (.cons rfl (.cons rfl (.cons rfl (.cons rfl (.nil))))) (⟨Nat.zero_le _, none, 0, rfl⟩) ⟨rfl, rfl, rfl, rfl, rfl, rfl, trivial⟩ (by repeat' constructor) ?_)))
 rintro ⟨j, u⟩ ⟨hj, au, cu, hu⟩
 dsimp only
 dsimp only at hj hu
 subst hu
 refine .sr (.ui rfl rfl rfl (.nt (.seq (.condD rfl (fun h9 => ?_) (fun h9 => ?_)))))
 ·have hj2 : j < m := by omega
  refine .sk (.seq (.block (.region (.m rfl (.m rfl (.m rfl (.oq (.callV Tryz.func222 rfl rfl (us := []) (vs := [_]) (ws := []) rfl rfl (wtacl_spec r _)) ?_)))))))
  rintro v L' ⟨rfl, rfl⟩
  refine .oq (.buildSlice (vs := [_]) el_34 ze_258 rfl rfl rfl rfl (by first | (simp [Value.cells]; done) | (intro v hv; simp only [List.mem_cons, List.not_mem_nil, or_false] at hv; (repeat (first | (subst hv; rfl) | (rcases hv with hv | hv; (subst hv; rfl)))))) (by decide)) ?_
  rintro v L' ⟨b4, rfl, rfl⟩
  refine .oq (.append1 rfl rfl rfl el_34 ze_258 rfl rfl ?c15 ?c16 (Nat.le_refl _) ?c17 (by decide)) ?_
  case c15 => simp only [List.map_cons, List.map_nil, List.flatten_cons, List.flatten_nil, List.append_nil]; simp [Value.cells, acC, isCell]
  case c16 => rfl
  case c17 => omega
  rintro v L' ⟨⟨a5, c5, rfl⟩, rfl⟩
  refine .a rfl (.nil (.blk_n (.then_n (.region (.q (.add rfl rfl (by omega)) rfl (.m rfl (.nt (.slCast (T := 258) (sz := 2) (m' := j + 1) (xs' := (manyR acR (j + 1) st1).1.flatMap acC) (by repeat' constructor) (by exact rfl) (by show _ = ((manyR acR j st1).1 ++ [_]).flatMap acC; rw [List.flatMap_append]; simp [Value.cells, acC]) ?_))))))))
  exact .rk ((j + 1, .slice a5 (j + 1) c5)) (⟨by dsimp only; omega, _, _, rfl⟩) (by dsimp only; omega) ⟨rfl, rfl, rfl, rfl, rfl, rfl, trivial⟩
 have hjj : j = m := by omega
 subst hjj
 refine .exit (.then_e (.then_e (.blk_e (.then_n (.sm rfl (.an rfl (.ret ?_)))))))
 exact .dn rfl rfl ⟨_, _, rfl, rfl⟩
theorem wtpart_spec (r : Nat) (st : Rs) : Fn Tryz.prog 186 #[vptr r] [rdR r st] fun v L => ∃ aa ca, v = .agg (ptC ((ptR st).1.wa (.slice aa (ptR st).1.acl.length ca))).toArray ∧ L = [rdR r (ptR st).2, aclR ((ptR st).1.wa (.slice aa (ptR st).1.acl.length ca))] := by
 refine Fn.intro Tryz.func186 rfl rfl fun F W => ?_
 refine .sr (.oq (.allocA ze_73) ?_)
 rintro v L' ⟨b2, rfl, rfl⟩
 refine .nt (.sr (.oq (.allocA ze_73) ?_))
 rintro v L' ⟨b3, rfl, rfl⟩
 refine .nt (.sm rfl (.cv Tryz.func219 [_] (wnum_spec r st) ?_))
 refine .u (.fieldAddr rfl fo_73_0) (.st rfl rfl rfl sz_3 ?_)
 refine .nt (.sm rfl (.cv Tryz.func220 [_] (wtext_spec r _) ?_))
 refine .u (.fieldAddr rfl fo_73_1) (.st rfl rfl rfl sz_9 ?_)
 refine .nt (.sm rfl (.cv Tryz.func220 [_] (wtext_spec r _) ?_))
 refine .u (.fieldAddr rfl fo_73_2) (.st rfl rfl rfl sz_9 ?_)
 refine .nt (.sm rfl (.oq (.c Tryz.func221 [_, _] (wracl_spec r _)) ?_))
 rintro v L' ⟨aa, ca, rfl, rfl⟩
 refine .u (.fieldAddr rfl fo_73_3) (.st rfl rfl rfl sz_34 ?_)
 refine .nt (.sr (.oq (.alloc ze_3) ?_))
 rintro v L' ⟨b4, rfl, rfl⟩
 refine .nt (.sm rfl (.u (.fieldAddr rfl fo_73_4) (.u (.fieldAddr rfl fo_73_5) (.oq (.buildSlice1 (vs := [_, _, _]) el_254 ze_219 rfl rfl rfl rfl rfl (by decide)) ?_))))
 rintro v L' ⟨b5, rfl, rfl⟩
 refine .slMake (b := b5) (n := 3) (c := 3) (xs := [(b3, 4), (b3, 5), (b4, 0)].map addrV) (by repeat' constructor) (by decide) (by simp) rfl (.ptCast (b := b3) (l' := partC (numR st).1 (txtR (numR st).2).1 (txtR (txtR (numR st).2).2).1 (.slice aa (rowsR acR (txtR (txtR (numR st).2).2).2).1.length ca) 0 0) (by repeat' constructor) (by exact rfl) (.fold (p := partB b3 b4 (numR st).1 (txtR (numR st).2).1 (txtR (txtR (numR st).2).2).1 (.slice aa (rowsR acR (txtR (txtR (numR st).2).2).2).1.length ca) (numR (manyR numR 0 (rowsR acR (txtR (txtR (numR st).2).2).2).2).2).1 (numR (manyR numR 1 (rowsR acR (txtR (txtR (numR st).2).2).2).2).2).1 (numR (manyR numR 2 (rowsR acR (txtR (txtR (numR st).2).2).2).2).2).1 0) (q := [ptc b3 (partC (numR st).1 (txtR (numR st).2).1 (txtR (txtR (numR st).2).2).1 (.slice aa (rowsR acR (txtR (txtR (numR st).2).2).2).1.length ca) 0 0) 73, ptc b4 [vint 0] 3]) (by repeat' constructor) (fun _ hp => hp) ?_))
 refine .oq (.call Tryz.func185 rfl rfl (vs := [_, _]) rfl (winto_spec r (rowsR acR (txtR (txtR (numR st).2).2).2).2 _ [(b3, 4), (b3, 5), (b4, 0)] (slR 219 1 (.slice (some ⟨b5, 0, none⟩) 3 3) 3 ([(b3, 4), (b3, 5), (b4, 0)].map addrV)) (fun h hp => slR_rd hp) (partB b3 b4 (numR st).1 (txtR (numR st).2).1 (txtR (txtR (numR st).2).2).1 (.slice aa (rowsR acR (txtR (txtR (numR st).2).2).2).1.length ca) (numR (manyR numR 0 (rowsR acR (txtR (txtR (numR st).2).2).2).2).2).1 (numR (manyR numR 1 (rowsR acR (txtR (txtR (numR st).2).2).2).2).2).1 (numR (manyR numR 2 (rowsR acR (txtR (txtR (numR st).2).2).2).2).2).1) ?hB40 (by simp))) ?_
 case hB40 => exact into_part b3 b4 _ _ _ _ _
 rintro v L' ⟨rfl, rfl⟩
 refine .nil (.focus (p := partB b3 b4 (numR st).1 (txtR (numR st).2).1 (txtR (txtR (numR st).2).2).1 (.slice aa (rowsR acR (txtR (txtR (numR st).2).2).2).1.length ca) (numR (manyR numR 0 (rowsR acR (txtR (txtR (numR st).2).2).2).2).2).1 (numR (manyR numR 1 (rowsR acR (txtR (txtR (numR st).2).2).2).2).2).1 (numR (manyR numR 2 (rowsR acR (txtR (txtR (numR st).2).2).2).2).2).1 3) (by repeat' constructor) (.unfold (q := [ptc b3 (partC (numR st).1 (txtR (numR st).2).1 (txtR (txtR (numR st).2).2).1 (.slice aa (rowsR acR (txtR (txtR (numR st).2).2).2).1.length ca) (numR (manyR numR 0 (rowsR acR (txtR (txtR (numR st).2).2).2).2).2).1 (numR (manyR numR 1 (rowsR acR (txtR (txtR (numR st).2).2).2).2).2).1) 73, ptc b4 [vint (numR (manyR numR 2 (rowsR acR (txtR (txtR (numR st).2).2).2).2).2).1] 3]) (fun _ hp => hp) ?_))
 simp only [List.cons_append, List.nil_append]
 refine .then_n (.sr (.u (.ld rfl ag_3) (.u (.fieldAddr rfl fo_73_6) (.oq (.store rfl rfl rfl sz_60 ?c45 (nfz0 _ _)) ?_))))
 case c45 => simp [partC]
 rintro v L' rfl
 refine .nil (.ptCast (b := b3) (l' := ptC ((ptR st).1.wa (.slice aa (rowsR acR (txtR (txtR (numR st).2).2).2).1.length ca))) (by repeat' constructor) (by exact rfl) (.then_n (.sr (.q (.loadAs (vs := ptC ((ptR st).1.wa (.slice aa (rowsR acR (txtR (txtR (numR st).2).2).2).1.length ca))) rfl ag_73 (by repeat' constructor) (by simp [ptC]) rfl) rfl (.oq (.storeA rfl rfl ?c49 sz_73 ?c52 ?c50 (nfz0 _ _)) ?_)))))
 case c49 => exact pt_cells rfl rfl
 case c52 => rfl
 case c50 => simp [ptC]
 rintro v L' rfl
 refine .nt (.ret (.ptCast (b := b2) (l' := ptC ((ptR st).1.wa (.slice aa (rowsR acR (txtR (txtR (numR st).2).2).2).1.length ca))) (by repeat' constructor) (by exact rfl) ?_))
 exact .d1 rfl (.cellA rfl ag_73 (by repeat' constructor) (by simp [ptC]) rfl) ⟨_, _, rfl, rfl⟩
structure EnK (e : En) : Prop where
 x : isCell e.x.aclV = true ∧ isCell e.x.subsV = true
 subs : ∀ y ∈ e.subs, isCell y.aclV = true ∧ y.subsV = nilV
theorem EnK.cells {e : En} (h : EnK e) : ∀ v ∈ enC e, isCell v = true := by
 intro v hv
 unfold enC at hv
 rcases List.mem_append.1 hv with hv | hv
 ·simp at hv; rcases hv with rfl | rfl | rfl <;> rfl
 ·exact pt_cells h.x.1 h.x.2 v hv
def pt0 : Pt := ⟨0, [], [], nilV, [], 0, 0, 0, nilV⟩
def en0 : En := ⟨0, 0, 0, pt0, []⟩
theorem entR_0 : ∀ h, entR en0 h := fun h => ⟨fun _ => none, h, fun _ => .inl rfl, fun _ _ e => (by cases e), fun _ _ e => e, slR_nil _ _ _, fun _ => none, h, fun _ => .inl rfl, fun _ _ e => (by cases e), fun _ _ e => e, slR_nil _ _ _, fun _ => none, h, fun _ => .inl rfl, fun _ _ e => (by cases e), fun _ _ e => e, trivial, trivial⟩
def GotZ (s : Bs) (e : En) (er : Int) : Prop := (er = 0 ∧ getZ s = some e.pl ∧ EnK e) ∨ (er = 120 ∧ getZ s = none ∧ e = en0)
theorem wrpart_spec (r : Nat) (st : Rs) : Fn Tryz.prog 187 #[vptr r, .func (.func 186) #[] #[]] [rdR r st] fun v L => ∃ a c, ∃ ys : List Pt, ys.map Pt.pl = (rowsR ptR st).1 ∧ (∀ y ∈ ys, isCell y.aclV = true ∧ y.subsV = nilV) ∧ v = .slice a ys.length c ∧ L = [rdR r (rowsR ptR st).2, slR 73 8 v ys.length (ys.flatMap ptC), bigR aclR ys] := by
 refine Fn.intro Tryz.func187 rfl rfl fun F W => ?_
 obtain ⟨m, hm⟩ : ∃ m, m = (cntR st).1 := ⟨_, rfl⟩
 obtain ⟨st1, hst1⟩ : ∃ s, s = (cntR st).2 := ⟨_, rfl⟩
 have hm2 := cntR_le st
 have hrow : rowsR ptR st = manyR ptR m st1 := by rw [hm, hst1]; rfl
 rw [hrow]
 refine .sr (.an rfl (.seq (.add (slR_nil 73 8) (.add (p := bigR aclR []) (fun h => big_nil h) (.region (.an rfl (.seq (.sm rfl (.oq (.c Tryz.func223 [_, _] (rcount_spec r 256 (by decide) st)) ?_)))))))))
 rintro v L' ⟨rfl, rfl⟩; rw [show (runP 0 (cntP 256) st).1 = m from hm.symm, show (runP 0 (cntP 256) st).2 = st1 from hst1.symm]
 refine .m rfl (.nt (.block (.loopK (ι := Nat × Value × (List Pt)) (fun q E => (8, vint q.1) :: (5, q.2.1) :: E) (fun q => [rdR r (manyR ptR q.1 st1).2, slR 73 8 q.2.1 q.1 (q.2.2.flatMap ptC), bigR aclR q.2.2]) (fun q => q.1 ≤ m ∧ (∃ a c, q.2.1 = .slice a q.1 c) ∧ q.2.2.map Pt.pl = (manyR ptR q.1 st1).1 ∧ ∀ y ∈ q.2.2, isCell y.aclV = true ∧ y.subsV = nilV) (fun q => m - q.1) (0, .slice none 0 0, []) (ts := [0, 1, 4, 7]) (.cons rfl (.cons rfl (.cons rfl (.cons rfl (.nil))))) (⟨Nat.zero_le _, ⟨none, 0, rfl⟩, rfl, fun y hy => by cases hy⟩) ⟨rfl, rfl, rfl, rfl, rfl, rfl, trivial⟩ (by repeat' constructor) ?_)))
 rintro ⟨j, u, ys⟩ ⟨hj, ⟨au, cu, hu⟩, hys, hyc⟩
 dsimp only
 dsimp only at hj hu hys hyc
 subst hu
 refine .sr (.ui rfl rfl rfl (.nt (.seq (.condD rfl (fun h9 => ?_) (fun h9 => ?_)))))
 ·have hj2 : j < m := by omega
  refine .sk (.seq (.block (.region (.m rfl (.m rfl (.m rfl (.oq (.callV Tryz.func186 rfl rfl (us := []) (vs := [_]) (ws := []) rfl rfl (wtpart_spec r _)) ?_)))))))
  rintro v L' ⟨ab, cb, rfl, rfl⟩; obtain ⟨y, hy⟩ : ∃ y : Pt, y = ((ptR (manyR ptR j st1).2).1.wa (.slice ab (ptR (manyR ptR j st1).2).1.acl.length cb)) := ⟨_, rfl⟩; rw [← hy]; have hyk : isCell y.aclV = true ∧ y.subsV = nilV := by (rw [hy]; exact ⟨rfl, rfl⟩)
  refine .oq (.buildSlice (vs := [_]) el_71 ze_73 rfl rfl rfl rfl (by first | (simp [Value.cells]; done) | (intro v hv; simp only [List.mem_cons, List.not_mem_nil, or_false] at hv; (repeat (first | (subst hv; rfl) | (rcases hv with hv | hv; (subst hv; rfl)))))) (by decide)) ?_
  rintro v L' ⟨b4, rfl, rfl⟩
  refine .oq (.append1 rfl rfl rfl el_71 ze_73 rfl rfl ?c15 ?c16 (Nat.le_refl _) ?c17 (by decide)) ?_
  case c15 => simp only [List.map_cons, List.map_nil, List.flatten_cons, List.flatten_nil, List.append_nil]; simp only [Value.cells]; intro z hz; exact pt_cells (y := y) hyk.1 (by rw [hyk.2]; rfl) z (by simpa using hz)
  case c16 => rfl
  case c17 => omega
  rintro v L' ⟨⟨a5, c5, rfl⟩, rfl⟩
  refine .a rfl (.nil (.blk_n (.then_n (.region (.q (.add rfl rfl (by omega)) rfl (.m rfl (.nt (.bigAdd (f := aclR) (l := ys) (p := aclR y) y rfl (by repeat' constructor) (.slCast (T := 73) (sz := 8) (m' := j + 1) (xs' := (ys ++ [y]).flatMap ptC) (by repeat' constructor) (by exact rfl) (by rw [List.flatMap_append]; simp [Value.cells]) ?_)))))))))
  exact .rk ((j + 1, .slice a5 (j + 1) c5, ys ++ [y])) (⟨by dsimp only; omega, ⟨_, _, rfl⟩, by show (ys ++ [y]).map Pt.pl = (manyR ptR j st1).1 ++ [_]; rw [List.map_append, hys, hy]; rfl, fun z hz => by rcases List.mem_append.1 hz with hz | hz; exact hyc z hz; rw [List.mem_singleton] at hz; subst hz; rw [hy]; exact ⟨rfl, rfl⟩⟩) (by dsimp only; omega) ⟨rfl, rfl, rfl, rfl, rfl, rfl, trivial⟩
 have hjj : j = m := by omega
 subst hjj
 have hyl : ys.length = j := by have h := congrArg List.length hys; rw [List.length_map, many_len] at h; exact h
 refine .slCast (T := 73) (sz := 8) (m' := ys.length) (xs' := ys.flatMap ptC) (by repeat' constructor) (by rw [hyl]) rfl (.exit (.then_e (.then_e (.blk_e (.then_n (.sm rfl (.an rfl (.ret ?_))))))))
 exact .dn rfl rfl ⟨au, cu, ys, hys, hyc, by rw [hyl], rfl⟩
theorem wtent_spec (r : Nat) (st : Rs) : Fn Tryz.prog 129 #[vptr r] [rdR r st] fun v L => ∃ e : En, e.pl = (enR st).1 ∧ EnK e ∧ v = .agg (enC e).toArray ∧ L = [rdR r (enR st).2, entR e] := by
 refine Fn.intro Tryz.func129 rfl rfl fun F W => ?_
 refine .sr (.oq (.allocA ze_75) ?_)
 rintro v L' ⟨b2, rfl, rfl⟩
 refine .nt (.sr (.oq (.allocA ze_75) ?_))
 rintro v L' ⟨b3, rfl, rfl⟩
 refine .nil (.ptCast (b := b3) (l' := entC 0 0 0) (by repeat' constructor) rfl (.fold (p := entB b3 (numR (manyR numR 0 st).2).1 (numR (manyR numR 1 st).2).1 (numR (manyR numR 2 st).2).1 0) (q := [ptc b3 (entC 0 0 0) 75]) (by repeat' constructor) (fun _ hp => (sep_one hp)) (.then_n (.sm rfl (.u (.fieldAddr rfl fo_75_0) (.u (.fieldAddr rfl fo_75_1) (.u (.fieldAddr rfl fo_75_2) (.oq (.buildSlice1 (vs := [_, _, _]) el_254 ze_219 rfl rfl rfl rfl rfl (by decide)) ?_))))))))
 rintro v L' ⟨b5, rfl, rfl⟩
 refine .slMake (b := b5) (n := 3) (c := 3) (xs := [(b3, 0), (b3, 1), (b3, 2)].map addrV) (by repeat' constructor) (by decide) (by simp) rfl (.oq (.call Tryz.func185 rfl rfl (vs := [_, _]) rfl (winto_spec r st _ [(b3, 0), (b3, 1), (b3, 2)] (slR 219 1 (.slice (some ⟨b5, 0, none⟩) 3 3) 3 ([(b3, 0), (b3, 1), (b3, 2)].map addrV)) (fun h hp => slR_rd hp) (entB b3 (numR (manyR numR 0 st).2).1 (numR (manyR numR 1 st).2).1 (numR (manyR numR 2 st).2).1) ?hB11 (by simp))) ?_)
 case hB11 => exact into_ent b3 st
 rintro v L' ⟨rfl, rfl⟩
 refine .nil (.focus (p := entB b3 (numR (manyR numR 0 st).2).1 (numR (manyR numR 1 st).2).1 (numR (manyR numR 2 st).2).1 3) (by repeat' constructor) (.unfold (q := [ptc b3 (entC (numR (manyR numR 0 st).2).1 (numR (manyR numR 1 st).2).1 (numR (manyR numR 2 st).2).1) 75]) (fun _ hp => one_sep hp) ?_))
 simp only [List.cons_append, List.nil_append]
 refine .then_n (.sm rfl (.oq (.c Tryz.func186 [_] (wtpart_spec r (manyR numR 3 st).2)) ?_))
 rintro v L' ⟨ab, cb, rfl, rfl⟩; obtain ⟨y, hy⟩ : ∃ y : Pt, y = ((ptR (manyR numR 3 st).2).1.wa (.slice ab (ptR (manyR numR 3 st).2).1.acl.length cb)) := ⟨_, rfl⟩; rw [← hy]; have hyk : isCell y.aclV = true ∧ y.subsV = nilV := by (rw [hy]; exact ⟨rfl, rfl⟩)
 refine .u (.fieldAddr rfl fo_75_3) (.oq (.storeA rfl rfl ?c18 sz_73 ?c21 ?c19 (nfz0 _ _)) ?_)
 case c18 => exact pt_cells (y := y) hyk.1 (by rw [hyk.2]; rfl)
 case c21 => rfl
 case c19 => simp [entC, ptC]
 rintro v L' rfl
 refine .nil (.ptCast (b := b3) (l' := [vint (numR (manyR numR 0 st).2).1, vint (numR (manyR numR 1 st).2).1, vint (numR (manyR numR 2 st).2).1] ++ ptC y) (by repeat' constructor) (by exact rfl) (.then_n (.sm rfl (.oq (.c Tryz.func187 [_, _] (wrpart_spec r _)) ?_))))
 rintro v L' ⟨sa, sc, ys, hys, hyc, rfl, rfl⟩
 refine .u (.fieldAddr rfl fo_75_3) (.u (.fieldAddr rfl fo_73_7) (.oq (.store rfl rfl rfl sz_71 ?c28 (nfz0 _ _)) ?_))
 case c28 => simp [ptC]
 rintro v L' rfl
 refine .nil ?_
 obtain ⟨e, he⟩ : ∃ e : En, e = (⟨(numR (manyR numR 0 st).2).1, (numR (manyR numR 1 st).2).1, (numR (manyR numR 2 st).2).1, y.ws (.slice sa ys.length sc), ys⟩ : En) := ⟨_, rfl⟩
 have hek : EnK e := by rw [he]; exact ⟨⟨hyk.1, rfl⟩, hyc⟩
 refine .ptCast (b := b3) (l' := enC e) (by repeat' constructor) (by rw [he]; rfl) (.fold (p := entR e) (q := [aclR y, slR 73 8 (.slice sa ys.length sc) ys.length (ys.flatMap ptC), bigR aclR ys]) (by repeat' constructor) (fun _ hp => by rw [he]; exact hp) (.then_n (.sr (.q (.loadAs (vs := enC e) rfl ag_75 (by repeat' constructor) (by simp [enC, ptC]) rfl) rfl (.oq (.storeA rfl rfl ?c32 sz_75 ?c35 ?c33 (nfz0 _ _)) ?_)))))
 case c32 => exact hek.cells
 case c35 => rfl
 case c33 => simp [enC, ptC]
 rintro v L' rfl
 refine .nt (.ret (.ptCast (b := b2) (l' := enC e) (by repeat' constructor) (by exact rfl) ?_))
 exact .d1 rfl (.cellA rfl ag_75 (by repeat' constructor) (by simp [enC, ptC]) rfl) ⟨e, by rw [he]; unfold En.pl; dsimp only; rw [hys, hy]; rfl, hek, rfl, rfl⟩
theorem get_bad {s : Bs} (h : ¬ (enR (some s)).2 = some []) : getZ s = none := by
 unfold getZ getR
 split
 ·rename_i q hq; rw [hq] at h; exact absurd rfl h
 ·rfl
theorem get_ok {s : Bs} (h : (enR (some s)).2 = some []) : getZ s = some (enR (some s)).1 := by
 unfold getZ getR
 split
 ·rename_i q hq; rw [hq]
 ·rename_i h2; exact absurd (show enR (some s) = ((enR (some s)).1, some []) by rw [← h]) (h2 _)
theorem wgetG_spec (s : Bs) (hs : s.length ≤ 2147483648) : Fn Tryz.prog 128 #[vstr s, .func (.func 129) #[] #[]] [] fun v L => ∃ e er, GotZ s e er ∧ v = .tuple #[.agg (enC e).toArray, vint er] ∧ L = [entR e] := by
 refine Fn.intro Tryz.func128 rfl rfl fun F W => ?_
 refine .sr (.oq (.allocA ze_75) ?_)
 rintro v L' ⟨b4, rfl, rfl⟩
 refine .an rfl (.sm rfl (.oq (.c Tryz.func183 [_] (cread_spec s (by omega))) ?_))
 rintro v L' ⟨r, rfl, rfl⟩
 refine .an rfl (.sm rfl (.m rfl (.oq (.callV Tryz.func129 rfl rfl (us := []) (vs := [_]) (ws := []) rfl rfl (wtent_spec r (some s))) ?_)))
 rintro v L' ⟨e, hpl, hek, rfl, rfl⟩
 refine .oq (.allocA ze_75) ?_
 rintro v L' ⟨b7, rfl, rfl⟩
 refine .oq (.storeA rfl rfl ?c12 sz_75 ?c15 ?c13 (nfz0 _ _)) ?_
 case c12 => exact hek.cells
 case c15 => rfl
 case c13 => simp [enC, ptC]
 rintro v L' rfl
 refine .nil (.ptCast (b := b7) (l' := enC e) (by repeat' constructor) (by exact rfl) (.then_n (.seq (.sm rfl (.oq (.c Tryz.func184 [_] (rend_spec r _)) ?_)))))
 rintro v L' ⟨e1, he1, rfl, st', rfl⟩
 refine .ui rfl rfl rfl (.nt (.condN rfl (fun h16 => ?_) (fun h16 => ?_)))
 ·refine .sr (.oq (.allocA ze_75) ?_)
  rintro v L' ⟨b8, rfl, rfl⟩
  refine .nil (.ptCast (b := b8) (l' := enC en0) (by repeat' constructor) (by exact rfl) (.add entR_0 (.then_n (.sr (.q (.loadAs (vs := enC en0) rfl ag_75 (by repeat' constructor) (by simp [enC, ptC]) rfl) rfl (.oq (.storeA rfl rfl ?c23 sz_75 ?c26 ?c24 (nfz0 _ _)) ?_))))))
  case c23 => decide
  case c26 => rfl
  case c24 => simp [enC, ptC]
  rintro v L' rfl
  refine .a rfl (.nil (.ptCast (b := b4) (l' := enC en0) (by repeat' constructor) (by exact rfl) (.then_n (.rt ?_))))
  exact .d2 rfl (.cellA rfl ag_75 (by repeat' constructor) (by simp [enC, ptC]) rfl) (.tmp rfl) ⟨en0, 120, .inr ⟨rfl, get_bad (fun g => h16 (he1.2 g)), rfl⟩, rfl, rfl⟩
 refine .sk (.sr (.q (.loadAs (vs := enC e) rfl ag_75 (by repeat' constructor) (by simp [enC, ptC]) rfl) rfl (.oq (.storeA rfl rfl ?c30 sz_75 ?c33 ?c31 (nfz0 _ _)) ?_)))
 case c30 => exact hek.cells
 case c33 => rfl
 case c31 => simp [enC, ptC]
 rintro v L' rfl
 refine .a rfl (.nil (.ptCast (b := b4) (l' := enC e) (by repeat' constructor) (by exact rfl) (.then_n (.ret ?_))))
 exact .d2 rfl (.cellA rfl ag_75 (by repeat' constructor) (by simp [enC, ptC]) rfl) (.tmp rfl) ⟨e, 0, .inl ⟨rfl, by rw [hpl]; exact get_ok (he1.1 h16), hek⟩, rfl, rfl⟩
theorem GotZ.cells {s : Bs} {e : En} {er : Int} (h : GotZ s e er) : ∀ v ∈ enC e, isCell v = true := by
 rcases h with ⟨-, -, h⟩ | ⟨-, -, rfl⟩
 ·exact h.cells
 ·decide
theorem wget_spec (s : Bs) (hs : s.length ≤ 2147483648) : Fn Tryz.prog 82 #[vstr s] [] fun v L => ∃ e er, GotZ s e er ∧ v = .tuple #[.agg (enC e).toArray, vint er] ∧ L = [entR e] := by
 refine Fn.intro Tryz.func82 rfl rfl fun F W => ?_
 refine .sr (.oq (.allocA ze_75) ?_)
 rintro v L' ⟨b2, rfl, rfl⟩
 refine .an rfl (.sm rfl (.oq (.c Tryz.func128 [_, _] (wgetG_spec s hs)) ?_))
 rintro v L' ⟨e, er, hg, rfl, rfl⟩
 refine .u (.extract rfl rfl) (.u (.extract rfl rfl) (.oq (.storeA rfl rfl ?c9 sz_75 ?c12 ?c10 (nfz0 _ _)) ?_))
 case c9 => exact hg.cells
 case c12 => rfl
 case c10 => simp [enC, ptC]
 rintro v L' rfl
 refine .a rfl (.nil (.ptCast (b := b2) (l' := enC e) (by repeat' constructor) (by exact rfl) (.then_n (.ret ?_))))
 exact .d2 rfl (.cellA rfl ag_75 (by repeat' constructor) (by simp [enC, ptC]) rfl) (.tmp rfl) ⟨e, er, hg, rfl, rfl⟩
def zs : List UInt8 := List.replicate 64 0
theorem zs_len : zs.length = 64 := rfl
structure Dk where
 now : List (List UInt8)
 old : List (Int × List UInt8)
 acts : Int
 left : Int
 dead : Bool
structure Dk.Ok (δ : Dk) : Prop where
 sec : ∀ s ∈ δ.now, s.length = 64
 olds : ∀ x ∈ δ.old, x.2.length = 64 ∧ 0 ≤ x.1 ∧ x.1 < δ.now.length
 nodup : (δ.old.map (·.1)).Nodup
 big : δ.now.length ≤ 32768
 acts0 : 0 ≤ δ.acts
 left0 : 0 ≤ δ.left ∧ δ.left ≤ 9223372036854775807
abbrev bys (s : List UInt8) : List Value := s.map vbyte
def secV (s : List UInt8) : Value := .agg (bys s).toArray
def secsC (l : List (List UInt8)) : List Value := l.flatMap bys
def oldsV (m : List (Int × List UInt8)) : List (Value × Value) := m.map fun x => (vint x.1, secV x.2)
theorem bys_cell (s : List UInt8) : ∀ v ∈ bys s, isCell v = true := by simp [isCell]
theorem secsC_length {l : List (List UInt8)} (h : ∀ s ∈ l, s.length = 64) : (secsC l).length = l.length * 64 := by
 induction l with
 | nil => rfl
 | cons s l ih => simp [secsC] at *; rw [ih h.2, h.1]; omega
theorem secsC_at {l : List (List UInt8)} (h : ∀ s ∈ l, s.length = 64) {n : Nat} (hn : n < l.length) : ((secsC l).drop (n * 64)).take 64 = bys l[n] := by
 induction l generalizing n with
 | nil => simp at hn
 | cons s l ih =>
  have hs := h s (by simp)
  have hl : ∀ t ∈ l, t.length = 64 := fun t ht => h t (List.mem_cons_of_mem _ ht)
  cases n with
  | zero => simp [secsC, List.take_append, hs]
  | succ n =>
   have : (n + 1) * 64 = s.length + n * 64 := by omega
   rw [show secsC (s :: l) = bys s ++ secsC l from by simp [secsC], this]
   rw [List.drop_append, List.drop_eq_nil_of_le (by simp), List.nil_append]
   simp only [List.length_map, Nat.add_sub_cancel_left]
   exact ih hl (by simpa using hn)
theorem secsC_set {l : List (List UInt8)} (h : ∀ s ∈ l, s.length = 64) {n : Nat} (hn : n < l.length) {t : List UInt8} (ht : t.length = 64) : spl (secsC l) (n * 64) (bys t) = secsC (l.set n t) := by
 induction l generalizing n with
 | nil => simp at hn
 | cons s l ih =>
  have hs := h s (by simp)
  have hl : ∀ t ∈ l, t.length = 64 := fun t ht => h t (List.mem_cons_of_mem _ ht)
  cases n with
  | zero =>
   simp only [Nat.zero_mul, List.set_cons_zero]
   simp [spl, secsC, ht, hs, List.drop_append]
  | succ n =>
   have e : (n + 1) * 64 = s.length + n * 64 := by omega
   have := ih hl (n := n) (by simpa using hn)
   simp only [List.set_cons_succ]
   rw [show secsC (s :: l) = bys s ++ secsC l from by simp [secsC], show secsC (s :: l.set n t) = bys s ++ secsC (l.set n t) from by simp [secsC], ← this, e]
   simp [spl, List.take_append, List.drop_append, List.take_of_length_le, List.drop_eq_nil_of_le, Nat.add_sub_cancel_left, Nat.add_assoc]
def dkR (d : Nat) (δ : Dk) : HP := fun h => ∃ x : Nat × Nat, δ.Ok ∧
 sep [ptc d [.slice (some ⟨x.1, 0, none⟩) δ.now.length δ.now.length, .map (some x.2), vint δ.acts, vint δ.left, .bool δ.dead] 115,
  ptc x.1 (secsC δ.now) 223, mapR x.2 (oldsV δ.old)] h
section
variable {W : World} {n : Nat} {ds : List Deferred} {E : Env} {L R : List HP} {X : Act → World → Prop}
theorem G.dkOpen {d : Nat} {δ : Dk} (hL : Pick (dkR d δ) L R) (h : ∀ nb ob, δ.Ok → G W n ds E (ptc d [.slice (some ⟨nb, 0, none⟩) δ.now.length δ.now.length, .map (some ob), vint δ.acts, vint δ.left, .bool δ.dead] 115 ::
  ptc nb (secsC δ.now) 223 :: mapR ob (oldsV δ.old) :: R) X) : G W n ds E L X :=
 G.focus hL (G.open (q := fun x : Nat × Nat => [ptc d [.slice (some ⟨x.1, 0, none⟩) δ.now.length δ.now.length, .map (some x.2), vint δ.acts, vint δ.left, .bool δ.dead] 115,
  ptc x.1 (secsC δ.now) 223, mapR x.2 (oldsV δ.old)]) (φ := fun _ => δ.Ok) (fun _ hp => hp) fun x hx => h x.1 x.2 hx)
theorem G.dkFold {d nb ob : Nat} {δ : Dk} {l l1 : List Value} {ents : List (Value × Value)} (hL : Picks [ptc d l 115, ptc nb l1 223, mapR ob ents] L R)
  (h1 : l = [.slice (some ⟨nb, 0, none⟩) δ.now.length δ.now.length, .map (some ob), vint δ.acts, vint δ.left, .bool δ.dead]) (h2 : l1 = secsC δ.now) (h3 : ents = oldsV δ.old) (hok : δ.Ok)
  (h : G W n ds E (dkR d δ :: R) X) : G W n ds E L X := by
 subst h1; subst h2; subst h3
 exact G.fold hL (fun _ hp => ⟨(nb, ob), hok, hp⟩) h
end
def Dk.new (n : Int) : Dk := ⟨List.replicate n.toNat zs, [], 0, 0, false⟩
def actE (left : Int) : Int := if left = 0 then 0 else if left - 1 > 0 then 0 else 2
def actL (left : Int) : Int := if left = 0 then 0 else left - 1
def actD (left : Int) (dead : Bool) : Bool := if left = 0 then dead else if left - 1 > 0 then dead else true
def Dk.act (δ : Dk) : Dk × Int := ({ δ with acts := δ.acts + 1, left := actL δ.left, dead := actD δ.left δ.dead }, actE δ.left)
def Dk.has (δ : Dk) (n : Int) : Bool := decide (0 ≤ n) && decide (n < δ.now.length)
def Dk.read (δ : Dk) (n : Int) : List UInt8 × Int :=
 if δ.dead then ([], 2) else if δ.has n = false then ([], 20) else (δ.now.getD n.toNat [], 0)
def Dk.put (δ : Dk) (n : Int) (s : List UInt8) : Dk :=
 { δ with now := δ.now.set n.toNat s, old := if (alook δ.old n).isSome then δ.old else aset δ.old n (δ.now.getD n.toNat []) }
def Dk.write (δ : Dk) (n : Int) (s : List UInt8) : Dk × Int :=
 if δ.dead then (δ, 2) else if δ.has n = false ∨ s.length ≠ 64 then (δ, 20) else (δ.put n s).act
def Dk.sync (δ : Dk) : Dk × Int :=
 if δ.dead then (δ, 2) else if δ.act.2 = 0 then ({ δ.act.1 with old := [] }, 0) else (δ.act.1, δ.act.2)
def Dk.arm (δ : Dk) (n : Int) : Dk × Int :=
 if δ.dead then (δ, 2) else if n < 0 then (δ, 1) else ({ δ with left := n }, 0)
theorem Dk.Ok.acted {δ : Dk} (h : δ.Ok) : δ.act.1.Ok := by
 obtain ⟨a, b, c, d, e, f⟩ := h
 refine ⟨a, b, c, d, by simp [Dk.act]; omega, ?_⟩
 simp only [Dk.act, actL]
 split <;> omega
theorem alook_mem {β : Type} {m : List (Int × β)} {k : Int} {b : β} (h : alook m k = some b) : (k, b) ∈ m := by
 induction m with
 | nil => cases h
 | cons x m ih =>
  obtain ⟨a, c⟩ := x
  by_cases hk : k = a
  ·subst hk; simp [alook] at h; simp [h]
  ·simp [alook, hk] at h; exact List.mem_cons_of_mem _ (ih h)
theorem alook_none {β : Type} {m : List (Int × β)} {k : Int} (h : alook m k = none) : k ∉ m.map (·.1) := by
 induction m with
 | nil => simp
 | cons x m ih =>
  obtain ⟨a, c⟩ := x
  by_cases hk : k = a
  ·subst hk; simp [alook] at h
  ·simp [alook, hk] at h; simp [hk, ih h]
theorem has_lt {δ : Dk} {n : Int} (h : δ.has n = true) : 0 ≤ n ∧ n < δ.now.length ∧ n.toNat < δ.now.length := by
 simp [Dk.has] at h; omega
theorem Dk.Ok.putOk {δ : Dk} (h : δ.Ok) {n : Int} {s : List UInt8} (hn : δ.has n = true) (hs : s.length = 64) : (δ.put n s).Ok := by
 obtain ⟨a, b, c, d, e, f⟩ := h
 obtain ⟨h0, h1, h2⟩ := has_lt hn
 have hget : δ.now.getD n.toNat [] = δ.now[n.toNat] := by simp [h2]
 refine ⟨fun t ht => ?_, fun x hx => ?_, ?_, by simpa [Dk.put] using d, e, f⟩
 ·simp only [Dk.put] at ht
  rcases List.mem_or_eq_of_mem_set ht with ht | rfl
  ·exact a t ht
  ·exact hs
 ·simp only [Dk.put, List.length_set] at hx ⊢
  split at hx
  ·exact b x hx
  ·rename_i hn'
   rw [aset_none (by simpa using hn')] at hx
   simp only [List.mem_append, List.mem_singleton] at hx
   rcases hx with hx | rfl
   ·exact b x hx
   ·exact ⟨by rw [hget]; exact a _ (List.getElem_mem _), h0, h1⟩
 ·simp only [Dk.put]
  split
  ·exact c
  ·rename_i hn'
   have hn' : alook δ.old n = none := by simpa using hn'
   rw [aset_none hn', List.map_append]
   refine List.nodup_append.2 ⟨c, by simp, fun a ha b hb => ?_⟩
   simp at hb; subst hb
   exact fun hab => alook_none hn' (hab ▸ ha)
theorem Dk.Ok.cleared {δ : Dk} (h : δ.Ok) : ({ δ with old := [] } : Dk).Ok := ⟨h.sec, by simp, by simp, h.big, h.acts0, h.left0⟩
def byteZ (x : Int) : UInt8 := UInt8.ofNat (x % 256).toNat
def beB (n : Int) : Nat → Bs
 | 0 => []
 | k + 1 => beB (n / 256) k ++ [byteZ n]
theorem beB_len (k : Nat) : ∀ n, (beB n k).length = k := by
 induction k with
 | zero => intro n; rfl
 | succ k ih => intro n; simp [beB, ih]
theorem beB_at (k : Nat) : ∀ (n : Int) (i : Nat), i < k → (beB n k)[k - 1 - i]? = some (byteZ (n / 256 ^ i)) := by
 induction k with
 | zero => intro n i h; omega
 | succ k ih =>
  intro n i h
  simp only [beB]
  cases i with
  | zero =>
   rw [List.getElem?_append_right (by rw [beB_len]; omega), beB_len]
   simp
  | succ i =>
   have := ih (n / 256) i (by omega)
   rw [List.getElem?_append_left (by rw [beB_len]; omega), show k + 1 - 1 - (i + 1) = k - 1 - i by omega, this, Int.ediv_ediv_of_nonneg (by omega)]
   congr 3
   rw [Int.pow_succ]; exact Int.mul_comm _ _
theorem vbyteZ (x : Int) : vbyte (byteZ x) = .int .u8 (IntKind.u8.wrap x) := by
 show Value.int .u8 _ = Value.int .u8 (x % 256)
 congr 1
 simp [byteZ]; omega
def fillB (l : List Value) (off : Nat) (n : Int) (k i : Nat) : List Value := l.take (off + (k - i)) ++ bysL ((beB n k).drop (k - i)) ++ l.drop (off + k)
theorem fillB_0 (l : List Value) (off : Nat) (n : Int) (k : Nat) : fillB l off n k 0 = l := by
 simp [fillB, bysL, List.drop_eq_nil_of_le, beB_len]
theorem fillB_k (l : List Value) (off : Nat) (n : Int) (k : Nat) : fillB l off n k k = spl l off (bysL (beB n k)) := by
 simp [fillB, spl, bysL, beB_len]
theorem fillB_step {l : List Value} {off : Nat} {n : Int} {k i : Nat} (hi : i < k) (hl : off + k ≤ l.length) : (fillB l off n k i).set (off + (k - 1 - i)) (vbyte (byteZ (n / 256 ^ i))) = fillB l off n k (i + 1) := by
 have h1 := beB_at k n i hi
 have hlen : (beB n k).length = k := beB_len k n
 unfold fillB
 have e1 : l.take (off + (k - i)) = l.take (off + (k - 1 - i)) ++ [l[off + (k - 1 - i)]'(by omega)] := by
  rw [show off + (k - i) = off + (k - 1 - i) + 1 by omega, List.take_succ_eq_append_getElem (by omega)]
 have e2 : (beB n k).drop (k - (i + 1)) = byteZ (n / 256 ^ i) :: (beB n k).drop (k - i) := by
  have : k - (i + 1) = k - 1 - i := by omega
  rw [this, List.drop_eq_getElem_cons (by omega)]
  have h3 : (beB n k)[k - 1 - i]'(by omega) = byteZ (n / 256 ^ i) := by
   rw [List.getElem?_eq_getElem (by omega)] at h1; exact Option.some.inj h1
  rw [h3, show k - 1 - i + 1 = k - i by omega]
 rw [e1, e2, show off + (k - (i + 1)) = off + (k - 1 - i) by omega]
 rw [List.append_assoc, List.append_assoc, List.append_assoc, List.set_append_right _ _ (by simp; omega)]
 have : (l.take (off + (k - 1 - i))).length = off + (k - 1 - i) := by rw [List.length_take]; omega
 rw [this, Nat.sub_self]
 simp [bysL]
theorem fillB_len {l : List Value} {off : Nat} {n : Int} {k i : Nat} (hi : i ≤ k) (hl : off + k ≤ l.length) : (fillB l off n k i).length = l.length := by
 simp [fillB, bysL, beB_len]; omega
theorem pow256 (i : Nat) : (2 : Int) ^ (8 * i) = 256 ^ i := by rw [Int.pow_mul]; rfl
theorem shr_at {n : Int} {i : Nat} (hi : i ≤ 7) : IntKind.u8.wrap (n.fdiv (2 ^ min (8 * (i : Int)).toNat IntKind.i64.bits)) = IntKind.u8.wrap (n / 256 ^ i) := by
 have e : min (8 * (i : Int)).toNat IntKind.i64.bits = 8 * i := by
  have : IntKind.i64.bits = 64 := rfl
  omega
 rw [e, pow256, Int.fdiv_eq_ediv_of_nonneg _ (Int.le_of_lt (Int.pow_pos (by decide)))]
def smallZ (s : Bs) : Int := IntKind.i64.wrap (beZ s 0)
theorem beZ_append (s t : Bs) : ∀ n, beZ (s ++ t) n = beZ t (beZ s n) := by
 induction s with
 | nil => intro n; rfl
 | cons c s ih => intro n; simp [beZ, ih]
/-! ### The sum -/
def sumStep (h : Int) (c : UInt8) : Int := IntKind.u32.wrap (IntKind.u32.wrap (BitVec.ofInt 32 h ^^^ BitVec.ofInt 32 (IntKind.u32.wrap c.toNat)).toNat * 16777619)
def sumZ (s : Bs) : Int := s.foldl sumStep 2166136261
theorem sumZ_next {s : Bs} {i : Nat} (hi : i < s.length) : sumZ (s.take (i + 1)) = sumStep (sumZ (s.take i)) s[i] := by
 rw [List.take_succ_eq_append_getElem hi, sumZ, List.foldl_append]; rfl
theorem u32wrap (x : Int) : IntKind.u32.wrap x = x % 4294967296 := rfl
theorem sumZ_range (s : Bs) : 0 ≤ sumZ s ∧ sumZ s < 4294967296 := by
 rcases List.eq_nil_or_concat s with rfl | ⟨t, c, rfl⟩
 ·exact ⟨by decide, by decide⟩
 ·rw [sumZ, List.concat_eq_append, List.foldl_append]
  simp only [List.foldl_cons, List.foldl_nil]
  rw [sumStep, u32wrap]; omega
/-! ### Records, marks -/
def headZ (s : Bs) : Bs := beB s.length 2 ++ s
def recZ (s : Bs) : Bs := headZ s ++ beB (sumZ (headZ s)) 4
theorem recZ_len (s : Bs) : (recZ s).length = s.length + 6 := by simp [recZ, headZ, beB_len]; omega
def laidZ (l : List Bs) : Bs := l.flatMap recZ
theorem laidZ_append (l m : List Bs) : laidZ (l ++ m) = laidZ l ++ laidZ m := by simp [laidZ]
theorem recZ_mem {l : List Bs} {s : Bs} (h : s ∈ l) : s.length + 6 ≤ (laidZ l).length := by
 induction l with
 | nil => simp at h
 | cons x l ih =>
  have e : laidZ (x :: l) = recZ x ++ laidZ l := by simp [laidZ]
  rw [e, List.length_append, recZ_len]
  rcases List.mem_cons.1 h with rfl | h
  ·omega
  ·have := ih h; omega
theorem laidZ_many (l : List Bs) : l.length ≤ (laidZ l).length := by
 induction l with
 | nil => simp
 | cons x l ih =>
  have e : laidZ (x :: l) = recZ x ++ laidZ l := by simp [laidZ]
  rw [e, List.length_append, recZ_len, List.length_cons]; omega
theorem laidZ_take_len (l : List Bs) (i : Nat) : (laidZ (l.take i)).length ≤ (laidZ l).length := by
 have e : laidZ l = laidZ (l.take i) ++ laidZ (l.drop i) := by rw [← laidZ_append, List.take_append_drop]
 rw [e, List.length_append]; omega
theorem laidZ_succ {l : List Bs} {i : Nat} (hi : i < l.length) : laidZ (l.take (i + 1)) = laidZ (l.take i) ++ recZ l[i] := by
 rw [List.take_succ_eq_append_getElem hi, laidZ_append]; simp [laidZ]
theorem spl_zero {p q : Bs} {k off : Nat} {z : Value} (ho : off = p.length) (hq : q.length ≤ k) : spl (bysL p ++ List.replicate k z) off (bysL q) = bysL (p ++ q) ++ List.replicate (k - q.length) z := by
 subst ho
 rw [← bysL_len p, bysL_append]
 simp [spl, List.drop_append, bysL_len]
structure Mk where
 count : Int
 area : Int
 len : Int
 num : Int
 a : Int
 b : Int
def mkC (m : Mk) : List Value := [vint m.count, vint m.area, vint m.len, vint m.num, vint m.a, vint m.b]
def Mk.sec (m : Mk) : Bs := [87, 77] ++ beB m.count 4 ++ beB m.area 1 ++ beB m.len 4 ++ beB m.num 4 ++ beB m.a 8 ++ beB m.b 8 ++ List.replicate 29 0 ++ beB m.count 4
def Mk.part (m : Mk) : Nat → Bs
 | 0 => [87, 77]
 | 1 => beB m.count 4
 | 2 => beB m.area 1
 | 3 => beB m.len 4
 | 4 => beB m.num 4
 | 5 => beB m.a 8
 | _ => beB m.b 8
def Mk.pre (m : Mk) (j : Nat) : Bs := (List.range (j + 1)).flatMap m.part
theorem Mk.pre_succ (m : Mk) (j : Nat) : m.pre (j + 1) = m.pre j ++ m.part (j + 1) := by
 unfold Mk.pre; rw [List.range_succ, List.flatMap_append]; simp
theorem Mk.pre_len (m : Mk) : (m.pre 0).length = 2 ∧ (m.pre 1).length = 6 ∧ (m.pre 2).length = 7 ∧ (m.pre 3).length = 11 ∧ (m.pre 4).length = 15 ∧ (m.pre 5).length = 23 ∧ (m.pre 6).length = 31 := by
 simp [Mk.pre, List.range_succ, Mk.part, beB_len]
abbrev zB : Value := .int .u8 0
def Mk.at (m : Mk) (j k : Nat) : List Value := bysL (m.pre j) ++ List.replicate k zB
theorem Mk.at_step (m : Mk) {j k off : Nat} {q : Bs} (ho : off = (m.pre j).length) (hq : q = m.part (j + 1)) (hl : q.length ≤ k) : spl (m.at j k) off (bysL q) = m.at (j + 1) (k - q.length) := by
 unfold Mk.at; rw [spl_zero ho hl, m.pre_succ, hq]
theorem Mk.at_end (m : Mk) : spl (m.at 6 33) 60 (bysL (beB m.count 4)) = bysL m.sec := by
 have e : m.at 6 33 = bysL (m.pre 6 ++ List.replicate 29 0) ++ List.replicate 4 zB := by
  unfold Mk.at
  rw [bysL_append, List.append_assoc]
  rfl
 rw [e, spl_zero (by rw [List.length_append, m.pre_len.2.2.2.2.2.2, List.length_replicate]) (by simp [beB_len]), beB_len]
 unfold Mk.sec
 generalize List.replicate 29 (0 : UInt8) = z29
 simp [Mk.pre, List.range_succ, Mk.part]
theorem Mk.sec_len (m : Mk) : m.sec.length = 64 := by simp [Mk.sec, beB_len]
def halfZ (δ : Dk) : Int := ((δ.now.length : Int) - 2) / 2
theorem big_spec (b off k c : Nat) (n : Int) (l : List Value) (T : TypeId) (hk : k ≤ 8) (hl : off + k ≤ l.length) : Fn Tryz.prog 178 #[.slice (some ⟨b, off, none⟩) k c, vint n] [ptc b l T] fun v L => v = .tuple #[] ∧ L = [ptc b (spl l off (bysL (beB n k))) T] := by
 refine Fn.intro Tryz.func178 rfl rfl fun F W => ?_
 refine .sm rfl (.q (.slen rfl Tryz.underlying159 rfl) rfl (.m rfl (.nt (.block (.ptCast (by repeat' constructor) (fillB_0 l off n k).symm (.loopK (ι := Nat) (fun q E => (7, vint q) :: E) (fun q => [ptc b (fillB l off n k q) T]) (fun q => q ≤ k) (fun q => k - q) (0) (ts := [0, 1, 6]) (.cons rfl (.cons rfl (.cons rfl (.nil)))) (Nat.zero_le _) ⟨rfl, rfl, rfl, rfl, trivial⟩ (by repeat' constructor) ?_))))))
 rintro i hi
 refine .sr (.ui rfl rfl rfl (.nt (.seq (.condD rfl (fun h8 => ?_) (fun h8 => ?_)))))
 ·have hi2 : i < k := by omega
  refine .sk (.seq (.block (.sm rfl (.an rfl (.region (.m rfl (.m rfl (.q (.slen rfl Tryz.underlying159 rfl) rfl (.q (.sub rfl rfl (by omega)) rfl (.m rfl (.q (.sub rfl rfl (by omega)) rfl (.m rfl (.m rfl (.q (.mul rfl rfl (by omega)) rfl (.q (.shr rfl rfl (by first | decide | omega)) rfl (.q (.conv rfl Tryz.underlying3 Tryz.underlying5) rfl (.q (.indexAddr rfl rfl el_159 (by omega)) rfl (.oq (.store rfl rfl rfl sz_5 ?c16 (nfz0 _ _)) ?_))))))))))))))))))
  case c16 => rw [fillB_len (by omega) hl]; omega
  rintro v L' rfl
  refine .nil (.blk_n (.then_n (.region (.q (.add rfl rfl (by omega)) rfl (.m rfl (.nt (.ptCast (l' := fillB l off n k (i + 1)) (by repeat' constructor) (by rw [shr_at (by omega), ← vbyteZ, show off + ((k : Int) - 1 - i).toNat * 1 = off + (k - 1 - i) by omega]; exact fillB_step (by omega) hl) ?_)))))))
  exact .rk (i + 1) (by omega) (by omega) ⟨rfl, rfl, rfl, rfl, trivial⟩
 refine .exit (.then_e (.then_e (.blk_e (.done_n ?_))))
 have hi3 : i = k := by omega
 subst hi3
 refine .ptCast (by repeat' constructor) (fillB_k l off n i) ?_
 exact .vv
/- not in this seat -/
theorem sum_spec (s : Bs) (hs : s.length ≤ 9223372036854775807) : Fn Tryz.prog 179 #[vstr s] [] fun v L => v = .int .u32 (sumZ s) ∧ L = [] := by
 refine Fn.intro Tryz.func179 rfl rfl fun F W => ?_
 refine .sr (.an rfl (.sr (.an rfl (.seq (.sm rfl (.q (.strlen rfl Tryz.underlying9 rfl) rfl (.m rfl (.nt (.block (.loopK (ι := Nat) (fun q E => (7, vint q) :: (3, .int .u32 (sumZ (s.take q))) :: E) (fun q => []) (fun q => q ≤ s.length) (fun q => s.length - q) (0) (ts := [0, 2, 6]) (.cons rfl (.cons rfl (.cons rfl (.nil)))) (Nat.zero_le _) ⟨rfl, rfl, rfl, rfl, rfl, trivial⟩ (by repeat' constructor) ?_))))))))))
 rintro i hi
 refine .sr (.ui rfl rfl rfl (.nt (.seq (.condD rfl (fun h8 => ?_) (fun h8 => ?_)))))
 ·have hi2 : i < s.length := by simpa [bs_size] using h8
  refine .sk (.seq (.block (.sm rfl (.an rfl (.region (.m rfl (.m rfl (.m rfl (.q (.strIndex (c := s[i]) rfl rfl Tryz.underlying9 (by omega) (by simp)) rfl (.q (.conv rfl Tryz.underlying5 Tryz.underlying200) rfl (.u (.xor rfl rfl) (.q (.as (v' := .int .u32 (sumZ (s.take (i + 1)))) (by rw [sumZ_next hi2]; rfl) (.int rfl rfl rfl)) rfl (.a rfl (.nil (.blk_n (.then_n (.region (.q (.add rfl rfl (by omega)) rfl (.m rfl (.nt ?_))))))))))))))))))))
  exact .rk (i + 1) (by omega) (by omega) ⟨rfl, rfl, rfl, rfl, rfl, trivial⟩
 refine .exit (.then_e (.then_e (.blk_e (.then_n (.sm rfl (.an rfl (.ret ?_)))))))
 exact .dn rfl rfl ⟨by have hi3 : i = s.length := (by have h9 : ¬ (i : Int) < s.length := (by simpa [bs_size] using h8); omega); rw [hi3, List.take_length], rfl⟩
theorem rsum_spec (s : Bs) (hs : s.length ≤ 9223372036854775807) : Fn Tryz.prog 194 #[vstr s] [] fun v L => v = .int .u32 (sumZ s) ∧ L = [] := by
 refine Fn.intro Tryz.func194 rfl rfl fun F W => ?_
 refine .sr (.an rfl (.sr (.an rfl (.seq (.sr (.an rfl (.block (.loopK (ι := Nat) (fun q E => (4, vint q) :: (3, .int .u32 (sumZ (s.take q))) :: E) (fun q => []) (fun q => q ≤ s.length) (fun q => s.length - q) (0) (ts := [0, 2]) (.cons rfl (.cons rfl (.nil))) (Nat.zero_le _) ⟨rfl, rfl, rfl, rfl, trivial⟩ (by repeat' constructor) ?_))))))))
 rintro i hi
 refine .seq (.sm rfl (.m rfl (.q (.strlen rfl Tryz.underlying9 rfl) rfl (.ui rfl rfl rfl (.nt (.condD rfl (fun h8 => ?_) (fun h8 => ?_)))))))
 ·have hi2 : i < s.length := by simpa [bs_size] using h8
  refine .sk (.seq (.block (.region (.m rfl (.m rfl (.m rfl (.q (.strIndex (c := s[i]) rfl rfl Tryz.underlying9 (by omega) (by simp)) rfl (.q (.conv rfl Tryz.underlying5 Tryz.underlying200) rfl (.u (.xor rfl rfl) (.q (.as (v' := .int .u32 (sumZ (s.take (i + 1)))) (by rw [sumZ_next hi2]; rfl) (.int rfl rfl rfl)) rfl (.a rfl (.nil (.blk_n (.then_n (.region (.m rfl (.q (.add rfl rfl (by omega)) rfl (.an rfl ?_))))))))))))))))))
  exact .rk (i + 1) (by omega) (by omega) ⟨rfl, rfl, rfl, rfl, trivial⟩
 refine .exit (.then_e (.then_e (.blk_e (.then_n (.sm rfl (.an rfl (.ret ?_)))))))
 exact .dn rfl rfl ⟨by have hi3 : i = s.length := (by have h9 : ¬ (i : Int) < s.length := (by simpa [bs_size] using h8); omega); rw [hi3, List.take_length], rfl⟩
theorem act_spec (d : Nat) (now old : Value) (acts left : Int) (dead : Bool) (hA : 0 ≤ acts ∧ acts < 4611686018427387904) (hl : 0 ≤ left ∧ left ≤ 9223372036854775807) : Fn Tryz.prog 190 #[vptr d] [ptc d [now, old, vint acts, vint left, .bool dead] 115] fun v L => v = vint (actE left) ∧ L = [ptc d [now, old, vint (acts + 1), vint (actL left), .bool (actD left dead)] 115] := by
 refine Fn.intro Tryz.func190 rfl rfl fun F W => ?_
 refine .sr (.an rfl (.sm rfl (.nf rfl fo_115_2 (.u (.ld rfl ag_3) (.q (.add rfl rfl (by omega)) rfl (.nf rfl fo_115_2 (.st rfl rfl rfl sz_3 ?_)))))))
 refine .nt (.seq (.sm rfl (.nf rfl fo_115_3 (.u (.ld rfl ag_3) (.ui rfl rfl rfl (.nt (.condD rfl (fun h14 => ?_) (fun h14 => ?_))))))))
 ·refine .sr (.an rfl (.rt ?_))
  have e1 : actE left = 0 := by unfold actE; rw [if_pos h14]
  have e2 : actL left = left := by unfold actL; rw [if_pos h14, h14]
  have e3 : actD left dead = dead := by unfold actD; rw [if_pos h14]
  rw [e1, e2, e3]
  exact .vv
 refine .sk (.sm rfl (.nf rfl fo_115_3 (.u (.ld rfl ag_3) (.q (.sub rfl rfl (by omega)) rfl (.nf rfl fo_115_3 (.st rfl rfl rfl sz_3 ?_))))))
 refine .nt (.seq (.sm rfl (.nf rfl fo_115_3 (.u (.ld rfl ag_3) (.ui rfl rfl rfl (.nt (.condD rfl (fun h26 => ?_) (fun h26 => ?_))))))))
 ·refine .sr (.an rfl (.rt ?_))
  have e1 : actE left = 0 := by unfold actE; rw [if_neg h14, if_pos h26]
  have e2 : actL left = left - 1 := by unfold actL; rw [if_neg h14]
  have e3 : actD left dead = dead := by unfold actD; rw [if_neg h14, if_pos h26]
  rw [e1, e2, e3]
  exact .vv
 refine .sk (.sm rfl (.nf rfl fo_115_4 (.st rfl rfl rfl sz_4 ?_)))
 refine .nt (.sr (.an rfl (.ret ?_)))
 have e1 : actE left = 2 := by unfold actE; rw [if_neg h14, if_neg h26]
 have e2 : actL left = left - 1 := by unfold actL; rw [if_neg h14]
 have e3 : actD left dead = true := by unfold actD; rw [if_neg h14, if_neg h26]
 rw [e1, e2, e3]
 exact .vv
theorem has_spec (d : Nat) (a : Option Addr) (k c : Nat) (x y z u : Value) (n : Int) : Fn Tryz.prog 189 #[vptr d, vint n] [ptc d [.slice a k c, x, y, z, u] 115] fun v L => v = .bool (decide (0 ≤ n) && decide (n < k)) ∧ L = [ptc d [.slice a k c, x, y, z, u] 115] := by
 refine Fn.intro Tryz.func189 rfl rfl fun F W => ?_
 refine .sr (.an rfl (.sm rfl (.ui rfl rfl rfl (.m rfl (.dec (t := 7) rfl (fun h1_7 => ?_) (fun h1_7 => ?_))))))
 ·refine .kDT (t := 6) rfl h1_7 (.grun (t := 7) rfl rfl rfl (.m rfl (.grun (t := 7) rfl rfl rfl (.m rfl (.grun (t := 7) rfl rfl rfl (.u (.nilp rfl) (.grun (t := 7) rfl rfl rfl (.u (.fieldAddr rfl fo_115_0) (.grun (t := 7) rfl rfl rfl (.u (.ld rfl ag_112) (.grun (t := 7) rfl rfl rfl (.q (.slen rfl Tryz.underlying112 rfl) rfl (.grun (t := 7) rfl rfl rfl (.ui rfl rfl rfl (.u (.pickT rfl rfl) (.an rfl (.ret ?_)))))))))))))))))
  exact .dn rfl rfl ⟨by simp; omega, rfl⟩
 refine .kDF (t := 6) rfl h1_7 (.gk (.gk (.gk (.gk (.gk (.gk (.gk (.u (.pickF rfl rfl) (.an rfl (.ret ?_))))))))))
 exact .dn rfl rfl ⟨by simp; omega, rfl⟩
theorem size_spec (d : Nat) (δ : Dk) : Fn Tryz.prog 177 #[vptr d] [dkR d δ] fun v L => v = vint δ.now.length ∧ L = [dkR d δ] := by
 refine Fn.intro Tryz.func177 rfl rfl fun F W => ?_
 refine .dkOpen .here fun nb ob hok => (.sr (.an rfl (.sm rfl (.nf rfl fo_115_0 (.u (.ld rfl ag_112) (.q (.slen rfl Tryz.underlying112 rfl) rfl (.an rfl (.ret (.dkFold (δ := δ) (by repeat' constructor) rfl rfl rfl hok ?_)))))))))
 exact .vv
/- not in this seat -/
/- not in this seat -/
theorem arm_spec (d : Nat) (δ : Dk) (n : Int) (hn : n ≤ 9223372036854775807) : Fn Tryz.prog 23 #[vptr d, vint n] [dkR d δ] fun v L => v = vint (δ.arm n).2 ∧ L = [dkR d (δ.arm n).1] := by
 refine Fn.intro Tryz.func23 rfl rfl fun F W => ?_
 refine .dkOpen .here fun nb ob hok => (.sr (.an rfl (.seq (.block (.sm rfl (.nf rfl fo_115_4 (.u (.ld rfl ag_4) (.an rfl (.condB rfl (fun h5 => ?_) (fun h5 => ?_))))))))))
 ·refine .sr (.an rfl (.ret (.blk_r (.then_r ?_))))
  have e : δ.arm n = (δ, 2) := by unfold Dk.arm; simp only [h5, if_true]
  rw [e]
  refine .dkFold (δ := δ) (by repeat' constructor) rfl rfl rfl hok ?_
  exact .vv
 refine .sm rfl (.ui rfl rfl rfl (.an rfl (.condD rfl (fun h10 => ?_) (fun h10 => ?_))))
 ·refine .sr (.an rfl (.ret (.blk_r (.then_r ?_))))
  have e : δ.arm n = (δ, 1) := by unfold Dk.arm; simp only [h5, h10, if_true, if_false, Bool.false_eq_true]
  rw [e]
  refine .dkFold (δ := δ) (by repeat' constructor) rfl rfl rfl hok ?_
  exact .vv
 refine .skip (.blk_n (.then_n (.sm rfl (.m rfl (.nf rfl fo_115_3 (.st rfl rfl rfl sz_3 ?_))))))
 refine .nt (.sr (.an rfl (.ret ?_)))
 have e : δ.arm n = ({ δ with left := n }, 0) := by unfold Dk.arm; simp only [h5, h10, if_false, Bool.false_eq_true]
 rw [e]
 refine .dkFold (δ := { δ with left := n }) (by repeat' constructor) rfl rfl rfl ⟨hok.sec, hok.olds, hok.nodup, hok.big, hok.acts0, by simp; omega⟩ ?_
 exact .vv
theorem sync_spec (d : Nat) (δ : Dk) (hA : δ.acts < 4611686018427387904) : Fn Tryz.prog 135 #[vptr d] [dkR d δ] fun v L => v = vint δ.sync.2 ∧ L = [dkR d δ.sync.1] := by
 refine Fn.intro Tryz.func135 rfl rfl fun F W => ?_
 refine .dkOpen .here fun nb ob hok => ?_
 have hl0 := hok.left0
 have ha0 := hok.acts0
 refine .sr (.an rfl (.seq (.sm rfl (.nf rfl fo_115_4 (.u (.ld rfl ag_4) (.nt (.condB rfl (fun h7 => ?_) (fun h7 => ?_))))))))
 ·refine .sr (.an rfl (.rt ?_))
  have e : δ.sync = (δ, 2) := by unfold Dk.sync; simp only [h7, if_true]
  rw [e]
  refine .dkFold (δ := δ) (by repeat' constructor) rfl rfl rfl hok ?_
  exact .vv
 refine .sk (.sm rfl (.oq (.c Tryz.func190 [_] (act_spec _ _ _ _ _ _ ?hA8 ?hl9)) ?_))
 case hA8 => omega
 case hl9 => omega
 rintro v L' ⟨rfl, rfl⟩
 refine .an rfl (.seq (.sm rfl (.ui rfl rfl rfl (.nt (.condD rfl (fun h11 => ?_) (fun h11 => ?_))))))
 ·refine .region (.m rfl (.nf rfl fo_115_1 (.u (.ld rfl ag_113) (.oq (.mapClear rfl rfl Tryz.underlying113) ?_))))
  rintro v L' rfl
  refine .nt (.sm rfl (.an rfl (.ret ?_)))
  have e : δ.sync = ({ δ.act.1 with old := [] }, 0) := by unfold Dk.sync Dk.act; simp only [h7, h11, if_true, if_false, Bool.false_eq_true]
  rw [e, h11]
  refine .dkFold (δ := { δ.act.1 with old := [] }) (by repeat' constructor) rfl rfl rfl hok.acted.cleared ?_
  exact .vv
 refine .sk (.sm rfl (.an rfl (.ret ?_)))
 have e : δ.sync = (δ.act.1, δ.act.2) := by unfold Dk.sync Dk.act; simp only [h7, h11, if_false, Bool.false_eq_true]
 rw [e]
 refine .dkFold (δ := δ.act.1) (by repeat' constructor) rfl rfl rfl hok.acted ?_
 exact .vv
/- not in this seat -/
theorem write_spec (d : Nat) (δ : Dk) (n : Int) (s : List UInt8) (hA : δ.acts < 4611686018427387904) : Fn Tryz.prog 132 #[vptr d, vint n, vstr s] [dkR d δ] fun v L => v = vint (δ.write n s).2 ∧ L = [dkR d (δ.write n s).1] := by
 refine Fn.intro Tryz.func132 rfl rfl fun F W => ?_
 refine .dkOpen .here fun nb ob hok => ?_
 have hl0 := hok.left0
 have ha0 := hok.acts0
 refine .sr (.an rfl (.seq (.block (.sm rfl (.nf rfl fo_115_4 (.u (.ld rfl ag_4) (.an rfl (.condB rfl (fun h9 => ?_) (fun h9 => ?_)))))))))
 ·refine .sr (.an rfl (.ret (.blk_r (.then_r ?_))))
  have e : δ.write n s = (δ, 2) := by unfold Dk.write; simp only [h9, if_true]
  rw [e]
  refine .dkFold (δ := δ) (by repeat' constructor) rfl rfl rfl hok ?_
  exact .vv
 refine .sm rfl (.m rfl (.cv Tryz.func189 [_, _] (has_spec _ _ _ _ _ _ _ _ _) ?_))
 refine .u (.not rfl) (.m rfl (.bool (t := 19) rfl (fun h3_19 => ?_) (fun h3_19 => ?_)))
 ·refine .kB (t := 18) rfl h3_19 (.gk (.gk (.gk (.u (.pickT rfl rfl) (.an rfl (.condT rfl (.sr (.an rfl (.ret (.blk_r (.then_r ?_)))))))))))
  have e : δ.write n s = (δ, 20) := by unfold Dk.write; have hh : δ.has n = false := (by have := h3_19; simp only [Bool.not_eq_true'] at this; exact this); simp [h9, hh]
  rw [e]
  refine .dkFold (δ := δ) (by repeat' constructor) rfl rfl rfl hok ?_
  exact .vv
 have hh : δ.has n = true := by simpa [Dk.has] using h3_19
 obtain ⟨q0, q1, q2⟩ := has_lt hh
 have q3 : (bys δ.now[n.toNat]).length = 64 := by simpa using hok.sec _ (List.getElem_mem q2)
 have q4 := secsC_length hok.sec
 refine .kB (t := 18) rfl h3_19 (.grun (t := 19) rfl rfl rfl (.m rfl (.grun (t := 19) rfl rfl rfl (.q (.strlen rfl Tryz.underlying9 rfl) rfl (.grun (t := 19) rfl rfl rfl (.ui rfl rfl rfl (.u (.pickF rfl rfl) (.an rfl (.condN rfl (fun h14 => ?_) (fun h14 => ?_))))))))))
 ·refine .sr (.an rfl (.ret (.blk_r (.then_r ?_))))
  have e : δ.write n s = (δ, 20) := by unfold Dk.write; have q6 : s.length ≠ 64 := (by omega); simp [h9, q6]
  rw [e]
  refine .dkFold (δ := δ) (by repeat' constructor) rfl rfl rfl hok ?_
  exact .vv
 refine .skip (.blk_n (.then_n (.seq (.sm rfl (.nf rfl fo_115_1 (.u (.ld rfl ag_113) (.m rfl (.q (.lookupOk (m := δ.old) (enc := secV) (KeyLaw.int Tryz.underlying3) rfl rfl Tryz.underlying113 ze_223 (by repeat' constructor) rfl) rfl ?_))))))))
 rcases hq : alook δ.old n with _ | s0
 ·refine .m rfl (.u (.extract rfl rfl) (.u (.extract rfl rfl) (.oq (.allocA ze_223) ?_)))
  rintro v L' ⟨b5_9, rfl, rfl⟩
  refine .oq (.storeA rfl rfl ?c28 sz_223 ?c31 ?c29 (nfz0 _ _)) ?_
  case c28 => (first | (simp [isCell]; done) | (simp [isCell, setAll, Value.cells]; done))
  case c31 => rfl
  case c29 => decide
  rintro v L' rfl
  refine .an rfl (.sm rfl (.u (.not rfl) (.nt (.condT rfl (.draw [12] [[0, 1, 2, 3, 4, 5, 6, 7, 8, 9, 10, 11, 12]] mixed (by kernel_rfl) (.g0 (.mv rfl rfl (.nf rfl rfl rfl fo_115_1 (.kv rfl (.ld rfl ag_113) (.mv rfl rfl (.mv rfl rfl (.nf rfl rfl rfl fo_115_0 (.kv rfl (.ld rfl ag_112) (.mv rfl rfl (.kv rfl (.indexAddr rfl rfl el_112 (by omega)) (.kv rfl (.loadAs (vs := bys δ.now[n.toNat]) rfl ag_223 (by repeat' constructor) (by omega) (by rw [Nat.zero_add]; exact secsC_at hok.sec q2)) (.hh rfl (.mapSet (m := δ.old) (enc := secV) (KeyLaw.int Tryz.underlying3) rfl rfl (v := δ.now[n.toNat]) rfl Tryz.underlying113 rfl) ?_)))))))))))))))))
  rintro v L' rfl
  refine D.pf (.seq ?_)
  have q6 : s.length = 64 := by omega
  have q7 : (bys s).length = 64 := by simpa using q6
  refine .draw [6, 10] [[0, 1, 2, 3, 4, 5, 6, 7, 8], [9, 10]] mixed (by kernel_rfl) (.go [ptc d _ 115] (by repeat' constructor) (.k rfl (.move rfl) (.k rfl (.nilp rfl) (.k rfl (.fieldAddr rfl fo_115_0) (.k rfl (.ld rfl ag_112) (.k rfl (.move rfl) (.mv rfl rfl (.hh rfl (.strBytes rfl Tryz.underlying9 Tryz.underlying159 Tryz.underlying5) ?_))))))))
  rintro v L' ⟨rfl, b8, c8, rfl⟩
  refine D.kv rfl (.toArr rfl ar_223 (by omega)) (.kv rfl (.loadAr (vs := bys s) (m := s.length) (sz := 1) rfl ag_223 (by repeat' constructor) (fun h hp => slR_rd hp) (by omega) (by rw [List.take_of_length_le (by simp; omega)])) (.ph (.g0 (.kv rfl (.indexAddr rfl rfl el_112 (by omega)) (.hh rfl (.storeA rfl rfl ?c58 sz_223 ?c61 ?c59 (nfz0 _ _)) ?_)))))
  case c58 => exact bys_cell _
  case c61 => exact q7
  case c59 => rw [q7, q4]; omega
  rintro v L' rfl
  refine D.ph (.fin ?_)
  rw [Nat.zero_add, secsC_set hok.sec q2 q6]
  refine .then_n (.sm rfl (.oq (.c Tryz.func190 [_] (act_spec _ _ _ _ _ _ ?hA64 ?hl65)) ?_))
  case hA64 => omega
  case hl65 => omega
  rintro v L' ⟨rfl, rfl⟩
  refine .an rfl (.ret ?_)
  have e : δ.write n s = (δ.put n s).act := by unfold Dk.write; simp [h9, hh, q6]
  rw [e]
  refine .dkFold (δ := (δ.put n s).act.1) (by repeat' constructor) (by simp [Dk.act, Dk.put]) rfl (by simp [Dk.act, Dk.put, hq, q2, oldsV]) (hok.putOk hh q6).acted ?_
  exact .vv
 have q5 : (bys s0).length = 64 := by simpa using (hok.olds _ (alook_mem hq)).1
 refine .m rfl (.u (.extract rfl rfl) (.u (.extract rfl rfl) (.oq (.allocA ze_223) ?_)))
 rintro v L' ⟨b5_9, rfl, rfl⟩
 refine .oq (.storeA rfl rfl ?c72 sz_223 ?c75 ?c73 (nfz0 _ _)) ?_
 case c72 => exact bys_cell _
 case c75 => exact q5
 case c73 => rw [q5]; decide
 rintro v L' rfl
 refine .an rfl (.sm rfl (.u (.not rfl) (.nt (.condF rfl (.sk (.seq ?_))))))
 have q6 : s.length = 64 := by omega
 have q7 : (bys s).length = 64 := by simpa using q6
 refine .draw [6, 10] [[0, 1, 2, 3, 4, 5, 6, 7, 8], [9, 10]] mixed (by kernel_rfl) (.go [ptc d _ 115] (by repeat' constructor) (.k rfl (.move rfl) (.k rfl (.nilp rfl) (.k rfl (.fieldAddr rfl fo_115_0) (.k rfl (.ld rfl ag_112) (.k rfl (.move rfl) (.mv rfl rfl (.hh rfl (.strBytes rfl Tryz.underlying9 Tryz.underlying159 Tryz.underlying5) ?_))))))))
 rintro v L' ⟨rfl, b8, c8, rfl⟩
 refine D.kv rfl (.toArr rfl ar_223 (by omega)) (.kv rfl (.loadAr (vs := bys s) (m := s.length) (sz := 1) rfl ag_223 (by repeat' constructor) (fun h hp => slR_rd hp) (by omega) (by rw [List.take_of_length_le (by simp; omega)])) (.ph (.g0 (.kv rfl (.indexAddr rfl rfl el_112 (by omega)) (.hh rfl (.storeA rfl rfl ?c89 sz_223 ?c92 ?c90 (nfz0 _ _)) ?_)))))
 case c89 => exact bys_cell _
 case c92 => exact q7
 case c90 => rw [q7, q4]; omega
 rintro v L' rfl
 refine D.ph (.fin ?_)
 rw [Nat.zero_add, secsC_set hok.sec q2 q6]
 refine .then_n (.sm rfl (.oq (.c Tryz.func190 [_] (act_spec _ _ _ _ _ _ ?hA95 ?hl96)) ?_))
 case hA95 => omega
 case hl96 => omega
 rintro v L' ⟨rfl, rfl⟩
 refine .an rfl (.ret ?_)
 have e : δ.write n s = (δ.put n s).act := by unfold Dk.write; simp [h9, hh, q6]
 rw [e]
 refine .dkFold (δ := (δ.put n s).act.1) (by repeat' constructor) (by simp [Dk.act, Dk.put]) rfl (by simp [Dk.act, Dk.put, hq, q2, oldsV]) (hok.putOk hh q6).acted ?_
 exact .vv
theorem record_spec (s : Bs) (hs : s.length ≤ 2147483648) : Fn Tryz.prog 116 #[vstr s] [] fun v L => (∃ a c, v = .slice a (recZ s).length c) ∧ L = [bytR v (recZ s)] := by
 refine Fn.intro Tryz.func116 rfl rfl fun F W => ?_
 have hsum := sumZ_range (headZ s)
 have hh : (headZ s).length = s.length + 2 := by simp [headZ, beB_len]; omega
 refine .sr (.an rfl (.sm rfl (.q (.strlen rfl Tryz.underlying9 rfl) rfl (.q (.add rfl rfl (by omega)) rfl (.oq (.make rfl rfl el_159 ze_5 rfl ⟨by simp, by simp; rfl⟩ ?hc5) ?_)))))
 case hc5 => omega
 rintro v L' ⟨b, rfl, rfl⟩; rw [show ((s.length : Int) + 6).toNat = s.length + 6 by omega, show (2 : Int).toNat = 2 from rfl]
 refine .an rfl (.sm rfl (.m rfl (.q (.strlen rfl Tryz.underlying9 rfl) rfl (.oq (.call Tryz.func178 rfl rfl (vs := [_, _]) rfl (big_spec b 0 2 (s.length + 6) s.length _ _ (by decide) ?hl10)) ?_))))
 case hl10 => simp
 rintro v L' ⟨rfl, rfl⟩
 refine .nil (.slMake (n := 2) (c := s.length + 6) (xs := bysL (beB s.length 2)) (by repeat' constructor) (by omega) (by simp [spl, bysL_len, beB_len]; omega) (by simp [spl, bysL_len, beB_len]) (.then_n (.sm rfl (.m rfl (.oq (.appendS rfl rfl rfl el_159 Tryz.underlying9 ze_5 rfl rfl ?hb14 (by decide)) ?_)))))
 case hb14 => omega
 rintro v L' ⟨⟨a1, c1, rfl⟩, rfl⟩; rw [show 2 + s.length = (headZ s).length by omega, show bysL (beB (s.length : Int) 2) ++ s.map vbyte = bysL (headZ s) from (bysL_append _ _).symm]
 refine .an rfl (.sr (.oq (.make rfl rfl el_159 ze_5 rfl ⟨by simp, by simp; rfl⟩ ?hc17) ?_))
 case hc17 => omega
 rintro v L' ⟨b2, rfl, rfl⟩; rw [show (4 : Int).toNat = 4 from rfl]
 refine .an rfl (.sm rfl (.m rfl (.q (.bytesBy (cs := headZ s) (n := (headZ s).length) (p := bytR (.slice a1 (headZ s).length c1) (headZ s)) rfl Tryz.underlying159 Tryz.underlying5 Tryz.underlying9 (fun h hp => slR_rd hp) (by repeat' constructor)) rfl (.cv Tryz.func179 [_] (sum_spec (headZ s) (by omega)) ?_))))
 refine .q (.as (v' := vint (sumZ (headZ s))) (by rw [i64w (by omega)]) (.conv rfl Tryz.underlying200 Tryz.underlying3)) rfl (.oq (.call Tryz.func178 rfl rfl (vs := [_, _]) rfl (big_spec b2 0 4 4 (sumZ (headZ s)) _ _ (by decide) ?hl24)) ?_)
 case hl24 => simp
 rintro v L' ⟨rfl, rfl⟩
 refine .nil (.ptCast (l' := bysL (beB (sumZ (headZ s)) 4)) (by repeat' constructor) (spl_all (by simp [bysL_len, beB_len])) (.then_n (.sm rfl (.m rfl (.oq (.append1 (m := 4) rfl rfl rfl el_159 ze_5 rfl rfl ?c127 ?c228 (Nat.le_refl _) ?c329 (by decide)) ?_)))))
 case c127 => exact bysL_cell _
 case c228 => simp [bysL_len, beB_len]
 case c329 => omega
 rintro v L' ⟨⟨a2, c2, rfl⟩, rfl⟩; rw [show (headZ s).length + 4 = (recZ s).length by rw [recZ_len]; omega, show bysL (headZ s) ++ bysL (beB (sumZ (headZ s)) 4) = bysL (recZ s) from (bysL_append _ _).symm]
 refine .an rfl (.ret ?_)
 exact .dn rfl rfl ⟨⟨_, _, rfl⟩, rfl⟩
theorem laid_spec (v : Value) (l : List Bs) (p : HP) (hr : ∀ h : Hp, p h → rdS 1 h v l.length (strs l)) (hl : (laidZ l).length ≤ 2147483648) : Fn Tryz.prog 119 #[v] [p] fun u L => (∃ a c, u = .slice a (laidZ l).length c) ∧ L = [bytR u (laidZ l), p] := by
 refine Fn.intro Tryz.func119 rfl rfl fun F W => ?_
 have hll : l.length ≤ (laidZ l).length := laidZ_many l
 refine .rdAny (p := p) hr (by repeat' constructor) fun aa ca e _ => ?_
 subst e
 refine .sr (.an rfl (.seq (.add (slR_nil 5 1) (.region (.an rfl (.seq (.sm rfl (.q (.slen rfl Tryz.underlying39 rfl) rfl (.m rfl (.nt (.block (.loopK (ι := Nat × Value) (fun q E => (8, vint q.1) :: (3, q.2) :: E) (fun q => [bytR q.2 (laidZ (l.take q.1))]) (fun q => q.1 ≤ l.length ∧ ∃ a c, q.2 = .slice a (laidZ (l.take q.1)).length c) (fun q => l.length - q.1) (0, .slice none 0 0) (ts := [2, 6, 7]) (.cons rfl (.cons rfl (.cons rfl (.nil)))) (⟨Nat.zero_le _, _, _, rfl⟩) ⟨rfl, rfl, rfl, rfl, rfl, trivial⟩ (by repeat' constructor) ?_))))))))))))
 rintro ⟨i, u⟩ ⟨hi, au, cu, hu⟩
 dsimp only
 dsimp only at hi hu
 subst hu
 refine .sr (.ui rfl rfl rfl (.nt (.seq (.condD rfl (fun h9 => ?_) (fun h9 => ?_)))))
 ·have hi2 : i < l.length := by omega
  refine .rdShape (p := p) hr (by repeat' constructor) (by omega) fun ba oa e => ?_
  subst e
  have hm := recZ_mem (List.getElem_mem hi2)
  have ht := laidZ_take_len l (i + 1)
  rw [laidZ_succ hi2, List.length_append] at ht
  have hrl := recZ_len l[i]
  refine .sk (.seq (.block (.sr (.q (.indexAddr rfl rfl el_39 (by omega)) rfl (.q (.loadRd (sz := 1) (j := i) (p := p) (v := vstr l[i]) rfl ag_9 (by repeat' constructor) hr (by simp) (by simp [hi2])) rfl (.an rfl (.region (.m rfl (.m rfl (.oq (.c Tryz.func116 [_] (record_spec l[i] (by omega))) ?_))))))))))
  rintro v L' ⟨⟨ar, cr, rfl⟩, rfl⟩
  refine .oq (.append (n := (laidZ (l.take i)).length) (m := (recZ l[i]).length) (ys := bysL (recZ l[i])) (p := bytR (.slice ar (recZ l[i]).length cr) (recZ l[i])) rfl rfl rfl el_159 (.inl ⟨_, Tryz.underlying159⟩) ze_5 rfl rfl ?hc12 ?hr13 ?hb14 (by decide)) ?_
  case hc12 => exact bysL_cell _
  case hr13 => exact fun h hp => slR_rd hp
  case hb14 => omega
  rintro v L' ⟨⟨a5, c5, rfl⟩, rfl⟩
  refine .a rfl (.nil (.blk_n (.then_n (.region (.q (.add rfl rfl (by omega)) rfl (.m rfl (.nt ?_)))))))
  rw [show (laidZ (l.take i)).length + (recZ l[i]).length = (laidZ (l.take (i + 1))).length by rw [laidZ_succ hi2, List.length_append], show bysL (laidZ (l.take i)) ++ bysL (recZ l[i]) = bysL (laidZ (l.take (i + 1))) by rw [laidZ_succ hi2, bysL_append]]
  exact .rk ((i + 1, .slice a5 (laidZ (l.take (i + 1))).length c5)) (⟨by dsimp only; omega, _, _, rfl⟩) (by dsimp only; omega) ⟨rfl, rfl, rfl, rfl, rfl, trivial⟩
 have hi3 : i = l.length := by omega
 subst hi3
 rw [List.take_length]
 refine .exit (.then_e (.then_e (.blk_e (.then_n (.sm rfl (.an rfl (.ret ?_)))))))
 exact .dn rfl rfl ⟨⟨_, _, rfl⟩, rfl⟩
theorem sector_spec (m : Mk) : Fn Tryz.prog 134 #[.agg (mkC m).toArray] [] fun v L => v = vstr m.sec ∧ L = [] := by
 refine Fn.intro Tryz.func134 rfl rfl fun F W => ?_
 obtain ⟨p0, p1, p2, p3, p4, p5, p6⟩ := m.pre_len
 refine .sr (.oq (.box rfl) ?_)
 rintro v L' ⟨bm, rfl, rfl⟩
 refine .an rfl (.sr (.oq (.make rfl rfl el_159 ze_5 rfl ⟨by simp, by simp; rfl⟩ ?hc4) ?_))
 case hc4 => omega
 rintro v L' ⟨b, rfl, rfl⟩; rw [show (64 : Int).toNat = 64 from rfl]
 refine .an rfl (.sm rfl (.oq (.copyS (s := [87, 77]) rfl rfl rfl el_159 ?h17 ?h28) ?_))
 case h17 => simp
 case h28 => exact nfz0 _ _
 rintro v L' ⟨rfl, rfl⟩
 refine .nil (.ptCast (l' := m.at 0 62) (by repeat' constructor) rfl (.then_n (.seq (.draw [4] [[0, 1, 2, 3, 4]] mixed (by kernel_rfl) (.g0 (.mv rfl rfl (.kv rfl (.to (v' := .slice (some ⟨b, 2, none⟩) 4 62) (.slSlice (i := 2) (j := 6) rfl el_159 (by exact rfl) (by exact rfl) (by decide)) rfl) (.kv rfl (.fieldAddr rfl fo_171_0) (.kv rfl (.ld rfl ag_3) (.hh rfl (.call Tryz.func178 rfl rfl (vs := [_, _]) rfl (big_spec b 2 4 62 m.count (m.at 0 62) _ (by decide) (by simp [Mk.at, bysL_len, p0]))) ?_))))))))))
 rintro v L' ⟨rfl, rfl⟩
 refine D.ph (.fin (.ptCast (l' := m.at 1 58) (by repeat' constructor) (by have := m.at_step (j := 0) (k := 62) (off := 2) (q := beB m.count 4) p0.symm rfl (by simp [beB_len]); rw [beB_len] at this; exact this) (.then_n (.seq (.draw [4] [[0, 1, 2, 3, 4]] mixed (by kernel_rfl) (.g0 (.mv rfl rfl (.kv rfl (.to (v' := .slice (some ⟨b, 6, none⟩) 1 58) (.slSlice (i := 6) (j := 7) rfl el_159 (by exact rfl) (by exact rfl) (by decide)) rfl) (.kv rfl (.fieldAddr rfl fo_171_1) (.kv rfl (.ld rfl ag_3) (.hh rfl (.call Tryz.func178 rfl rfl (vs := [_, _]) rfl (big_spec b 6 1 58 m.area (m.at 1 58) _ (by decide) (by simp [Mk.at, bysL_len, p1]))) ?_)))))))))))
 rintro v L' ⟨rfl, rfl⟩
 refine D.ph (.fin (.ptCast (l' := m.at 2 57) (by repeat' constructor) (by have := m.at_step (j := 1) (k := 58) (off := 6) (q := beB m.area 1) p1.symm rfl (by simp [beB_len]); rw [beB_len] at this; exact this) (.then_n (.seq (.draw [4] [[0, 1, 2, 3, 4]] mixed (by kernel_rfl) (.g0 (.mv rfl rfl (.kv rfl (.to (v' := .slice (some ⟨b, 7, none⟩) 4 57) (.slSlice (i := 7) (j := 11) rfl el_159 (by exact rfl) (by exact rfl) (by decide)) rfl) (.kv rfl (.fieldAddr rfl fo_171_2) (.kv rfl (.ld rfl ag_3) (.hh rfl (.call Tryz.func178 rfl rfl (vs := [_, _]) rfl (big_spec b 7 4 57 m.len (m.at 2 57) _ (by decide) (by simp [Mk.at, bysL_len, p2]))) ?_)))))))))))
 rintro v L' ⟨rfl, rfl⟩
 refine D.ph (.fin (.ptCast (l' := m.at 3 53) (by repeat' constructor) (by have := m.at_step (j := 2) (k := 57) (off := 7) (q := beB m.len 4) p2.symm rfl (by simp [beB_len]); rw [beB_len] at this; exact this) (.then_n (.seq (.draw [4] [[0, 1, 2, 3, 4]] mixed (by kernel_rfl) (.g0 (.mv rfl rfl (.kv rfl (.to (v' := .slice (some ⟨b, 11, none⟩) 4 53) (.slSlice (i := 11) (j := 15) rfl el_159 (by exact rfl) (by exact rfl) (by decide)) rfl) (.kv rfl (.fieldAddr rfl fo_171_3) (.kv rfl (.ld rfl ag_3) (.hh rfl (.call Tryz.func178 rfl rfl (vs := [_, _]) rfl (big_spec b 11 4 53 m.num (m.at 3 53) _ (by decide) (by simp [Mk.at, bysL_len, p3]))) ?_)))))))))))
 rintro v L' ⟨rfl, rfl⟩
 refine D.ph (.fin (.ptCast (l' := m.at 4 49) (by repeat' constructor) (by have := m.at_step (j := 3) (k := 53) (off := 11) (q := beB m.num 4) p3.symm rfl (by simp [beB_len]); rw [beB_len] at this; exact this) (.then_n (.seq (.draw [4] [[0, 1, 2, 3, 4]] mixed (by kernel_rfl) (.g0 (.mv rfl rfl (.kv rfl (.to (v' := .slice (some ⟨b, 15, none⟩) 8 49) (.slSlice (i := 15) (j := 23) rfl el_159 (by exact rfl) (by exact rfl) (by decide)) rfl) (.kv rfl (.fieldAddr rfl fo_171_4) (.kv rfl (.ld rfl ag_3) (.hh rfl (.call Tryz.func178 rfl rfl (vs := [_, _]) rfl (big_spec b 15 8 49 m.a (m.at 4 49) _ (by decide) (by simp [Mk.at, bysL_len, p4]))) ?_)))))))))))
 rintro v L' ⟨rfl, rfl⟩
 refine D.ph (.fin (.ptCast (l' := m.at 5 41) (by repeat' constructor) (by have := m.at_step (j := 4) (k := 49) (off := 15) (q := beB m.a 8) p4.symm rfl (by simp [beB_len]); rw [beB_len] at this; exact this) (.then_n (.seq (.draw [4] [[0, 1, 2, 3, 4]] mixed (by kernel_rfl) (.g0 (.mv rfl rfl (.kv rfl (.to (v' := .slice (some ⟨b, 23, none⟩) 8 41) (.slSlice (i := 23) (j := 31) rfl el_159 (by exact rfl) (by exact rfl) (by decide)) rfl) (.kv rfl (.fieldAddr rfl fo_171_5) (.kv rfl (.ld rfl ag_3) (.hh rfl (.call Tryz.func178 rfl rfl (vs := [_, _]) rfl (big_spec b 23 8 41 m.b (m.at 5 41) _ (by decide) (by simp [Mk.at, bysL_len, p5]))) ?_)))))))))))
 rintro v L' ⟨rfl, rfl⟩
 refine D.ph (.fin (.ptCast (l' := m.at 6 33) (by repeat' constructor) (by have := m.at_step (j := 5) (k := 41) (off := 23) (q := beB m.b 8) p5.symm rfl (by simp [beB_len]); rw [beB_len] at this; exact this) (.then_n (.seq (.draw [4] [[0, 1, 2, 3, 4]] mixed (by kernel_rfl) (.g0 (.mv rfl rfl (.kv rfl (.to (v' := .slice (some ⟨b, 60, none⟩) 4 4) (.slSlice (i := 60) (j := 64) rfl el_159 (by exact rfl) (by exact rfl) (by decide)) rfl) (.kv rfl (.fieldAddr rfl fo_171_0) (.kv rfl (.ld rfl ag_3) (.hh rfl (.call Tryz.func178 rfl rfl (vs := [_, _]) rfl (big_spec b 60 4 4 m.count (m.at 6 33) _ (by decide) (by simp [Mk.at, bysL_len, p6]))) ?_)))))))))))
 rintro v L' ⟨rfl, rfl⟩
 refine D.ph (.fin (.ptCast (l' := bysL m.sec) (by repeat' constructor) m.at_end (.then_n (.sm rfl (.q (.bytesPt (cs := m.sec) rfl Tryz.underlying159 Tryz.underlying5 Tryz.underlying9 (by repeat' constructor) (by rw [List.drop_zero]; exact List.take_of_length_le (by simp [bysL_len, m.sec_len])) (by simp [bysL_len, m.sec_len]) (by decide)) rfl (.an rfl (.ret ?_)))))))
 exact .vv
theorem half_spec (d : Nat) (δ : Dk) (hn : 2 ≤ δ.now.length ∧ δ.now.length ≤ 32768) : Fn Tryz.prog 112 #[vptr d] [dkR d δ] fun v L => v = vint (halfZ δ) ∧ L = [dkR d δ] := by
 refine Fn.intro Tryz.func112 rfl rfl fun F W => ?_
 refine .sr (.an rfl (.sm rfl (.cv Tryz.func177 [_] (size_spec d δ) ?_)))
 refine .q (.sub rfl rfl (by omega)) rfl (.q (.quoE rfl rfl (by omega) (by omega)) rfl (.an rfl (.ret ?_)))
 exact .vv
def sub (s : Bs) (i j : Nat) : Bs := (s.take j).drop i
def parseZ (s : Bs) : Mk := ⟨smallZ (sub s 2 6), smallZ (sub s 6 7), smallZ (sub s 7 11), smallZ (sub s 11 15), smallZ (sub s 15 23), smallZ (sub s 23 31)⟩
def badMk (δ : Dk) (n : Int) (s : Bs) (m : Mk) : Prop := m.count < 1 ∨ m.count % 2 ≠ n ∨ m.area > 1 ∨ m.len > 64 * halfZ δ ∨ m.a < 0 ∨ m.b < 0 ∨ s ≠ m.sec
instance (δ : Dk) (n : Int) (s : Bs) (m : Mk) : Decidable (badMk δ n s m) := inferInstanceAs (Decidable (_ ∨ _))
def foundZ (δ : Dk) (n : Int) : Option Mk := if (δ.read n).2 ≠ 0 then none else if badMk δ n (δ.read n).1 (parseZ (δ.read n).1) then none else some (parseZ (δ.read n).1)
theorem read_len {δ : Dk} (h : δ.Ok) {n : Int} (he : (δ.read n).2 = 0) : (δ.read n).1.length = 64 := by
 unfold Dk.read at he ⊢
 split
 ·rename_i hd; rw [if_pos hd] at he; cases he
 ·rename_i hd
  rw [if_neg hd] at he
  split
  ·rename_i hh; rw [if_pos hh] at he; cases he
  ·rename_i hh
   have hh' : δ.has n = true := by simpa using hh
   obtain ⟨h0, h1, h2⟩ := has_lt hh'
   have e : δ.now.getD n.toNat [] = δ.now[n.toNat] := by simp [h2]
   rw [e]; exact h.sec _ (List.getElem_mem _)
theorem getD_mem64' {l : List (List UInt8)} (h : ∀ s ∈ l, s.length = 64) {i : Nat} (hi : i < l.length) : (l.getD i []).length = 64 := by
 have : l.getD i [] = l[i] := by simp [hi]
 rw [this]; exact h _ (List.getElem_mem _)
def partF : Nat → Bs → List Bs → Int → Option (List Bs)
 | 0, _, _, _ => none
 | f + 1, s, out, num =>
  if s = [] then (if (out.length : Int) = num then some out else none)
  else if (out.length : Int) = num ∨ s.length < 6 then none
  else if smallZ (s.take 2) > 4000 ∨ smallZ (s.take 2) + 6 > s.length then none
  else if s.take ((smallZ (s.take 2)).toNat + 6) ≠ recZ (sub s 2 ((smallZ (s.take 2)).toNat + 2)) then none
  else partF f (s.drop ((smallZ (s.take 2)).toNat + 6)) (out ++ [sub s 2 ((smallZ (s.take 2)).toNat + 2)]) num
def partZ (s : Bs) (num : Int) : Option (List Bs) := partF (s.length + 1) s [] num
theorem beZ_nonneg : ∀ (s : Bs) (n : Int), 0 ≤ n → 0 ≤ beZ s n := by
 intro s
 induction s with
 | nil => intro n h; exact h
 | cons c s ih => intro n h; exact ih _ (by omega)
theorem beZ_lt : ∀ (s : Bs) (n : Int), 0 ≤ n → beZ s n < (n + 1) * 256 ^ s.length := by
 intro s
 induction s with
 | nil => intro n h; simp [beZ]; omega
 | cons c s ih =>
  intro n h
  have hc : c.toNat < 256 := c.toNat_lt
  have h1 := ih (n * 256 + c.toNat) (by omega)
  simp only [beZ, List.length_cons]
  refine Int.lt_of_lt_of_le h1 ?_
  rw [Int.pow_succ, Int.mul_comm (256 ^ s.length) 256, ← Int.mul_assoc]
  exact Int.mul_le_mul_of_nonneg_right (by omega) (Int.le_of_lt (Int.pow_pos (by decide)))
theorem smallZ_nonneg {s : Bs} (h : s.length ≤ 7) : 0 ≤ smallZ s ∧ smallZ s < 256 ^ s.length ∧ smallZ s = beZ s 0 := by
 have h0 := beZ_nonneg s 0 (by omega)
 have h1 := beZ_lt s 0 (by omega)
 have h2 : ∀ k, k ≤ 7 → (256 : Int) ^ k ≤ 72057594037927936 := by decide
 have h2 := h2 _ h
 have e : smallZ s = beZ s 0 := i64w (by omega)
 rw [e]; omega
theorem sub_len {s : Bs} {i j : Nat} (h : j ≤ s.length) : (sub s i j).length = j - i := by simp [sub]; omega
structure Wl where
 recs : List Bs
 synced : Int
 area : Int
 count : Int
 a : Int
 b : Int
 doubt : Bool
def areaZ (δ : Dk) (area : Int) (n : Nat) : Bs := (List.range n).flatMap fun i : Nat => δ.now.getD (2 + area * halfZ δ + (i : Int)).toNat []
def bestZ (δ : Dk) : Option Mk :=
 match foundZ δ 0, foundZ δ 1 with
 | some m, some k => some (if k.count > m.count then k else m)
 | some m, none => some m
 | none, o => o
def bytesZ (δ : Dk) (m : Mk) : Bs := (areaZ δ m.area ((m.len.toNat + 63) / 64)).take m.len.toNat
def openZ (δ : Dk) : Option Wl :=
  match bestZ δ with
  | none => none
  | some m => match partZ (bytesZ δ m) m.num with
    | none => none
    | some l => some ⟨l, l.length, m.area, m.count, m.a, m.b, false⟩
def wlR (x d : Nat) (ω : Wl) : HP := fun h => ∃ v : Value × Value, sep [ptc x [vptr d, v.1, vint ω.synced, v.2, vint ω.area, vint ω.count, vint ω.a, vint ω.b, .bool ω.doubt] 161, strR v.1 ω.recs, bytR v.2 (laidZ ω.recs)] h
structure MkI (δ : Dk) (m : Mk) : Prop where
 count : 1 ≤ m.count ∧ m.count ≤ 4294967295
 area : 0 ≤ m.area ∧ m.area ≤ 1
 len : 0 ≤ m.len ∧ m.len ≤ 64 * halfZ δ
 num : 0 ≤ m.num ∧ m.num ≤ 4294967295
 a : 0 ≤ m.a ∧ m.a ≤ 9223372036854775807
 b : 0 ≤ m.b ∧ m.b ≤ 9223372036854775807
theorem small4 {s : Bs} {i j : Nat} (h : j ≤ s.length) (hk : j - i = 4) : 0 ≤ smallZ (sub s i j) ∧ smallZ (sub s i j) ≤ 4294967295 := by
 have hl := sub_len (i := i) h
 obtain ⟨h1, h2, -⟩ := smallZ_nonneg (s := sub s i j) (by omega)
 rw [hl, hk] at h2
 have e : (256 : Int) ^ 4 = 4294967296 := rfl
 omega
theorem smallZ_i64 (s : Bs) : -9223372036854775808 ≤ smallZ s ∧ smallZ s ≤ 9223372036854775807 := by unfold smallZ; rw [wrap64]; omega
theorem foundZ_some {δ : Dk} (hok : δ.Ok) {n : Int} {m : Mk} (h : foundZ δ n = some m) : MkI δ m ∧ m.count % 2 = n ∧ (δ.read n).1 = m.sec ∧ (δ.read n).2 = 0 := by
 unfold foundZ at h
 by_cases h0 : (δ.read n).2 ≠ 0
 ·rw [if_pos h0] at h; cases h
 ·rw [if_neg h0] at h
  have h0' : (δ.read n).2 = 0 := by simpa using h0
  by_cases hb : badMk δ n (δ.read n).1 (parseZ (δ.read n).1)
  ·rw [if_pos hb] at h; cases h
  ·rw [if_neg hb] at h
   have hl := read_len hok h0'
   generalize (δ.read n).1 = s at *
   have h := Option.some.inj h
   unfold badMk at hb
   simp only [not_or] at hb
   obtain ⟨b1, b2, b3, b4, b5, b6, b7⟩ := hb
   have q1 := small4 (s := s) (i := 2) (j := 6) (by omega) rfl
   have q3 := small4 (s := s) (i := 7) (j := 11) (by omega) rfl
   have q4 := small4 (s := s) (i := 11) (j := 15) (by omega) rfl
   have q2 := (smallZ_nonneg (s := sub s 6 7) (by rw [sub_len (by omega)]; decide)).1
   have q5 := smallZ_i64 (sub s 15 23)
   have q6 := smallZ_i64 (sub s 23 31)
   subst h
   simp only [parseZ] at *
   have c1 : smallZ (sub s 6 7) ≤ 1 := by omega
   have c2 : smallZ (sub s 7 11) ≤ 64 * halfZ δ := by omega
   have c3 : 1 ≤ smallZ (sub s 2 6) := by omega
   have c4 : 0 ≤ smallZ (sub s 15 23) := by omega
   have c5 : 0 ≤ smallZ (sub s 23 31) := by omega
   have c6 : smallZ (sub s 2 6) % 2 = n := by omega
   exact ⟨⟨⟨c3, q1.2⟩, ⟨q2, c1⟩, ⟨q3.1, c2⟩, q4, ⟨c4, q5.2⟩, ⟨c5, q6.2⟩⟩, c6, by simpa using b7, h0'⟩
theorem areaZ_succ (δ : Dk) (area : Int) (i : Nat) : areaZ δ area (i + 1) = areaZ δ area i ++ δ.now.getD (2 + area * halfZ δ + (i : Int)).toNat [] := by
 unfold areaZ; rw [List.range_succ, List.flatMap_append]; simp
theorem area_idx {δ : Dk} (hn : 2 ≤ δ.now.length) {area : Int} (ha : 0 ≤ area ∧ area ≤ 1) {i : Nat} (hi : (i : Int) < halfZ δ) : 0 ≤ 2 + area * halfZ δ + i ∧ 2 + area * halfZ δ + i < δ.now.length := by
 unfold halfZ at *
 rcases (by omega : area = 0 ∨ area = 1) with rfl | rfl <;> omega
theorem areaZ_len {δ : Dk} (hok : δ.Ok) (hn : 2 ≤ δ.now.length) {area : Int} (ha : 0 ≤ area ∧ area ≤ 1) : ∀ i : Nat, (i : Int) ≤ halfZ δ → (areaZ δ area i).length = 64 * i := by
 intro i
 induction i with
 | zero => intro _; rfl
 | succ i ih =>
  intro hi
  have h1 := area_idx hn ha (i := i) (by omega)
  rw [areaZ_succ, List.length_append, ih (by omega), getD_mem64' hok.sec (by omega)]; omega
def openB (δ : Dk) (m : Mk) : Option Wl := match partZ (bytesZ δ m) m.num with
 | none => none
 | some l => some ⟨l, l.length, m.area, m.count, m.a, m.b, false⟩
theorem openZ_some {δ : Dk} {m : Mk} (h : bestZ δ = some m) : openZ δ = openB δ m := by unfold openZ; rw [h]; rfl
section
variable {W : World} {n : Nat} {ds : List Deferred} {E : Env} {L R : List HP} {X : Act → World → Prop}
theorem G.wlOpen {x d : Nat} {ω : Wl} (hL : Pick (wlR x d ω) L R) (h : ∀ vr vb, G W n ds E (ptc x [vptr d, vr, vint ω.synced, vb, vint ω.area, vint ω.count, vint ω.a, vint ω.b, .bool ω.doubt] 161 :: strR vr ω.recs :: bytR vb (laidZ ω.recs) :: R) X) : G W n ds E L X :=
 G.focus hL (G.open (q := fun v : Value × Value => [ptc x [vptr d, v.1, vint ω.synced, v.2, vint ω.area, vint ω.count, vint ω.a, vint ω.b, .bool ω.doubt] 161, strR v.1 ω.recs, bytR v.2 (laidZ ω.recs)]) (φ := fun _ => True) (fun h hp => by obtain ⟨v, hv⟩ := hp; exact ⟨v, trivial, hv⟩) fun v _ => h v.1 v.2)
theorem G.wlFold {x d m k : Nat} {ω : Wl} {vr vb : Value} {l ys zs : List Value} (hL : Picks [ptc x l 161, slR 9 1 vr m ys, slR 5 1 vb k zs] L R) (h0 : l = [vptr d, vr, vint ω.synced, vb, vint ω.area, vint ω.count, vint ω.a, vint ω.b, .bool ω.doubt])
  (h1 : m = ω.recs.length) (h2 : ys = strs ω.recs) (h3 : k = (laidZ ω.recs).length) (h4 : zs = bysL (laidZ ω.recs)) (h : G W n ds E (wlR x d ω :: R) X) : G W n ds E L X := by
 subst h0; subst h1; subst h2; subst h3; subst h4
 exact G.fold hL (fun _ hp => ⟨(vr, vb), hp⟩) h
end
/- not in this seat -/
/- not in this seat -/
theorem G.nilEmpty {W : World} {k : Nat} {ds : List Deferred} {E : Env} {L R : List HP} {X : Act → World → Prop} {p : HP} {sz n c : Nat} {xs : List Value} (hr : ∀ h : Hp, p h → rdS sz h (.slice none n c) n xs) (hL : Pick p L R)
  (h : n = 0 → xs = [] → G W k ds E L X) : G W k ds E L X := by
 intro a w he hk hs
 obtain ⟨g1, -, hp⟩ := sep_head (hs.pick hL)
 rcases hr _ hp with ⟨h1, h2, -⟩ | ⟨b, off, cap, l, T, fr, hv, -⟩
 ·exact h h1 h2 a w he hk hs
 ·simp at hv
/- not in this seat -/
/- not in this seat -/
/- not in this seat: clipB_spec -/
/- not in this seat -/
/- not in this seat -/
/- not in this seat: clipT_spec -/
theorem cloneB_spec (v : Value) (n : Nat) (xs : List Value) (p : HP) (hr : ∀ h : Hp, p h → rdS 1 h v n xs) (hc : ∀ y ∈ xs, isCell y = true) (hb : n ≤ 4294967296) : Fn Tryz.prog 115 #[v] [p] fun u L => (∃ a c, u = .slice a n c) ∧ L = [slR 5 1 u n xs, p] := by
 refine Fn.intro Tryz.func115 rfl rfl fun F W => ?_
 refine .rdAny (p := p) hr (by repeat' constructor) fun aa ca e hlen => ?_
 subst e
 refine .sr (.an rfl (.seq (.sm rfl ?_)))
 rcases aa with _ | aa
 ·refine .q (.sleq rfl rfl Tryz.underlying159) rfl (.nt (.condT rfl (.sr (.an rfl (.rt (.nilEmpty (p := p) hr (by repeat' constructor) fun e1 e2 => ?_))))))
  subst e1; subst e2
  refine .add (slR_nil 5 1) ?_
  exact .dn rfl rfl ⟨⟨_, _, rfl⟩, rfl⟩
 refine .q (.sleq rfl rfl Tryz.underlying159) rfl (.nt (.condF rfl (.sk (.sr (.oq (.buildSlice1 (vs := []) el_159 ze_5 rfl rfl rfl rfl rfl (by decide)) ?_)))))
 rintro v L' ⟨b0, rfl, rfl⟩
 refine .m rfl (.slMake (n := 0) (c := 0) (xs := []) (b := b0) (by repeat' constructor) (Nat.le_refl _) (Nat.zero_le _) rfl (.oq (.append (n := 0) (m := n) (xs := []) (ys := xs) (p := p) rfl rfl rfl el_159 (.inl ⟨_, Tryz.underlying159⟩) ze_5 rfl rfl ?hc9 ?hr10 ?hb11 (by decide)) ?_))
 case hc9 => exact hc
 case hr10 => exact hr
 case hb11 => omega
 rintro v L' ⟨⟨a1, c1, rfl⟩, rfl⟩; rw [Nat.zero_add, List.nil_append]
 refine .an rfl (.ret ?_)
 exact .dn rfl rfl ⟨⟨_, _, rfl⟩, rfl⟩
theorem cloneT_spec (v : Value) (n : Nat) (xs : List Value) (p : HP) (hr : ∀ h : Hp, p h → rdS 1 h v n xs) (hc : ∀ y ∈ xs, isCell y = true) (hb : n ≤ 4294967296) : Fn Tryz.prog 180 #[v] [p] fun u L => (∃ a c, u = .slice a n c) ∧ L = [slR 9 1 u n xs, p] := by
 refine Fn.intro Tryz.func180 rfl rfl fun F W => ?_
 refine .rdAny (p := p) hr (by repeat' constructor) fun aa ca e hlen => ?_
 subst e
 refine .sr (.an rfl (.seq (.sm rfl ?_)))
 rcases aa with _ | aa
 ·refine .q (.sleq rfl rfl Tryz.underlying39) rfl (.nt (.condT rfl (.sr (.an rfl (.rt (.nilEmpty (p := p) hr (by repeat' constructor) fun e1 e2 => ?_))))))
  subst e1; subst e2
  refine .add (slR_nil 9 1) ?_
  exact .dn rfl rfl ⟨⟨_, _, rfl⟩, rfl⟩
 refine .q (.sleq rfl rfl Tryz.underlying39) rfl (.nt (.condF rfl (.sk (.sr (.oq (.buildSlice1 (vs := []) el_39 ze_9 rfl rfl rfl rfl rfl (by decide)) ?_)))))
 rintro v L' ⟨b0, rfl, rfl⟩
 refine .m rfl (.slMake (n := 0) (c := 0) (xs := []) (b := b0) (by repeat' constructor) (Nat.le_refl _) (Nat.zero_le _) rfl (.oq (.append (n := 0) (m := n) (xs := []) (ys := xs) (p := p) rfl rfl rfl el_39 (.inl ⟨_, Tryz.underlying39⟩) ze_9 rfl rfl ?hc9 ?hr10 ?hb11 (by decide)) ?_))
 case hc9 => exact hc
 case hr10 => exact hr
 case hb11 => omega
 rintro v L' ⟨⟨a1, c1, rfl⟩, rfl⟩; rw [Nat.zero_add, List.nil_append]
 refine .an rfl (.ret ?_)
 exact .dn rfl rfl ⟨⟨_, _, rfl⟩, rfl⟩
/- not in this seat -/
def laySec (all : Bs) (i : Nat) : Bs := (all.drop (i * 64)).take 64 ++ List.replicate (64 - ((all.drop (i * 64)).take 64).length) 0
theorem laySec_len (all : Bs) (i : Nat) : (laySec all i).length = 64 := by simp [laySec]; omega
def layF : Nat → Dk → Int → Bs → Nat → Dk × Int
  | 0, δ, _, _, _ => (δ, 0)
  | f + 1, δ, area, all, i =>
    if i * 64 < all.length then
      (if (δ.write (2 + area * halfZ δ + i) (laySec all i)).2 ≠ 0 then ((δ.write (2 + area * halfZ δ + i) (laySec all i)).1, 2)
       else layF f (δ.write (2 + area * halfZ δ + i) (laySec all i)).1 area all (i + 1))
    else (δ, 0)
def layZ (δ : Dk) (area : Int) (all : Bs) (frm : Nat) : Dk × Int := layF (all.length + 1) δ area all (frm / 64)
theorem layF_end {f : Nat} {δ : Dk} {area : Int} {all : Bs} {i : Nat} (h : ¬ i * 64 < all.length) : layF f δ area all i = (δ, 0) := by
 cases f with
 | zero => rfl
 | succ f => simp only [layF]; rw [if_neg h]
theorem write_keeps (δ : Dk) (n : Int) (s : Bs) : (δ.write n s).1.now.length = δ.now.length ∧ (δ.write n s).1.acts ≤ δ.acts + 1 := by
 unfold Dk.write
 split
 ·exact ⟨rfl, by simp; omega⟩
 ·split
  ·exact ⟨rfl, by simp; omega⟩
  ·exact ⟨by simp [Dk.act, Dk.put], by simp [Dk.act, Dk.put]⟩
theorem sync_keeps (δ : Dk) : δ.sync.1.now = δ.now ∧ δ.sync.1.acts ≤ δ.acts + 1 := by
 unfold Dk.sync
 split
 ·exact ⟨rfl, by simp; omega⟩
 ·split <;> exact ⟨by simp [Dk.act], by simp [Dk.act]⟩
theorem halfZ_of {δ δ' : Dk} (h : δ'.now.length = δ.now.length) : halfZ δ' = halfZ δ := by unfold halfZ; rw [h]
def nextZ (δ : Dk) (m : Mk) : Dk × Int :=
 if (δ.write (m.count % 2) m.sec).2 ≠ 0 then ((δ.write (m.count % 2) m.sec).1, 2)
 else if (δ.write (m.count % 2) m.sec).1.sync.2 ≠ 0 then ((δ.write (m.count % 2) m.sec).1.sync.1, 2) else ((δ.write (m.count % 2) m.sec).1.sync.1, 0)
def Wl.mark (ω : Wl) (area : Int) (l : List Bs) (a b : Int) : Mk := ⟨ω.count + 1, area, (laidZ l).length, l.length, a, b⟩
def sealZ (δ : Dk) (ω : Wl) (area : Int) (l : List Bs) : Dk × Wl × Int :=
 if δ.sync.2 ≠ 0 then (δ.sync.1, ω, 2)
 else if (nextZ δ.sync.1 (ω.mark area l ω.a ω.b)).2 ≠ 0 then ((nextZ δ.sync.1 (ω.mark area l ω.a ω.b)).1, ω, 2)
 else ((nextZ δ.sync.1 (ω.mark area l ω.a ω.b)).1, { ω with recs := l, synced := l.length, area := area, count := ω.count + 1 }, 0)
def dbt (r : Dk × Wl × Int) : Dk × Wl × Int := if r.2.2 = 2 then (r.1, { r.2.1 with doubt := true }, r.2.2) else r
def appendZ (δ : Dk) (ω : Wl) (s : Bs) : Dk × Wl × Int :=
 if ω.doubt then (δ, ω, 34) else if s.length > 4000 then (δ, ω, 33) else if ¬ ((laidZ ω.recs).length + s.length + 6 : Int) ≤ 64 * halfZ δ then (δ, ω, 30)
 else if (layZ δ ω.area (laidZ ω.recs ++ recZ s) (laidZ ω.recs).length).2 ≠ 0 then dbt ((layZ δ ω.area (laidZ ω.recs ++ recZ s) (laidZ ω.recs).length).1, ω, (layZ δ ω.area (laidZ ω.recs ++ recZ s) (laidZ ω.recs).length).2)
 else ((layZ δ ω.area (laidZ ω.recs ++ recZ s) (laidZ ω.recs).length).1, { ω with recs := ω.recs ++ [s] }, 0)
def syncZ (δ : Dk) (ω : Wl) : Dk × Wl × Int :=
 if ω.doubt then (δ, ω, 34) else if ω.synced = ω.recs.length then (δ, ω, 0) else if ω.count = 4294967295 then (δ, ω, 30) else dbt (sealZ δ ω ω.area ω.recs)
def cutZ (δ : Dk) (ω : Wl) (n : Int) : Dk × Wl × Int :=
 if ω.doubt then (δ, ω, 34) else if n < 0 ∨ n > ω.recs.length then (δ, ω, 32) else if ω.count = 4294967295 then (δ, ω, 30) else dbt (sealZ δ ω ω.area (ω.recs.take n.toNat))
def renewZ (δ : Dk) (ω : Wl) (l : List Bs) : Dk × Wl × Int :=
 if ω.doubt then (δ, ω, 34) else if l.any (fun s => decide (s.length > 4000)) then (δ, ω, 33) else if ¬ ((l.length : Int) * 6 ≤ 64 * halfZ δ) ∨ ω.count = 4294967295 then (δ, ω, 30)
 else if ¬ ((laidZ l).length : Int) ≤ 64 * halfZ δ then (δ, ω, 30)
 else if (layZ δ (1 - ω.area) (laidZ l) 0).2 ≠ 0 then dbt ((layZ δ (1 - ω.area) (laidZ l) 0).1, ω, (layZ δ (1 - ω.area) (laidZ l) 0).2)
 else dbt (sealZ (layZ δ (1 - ω.area) (laidZ l) 0).1 ω (1 - ω.area) l)
def setmZ (δ : Dk) (ω : Wl) (a b : Int) : Dk × Wl × Int :=
 if ω.doubt then (δ, ω, 34) else if a < 0 ∨ b < 0 then (δ, ω, 1) else if ω.count = 4294967295 then (δ, ω, 30)
 else if (nextZ δ (ω.mark ω.area (ω.recs.take ω.synced.toNat) a b)).2 ≠ 0 then dbt ((nextZ δ (ω.mark ω.area (ω.recs.take ω.synced.toNat) a b)).1, ω, (nextZ δ (ω.mark ω.area (ω.recs.take ω.synced.toNat) a b)).2)
 else ((nextZ δ (ω.mark ω.area (ω.recs.take ω.synced.toNat) a b)).1, { ω with a := a, b := b, count := ω.count + 1 }, 0)
structure WlI (δ : Dk) (ω : Wl) : Prop where
 size : 2 ≤ δ.now.length ∧ δ.now.length ≤ 32768
 acts : δ.acts + 10000000 < 4611686018427387904
 area : 0 ≤ ω.area ∧ ω.area ≤ 1
 count : 0 ≤ ω.count ∧ ω.count ≤ 4294967295
 synced : 0 ≤ ω.synced ∧ ω.synced ≤ ω.recs.length
 fits : ((laidZ ω.recs).length : Int) ≤ 64 * halfZ δ
theorem half_le {δ : Dk} (h : 2 ≤ δ.now.length ∧ δ.now.length ≤ 32768) : 0 ≤ halfZ δ ∧ halfZ δ ≤ 16383 := by unfold halfZ; omega
abbrev wc (d : Nat) (vr : Value) (sy : Int) (vb : Value) (ar ct a b : Int) (db : Bool) : List Value := [vptr d, vr, vint sy, vb, vint ar, vint ct, vint a, vint b, .bool db]
theorem lay_cells (all : Bs) (i k : Nat) (hk : k = all.length - i * 64) : spl (List.replicate 64 zB) 0 ((bysL (all.drop (i * 64))).take (min k 64 * 1)) = bysL (laySec all i) := by
 subst hk
 unfold laySec
 rw [bysL_append, Nat.mul_one]
 have e : (bysL (all.drop (i * 64))).take (min (all.length - i * 64) 64) = bysL ((all.drop (i * 64)).take 64) := by
  rw [show bysL ((all.drop (i * 64)).take 64) = (bysL (all.drop (i * 64))).take 64 from List.map_take]
  rcases Nat.le_total (all.length - i * 64) 64 with h | h
  ·rw [Nat.min_eq_left h, List.take_of_length_le (by simp [bysL]), List.take_of_length_le (by simp [bysL]; omega)]
  ·rw [Nat.min_eq_right h]
 rw [e]
 have hl : (bysL ((all.drop (i * 64)).take 64)).length = ((all.drop (i * 64)).take 64).length := bysL_len _
 generalize (all.drop (i * 64)).take 64 = t at *
 show (List.replicate 64 zB).take 0 ++ bysL t ++ (List.replicate 64 zB).drop (0 + (bysL t).length) = bysL t ++ bysL (List.replicate (64 - t.length) 0)
 rw [hl, Nat.zero_add, List.take_zero, List.nil_append, List.drop_replicate]
 congr 1
 show _ = (List.replicate (64 - t.length) (0 : UInt8)).map vbyte
 rw [List.map_replicate]; rfl
theorem layF_err : ∀ (f : Nat) (δ : Dk) (area : Int) (all : Bs) (i : Nat), (layF f δ area all i).2 = 0 ∨ (layF f δ area all i).2 = 2 := by
 intro f
 induction f with
 | zero => intro δ area all i; exact .inl rfl
 | succ f ih =>
  intro δ area all i
  simp only [layF]
  split
  ·split
   ·exact .inr rfl
   ·exact ih _ _ _ _
  ·exact .inl rfl
theorem layZ_err (δ : Dk) (area : Int) (all : Bs) (frm : Nat) : (layZ δ area all frm).2 = 0 ∨ (layZ δ area all frm).2 = 2 := layF_err _ _ _ _ _
theorem layF_keeps : ∀ (f : Nat) (δ : Dk) (area : Int) (all : Bs) (i : Nat), (layF f δ area all i).1.now.length = δ.now.length ∧ (layF f δ area all i).1.acts ≤ δ.acts + f := by
 intro f
 induction f with
 | zero => intro δ area all i; exact ⟨rfl, by simp [layF]⟩
 | succ f ih =>
  intro δ area all i
  simp only [layF]
  have hw := write_keeps δ (2 + area * halfZ δ + i) (laySec all i)
  split
  ·split
   ·exact ⟨hw.1, by dsimp only; omega⟩
   ·have := ih (δ.write (2 + area * halfZ δ + i) (laySec all i)).1 area all (i + 1)
    exact ⟨by rw [this.1, hw.1], by omega⟩
  ·exact ⟨rfl, by dsimp only; omega⟩
theorem nextZ_keeps (δ : Dk) (m : Mk) : (nextZ δ m).1.now.length = δ.now.length ∧ (nextZ δ m).1.acts ≤ δ.acts + 2 ∧ ((nextZ δ m).2 = 0 ∨ (nextZ δ m).2 = 2) := by
 have h1 := write_keeps δ (m.count % 2) m.sec
 have h2 := sync_keeps (δ.write (m.count % 2) m.sec).1
 unfold nextZ
 split
 ·exact ⟨h1.1, by dsimp only; omega, .inr rfl⟩
 ·split
  ·exact ⟨by rw [h2.1, h1.1], by dsimp only; omega, .inr rfl⟩
  ·exact ⟨by rw [h2.1, h1.1], by dsimp only; omega, .inl rfl⟩
theorem fits_spec (x d : Nat) (vr : Value) (sy : Int) (vb : Value) (ar ct a b : Int) (db : Bool) (δ : Dk) (n : Int) (hn : 2 ≤ δ.now.length ∧ δ.now.length ≤ 32768) : Fn Tryz.prog 114 #[vptr x, vint n] [ptc x (wc d vr sy vb ar ct a b db) 161, dkR d δ] fun v L => v = .bool (decide (n ≤ 64 * halfZ δ)) ∧ L = [ptc x (wc d vr sy vb ar ct a b db) 161, dkR d δ] := by
 refine Fn.intro Tryz.func114 rfl rfl fun F W => ?_
 have hh := half_le hn
 refine .sr (.an rfl (.sm rfl (.m rfl (.nf rfl fo_161_0 (.u (.ld rfl ag_24) (.cv Tryz.func112 [_] (half_spec d δ hn) ?_))))))
 refine .q (.mul rfl rfl (by omega)) rfl (.ui rfl rfl rfl (.an rfl (.ret ?_)))
 exact .vv
theorem doubts_spec (x d : Nat) (vr : Value) (sy : Int) (vb : Value) (ar ct a b : Int) (db : Bool) (e : Nat) (er : Int) : FnD Tryz.prog 113 #[vptr x, vptr e] [ptc x (wc d vr sy vb ar ct a b db) 161, ptc e [vint er] 60] fun v L => v = .tuple #[] ∧ L = [ptc x (wc d vr sy vb ar ct a b (if er = 2 then true else db)) 161, ptc e [vint er] 60] := by
 refine FnD.intro (vs := [vptr x, vptr e]) Tryz.func113 rfl rfl ?_
 intro F W
 refine G.sm rfl (G.u (Quiet.nilp rfl) (G.u (Quiet.ld rfl ag_60) (G.ui rfl rfl rfl (G.nt (G.condD rfl (fun h7 => ?_) (fun h7 => ?_))))))
 ·refine G.region (G.m rfl (G.nf rfl fo_161_8 (G.st rfl rfl rfl sz_4 ?_)))
  refine G.nil (G.done_n ?_)
  rw [if_pos h7]
  exact G.dn rfl rfl ⟨rfl, rfl⟩
 ·refine G.skip (G.done_n ?_)
  rw [if_neg h7]
  exact G.dn rfl rfl ⟨rfl, rfl⟩
theorem lay_spec4 (x d : Nat) (vr : Value) (sy : Int) (vb : Value) (ar ct a b : Int) (db : Bool) (va : Value) (δ : Dk) (area : Int) (all : Bs) (frm : Nat) (p : HP) (hn : 2 ≤ δ.now.length ∧ δ.now.length ≤ 32768) (ha : 0 ≤ area ∧ area ≤ 1) (hA : δ.acts + 70000 < 4611686018427387904) (hr : ∀ h : Hp, p h → rdS 1 h va all.length (bysL all)) (hl0 : all.length ≤ 2000000) (hfrm : frm ≤ all.length) : Fn Tryz.prog 117 #[vptr x, vint area, va, vint frm] [ptc x (wc d vr sy vb ar ct a b db) 161, dkR d δ, p] fun v L => v = vint (layZ δ area all frm).2 ∧ L = [ptc x (wc d vr sy vb ar ct a b db) 161, dkR d (layZ δ area all frm).1, p] := by
 refine Fn.intro Tryz.func117 rfl rfl fun F W => ?_
 have hh := half_le hn
 refine .rdAny (p := p) hr (by repeat' constructor) fun aa ca e _ => ?_
 subst e
 refine .sr (.an rfl (.seq (.sm rfl (.q (.as (v' := vint ((frm / 64 : Nat) : Int)) (by exact congrArg vint (by omega)) (.quoE rfl rfl (by omega) (by omega))) rfl (.an rfl (.block (.loopK (ι := Nat × Dk × Nat) (fun q E => (9, vint q.1) :: E) (fun q => [dkR d q.2.1]) (fun q => all.length < q.2.2 + q.1 * 64 ∧ layF q.2.2 q.2.1 area all q.1 = layZ δ area all frm ∧ q.2.1.now.length = δ.now.length ∧ q.2.1.acts ≤ δ.acts + q.1 ∧ q.1 ≤ all.length / 64 + frm + 1) (fun q => all.length - q.1 * 64) (frm / 64, δ, all.length + 1) (ts := [0, 1, 2]) (.cons rfl (.cons rfl (.cons rfl (.nil)))) (⟨by dsimp only; omega, rfl, rfl, by dsimp only; omega, by dsimp only; omega⟩) ⟨rfl, rfl, rfl, rfl, trivial⟩ (by repeat' constructor) ?_)))))))
 rintro ⟨i, δ2, f⟩ ⟨hf, hl, hnl, hac, hib⟩
 dsimp only
 dsimp only at hf hl hnl hac hib
 have hhz := halfZ_of hnl
 refine .seq (.sm rfl (.q (.mul rfl rfl (by omega)) rfl (.m rfl (.q (.slen rfl Tryz.underlying159 rfl) rfl (.ui rfl rfl rfl (.nt (.condD rfl (fun h18 => ?_) (fun h18 => ?_))))))))
 ·obtain ⟨f, rfl⟩ : ∃ k, f = k + 1 := ⟨f - 1, by omega⟩
  have hi2 : i * 64 < all.length := by omega
  simp only [layF] at hl
  rw [if_pos hi2, hhz] at hl
  refine .rdShapeC (p := p) hr (by repeat' constructor) (by omega) fun ba oa e hac2 => ?_
  subst e
  have hmul : 0 ≤ area * halfZ δ ∧ area * halfZ δ ≤ 16383 := by rcases (by omega : area = 0 ∨ area = 1) with h | h <;> rw [h] <;> omega
  refine .sk (.seq (.block (.sr (.oq (.make rfl rfl el_159 ze_5 rfl ⟨by simp, by simp; rfl⟩ ?hc9) ?_))))
  case hc9 => omega
  rintro v L' ⟨bs, rfl, rfl⟩; rw [show (64 : Int).toNat = 64 from rfl]
  refine .an rfl (.sm rfl (.m rfl (.m rfl (.q (.mul rfl rfl (by omega)) rfl (.q (.to (v' := .slice (some ⟨ba, oa + i * 64 * 1, none⟩) (all.length - i * 64) (ca - i * 64)) (.slSlice (i := (i : Int) * 64) (j := all.length) rfl el_159 (by exact rfl) (by exact rfl) (by omega)) (by rw [show ((i : Int) * 64).toNat = i * 64 by omega, if_neg (by omega)]; simp)) rfl (.oq (.copy (m := all.length - i * 64) (ys := (bysL all).drop (i * 64 * 1)) (p := p) rfl rfl rfl el_159 ?h116 ?h217 ?h318 ?h419) ?_))))))
  case h116 => exact fun h hp => rdS_drop (hr h hp) hi2
  case h217 => exact fun y hy => bysL_cell _ y (List.mem_of_mem_drop hy)
  case h318 => simp
  case h419 => exact nfz0 _ _
  rintro v L' ⟨rfl, rfl⟩
  refine .nil (.ptCast (b := bs) (l' := bysL (laySec all i)) (by repeat' constructor) (by rw [show (bysL all).drop (i * 64 * 1) = bysL (all.drop (i * 64)) from by rw [Nat.mul_one]; exact List.map_drop.symm]; exact lay_cells all i _ rfl) (.then_n (.seq (.draw [16] [[0, 1, 2, 3, 4, 5, 6, 7, 8, 9, 10, 11, 12, 13, 14, 15, 16], [17]] mixed (by kernel_rfl) (.go [ptc x _ _, ptc bs _ _] (by repeat' constructor) (.mv rfl rfl (.nf rfl rfl rfl fo_161_0 (.kv rfl (.ld rfl ag_24) (.mv rfl rfl (.mv rfl rfl (.nf rfl rfl rfl fo_161_0 (.kv rfl (.ld rfl ag_24) (.mw [10, 11, 13, 16] rfl (by kernel_rfl) (.c Tryz.func112 [_] (half_spec d δ2 (by omega))) (by repeat' constructor) ?_)))))))))))))
  rw [hhz]
  refine D.kv rfl (.mul rfl rfl (by omega)) (.kv rfl (.add rfl rfl (by omega)) (.mv rfl rfl (.kv rfl (.add rfl rfl (by omega)) (.mv rfl rfl (.kv rfl (.bytesPt (cs := laySec all i) rfl Tryz.underlying159 Tryz.underlying5 Tryz.underlying9 (by repeat' constructor) (by rw [List.drop_zero]; exact List.take_of_length_le (by simp [bysL_len, laySec_len])) (by simp [bysL_len, laySec_len]) (by decide)) (.hh rfl (.c Tryz.func132 [_, _, _] (write_spec d δ2 (2 + area * halfZ δ + i) (laySec all i) (by omega))) ?_))))))
  rintro v L' ⟨rfl, rfl⟩
  refine D.ph (.g0 (.kv rfl (.assign rfl) (.pf (.sm rfl (.ui rfl rfl rfl (.nt (.condN rfl (fun h46 => ?_) (fun h46 => ?_))))))))
  ·refine .seq ?_
   have h46 : (δ2.write (2 + area * halfZ δ + i) (laySec all i)).2 ≠ 0 := by simpa using h46
   rw [if_pos h46] at hl
   rw [← hl]
   refine .region (.an rfl (.ret (.blk_r (.then_r (.then_r (.blk_r (.then_r ?_)))))))
   exact .vv
  have h46 : ¬ (δ2.write (2 + area * halfZ δ + i) (laySec all i)).2 ≠ 0 := by simpa using h46
  rw [if_neg h46] at hl
  refine .skip (.blk_n (.then_n (.region (.m rfl (.q (.add rfl rfl (by omega)) rfl (.an rfl ?_))))))
  exact .rk ((i + 1, (δ2.write (2 + area * halfZ δ + i) (laySec all i)).1, f)) (⟨by dsimp only; omega, hl, by rw [(write_keeps _ _ _).1]; exact hnl, by have := (write_keeps δ2 (2 + area * halfZ δ + i) (laySec all i)).2; dsimp only; omega, by dsimp only; omega⟩) (by dsimp only; omega) ⟨rfl, rfl, rfl, rfl, trivial⟩
 have hq := layF_end (f := f) (δ := δ2) (area := area) (all := all) (i := i) (by omega)
 rw [hq] at hl
 rw [← hl]
 refine .exit (.then_e (.then_e (.blk_e (.then_n (.sr (.an rfl (.ret ?_)))))))
 exact .vv
theorem next_spec (x d : Nat) (vr : Value) (sy : Int) (vb : Value) (ar ct a b : Int) (db : Bool) (m : Mk) (δ : Dk) (hc : 0 ≤ ct ∧ ct ≤ 4294967295) (hA : δ.acts + 2 < 4611686018427387904) : Fn Tryz.prog 118 #[vptr x, .agg (mkC m).toArray] [ptc x (wc d vr sy vb ar ct a b db) 161, dkR d δ] fun v L => v = vint (nextZ δ (⟨ct + 1, m.area, m.len, m.num, m.a, m.b⟩ : Mk)).2 ∧ L = [ptc x (wc d vr sy vb ar (if (nextZ δ (⟨ct + 1, m.area, m.len, m.num, m.a, m.b⟩ : Mk)).2 = 0 then ct + 1 else ct) a b db) 161, dkR d (nextZ δ (⟨ct + 1, m.area, m.len, m.num, m.a, m.b⟩ : Mk)).1] := by
 refine Fn.intro Tryz.func118 rfl rfl fun F W => ?_
 generalize hM : (⟨ct + 1, m.area, m.len, m.num, m.a, m.b⟩ : Mk) = M
 have hMc : M.count = ct + 1 := by rw [← hM]
 have hwk := write_keeps δ (M.count % 2) M.sec
 refine .sr (.oq (.box rfl) ?_)
 rintro v L' ⟨b3, rfl, rfl⟩
 refine .an rfl (.sm rfl (.nf rfl fo_161_5 (.u (.ld rfl ag_3) (.q (.add rfl rfl (by omega)) rfl (.u (.fieldAddr rfl fo_171_0) (.oq (.store rfl rfl rfl sz_3 ?c10 (nfz0 _ _)) ?_))))))
 case c10 => simp [Value.cells, mkC]
 rintro v L' rfl
 refine .nil (.ptCast (b := b3) (l' := mkC M) (by repeat' constructor) (by rw [← hM]; rfl) (.then_n (.seq (.seq (.draw [9, 16] [[0, 1, 2, 3, 4, 5, 6, 7, 8, 9], [10, 11, 12, 13, 14, 15, 16], [17, 18]] mixed (by kernel_rfl) (.go [ptc x _ _, ptc b3 _ _] (by repeat' constructor) (.mv rfl rfl (.nf rfl rfl rfl fo_161_0 (.kv rfl (.ld rfl ag_24) (.kv rfl (.fieldAddr rfl fo_171_0) (.kv rfl (.ld rfl ag_3) (.kv rfl (.remE (a := M.count) rfl rfl (by rw [hMc]; omega) (by decide)) (.kv rfl (.loadAs (vs := mkC M) rfl ag_171 (by repeat' constructor) (by simp [mkC]) rfl) (.m rfl (by kernel_rfl) (.c Tryz.func134 [_] (sector_spec M)) (by repeat' constructor) ?_))))))))))))))
 refine D.hh rfl (.c Tryz.func132 [_, _, _] (write_spec d δ (M.count % 2) M.sec (by omega))) ?_
 rintro v L' ⟨rfl, rfl⟩
 refine D.ph (.g0 (.kv rfl (.int rfl rfl rfl) (.mv rfl rfl (.ndec (t := 22) rfl (fun h2_22 => ?_) (fun h2_22 => ?_)))))
 ·refine D.kNT (t := 21) rfl h2_22 (.gz rfl (.gz rfl (.gz rfl (.gz rfl (.gz rfl (.ph (.g0 (.gz rfl (.kv rfl (.pickT rfl rfl) (.pf (.condT rfl (.sr (.an rfl (.rt ?_))))))))))))))
  have e : nextZ δ M = ((δ.write (M.count % 2) M.sec).1, 2) := by unfold nextZ; rw [if_pos (by simpa using h2_22)]
  rw [e]
  rw [if_neg (show ¬ (2 : Int) = 0 by decide)]
  exact .vv
 refine D.kNF (t := 21) rfl h2_22 (.gv rfl (.move rfl) (.gv rfl (.nilp rfl) (.gv rfl (.fieldAddr rfl fo_161_0) (.gv rfl (.ld rfl ag_24) (.gh (t := 22) rfl rfl rfl (by kernel_rfl) (.c Tryz.func135 [_] (sync_spec d (δ.write (M.count % 2) M.sec).1 (by omega))) (by repeat' constructor) ?_)))))
 rintro v L' ⟨rfl, rfl⟩
 refine D.ph (.g0 (.gv rfl (.int rfl rfl rfl) (.kv rfl (.pickF rfl rfl) (.pf (.condN rfl (fun h29 => ?_) (fun h29 => ?_))))))
 ·refine .sr (.an rfl (.rt ?_))
  have e : nextZ δ M = ((δ.write (M.count % 2) M.sec).1.sync.1, 2) := by unfold nextZ; rw [if_neg (by simpa using h2_22), if_pos (by simpa using h29)]
  rw [e]
  rw [if_neg (show ¬ (2 : Int) = 0 by decide)]
  exact .vv
 refine .sk (.sm rfl (.u (.fieldAddr rfl fo_171_0) (.u (.ld rfl ag_3) (.nf rfl fo_161_5 (.st rfl rfl rfl sz_3 ?_)))))
 refine .nt (.sr (.an rfl (.ret ?_)))
 have e : nextZ δ M = ((δ.write (M.count % 2) M.sec).1.sync.1, 0) := by unfold nextZ; rw [if_neg (by simpa using h2_22), if_neg (by simpa using h29)]
 rw [e]
 rw [if_pos rfl, ← hMc]
 exact .vv
theorem strs_cell (l : List Bs) : ∀ y ∈ strs l, isCell y = true := by
 intro y hy; obtain ⟨c, -, rfl⟩ := List.mem_map.1 hy; rfl
theorem seal_spec (x d : Nat) (vr vb : Value) (ω : Wl) (δ : Dk) (area : Int) (v1 v2 : Value) (l : List Bs) (p q : HP) (hc : 0 ≤ ω.count ∧ ω.count ≤ 4294967295) (hA : δ.acts + 10 < 4611686018427387904) (hl : (laidZ l).length ≤ 4000000) (hp : ∀ h : Hp, p h → rdS 1 h v1 l.length (strs l)) (hq : ∀ h : Hp, q h → rdS 1 h v2 (laidZ l).length (bysL (laidZ l))) :
    Fn Tryz.prog 120 #[vptr x, vint area, v1, v2] [ptc x (wc d vr ω.synced vb ω.area ω.count ω.a ω.b ω.doubt) 161, dkR d δ, p, q] fun v L => (∃ δ', sealZ δ ω area l = (δ', ω, 2) ∧ v = vint 2 ∧ L = [ptc x (wc d vr ω.synced vb ω.area ω.count ω.a ω.b ω.doubt) 161, dkR d δ', p, q]) ∨
      (∃ δ', sealZ δ ω area l = (δ', { ω with recs := l, synced := l.length, area := area, count := ω.count + 1 }, 0) ∧ v = vint 0 ∧ ∃ vr' vb', L = [ptc x (wc d vr' l.length vb' area (ω.count + 1) ω.a ω.b ω.doubt) 161, dkR d δ', strR vr' l, bytR vb' (laidZ l), p, q]) := by
 refine Fn.intro Tryz.func120 rfl rfl fun F W => ?_
 have hsk := sync_keeps δ
 have hll := laidZ_many l
 refine .rdAny (p := p) hp (by repeat' constructor) fun ap cp e _ => ?_
 subst e
 refine .rdAny (p := q) hq (by repeat' constructor) fun aq cq e _ => ?_
 subst e
 refine .sr (.an rfl (.seq (.sm rfl (.nf rfl fo_161_0 (.u (.ld rfl ag_24) (.cv Tryz.func135 [_] (sync_spec d δ (by omega)) ?_))))))
 refine .ui rfl rfl rfl (.nt (.condN rfl (fun h15 => ?_) (fun h15 => ?_)))
 ·refine .sr (.an rfl (.rt ?_))
  have e : sealZ δ ω area l = (δ.sync.1, ω, 2) := by unfold sealZ; rw [if_pos (by simpa using h15)]
  exact .dn rfl rfl (.inl ⟨_, e, rfl, rfl⟩)
 refine .sk (.seq (.seq (.draw [15] [[0, 1, 2, 3, 4, 5, 6, 7, 8, 9, 10, 11, 12, 13, 14, 15], [16]] mixed (by kernel_rfl) (.g0 (.mv rfl rfl (.mv rfl rfl (.mv rfl rfl (.kv rfl (.slen rfl Tryz.underlying159 rfl) (.mv rfl rfl (.kv rfl (.slen rfl Tryz.underlying39 rfl) (.mv rfl rfl (.nf rfl rfl rfl fo_161_6 (.kv rfl (.ld rfl ag_3) (.mv rfl rfl (.nf rfl rfl rfl fo_161_7 (.kv rfl (.ld rfl ag_3) (.kv rfl (.to (v' := .agg (mkC ⟨0, area, (laidZ l).length, l.length, ω.a, ω.b⟩).toArray) (.build (us := [(1, _), (2, _), (3, _), (4, _), (5, _)]) fl_171 ze_171 rfl rfl (by simp [isCell])) rfl) (.hh rfl (.c Tryz.func118 [_, _] (next_spec x d vr ω.synced vb ω.area ω.count ω.a ω.b ω.doubt ⟨0, area, (laidZ l).length, l.length, ω.a, ω.b⟩ δ.sync.1 hc (by omega))) ?_))))))))))))))))))
 rintro v L' ⟨rfl, rfl⟩; rw [show (⟨ω.count + 1, area, ((laidZ l).length : Int), (l.length : Int), ω.a, ω.b⟩ : Mk) = ω.mark area l ω.a ω.b from rfl]
 refine D.ph (.g0 (.kv rfl (.assign rfl) (.pf (.sm rfl (.ui rfl rfl rfl (.nt (.condN rfl (fun h33 => ?_) (fun h33 => ?_))))))))
 ·refine .sm rfl (.an rfl (.rt ?_))
  have e : sealZ δ ω area l = ((nextZ δ.sync.1 (ω.mark area l ω.a ω.b)).1, ω, 2) := by unfold sealZ; rw [if_neg (by simpa using h15), if_pos (by simpa using h33)]
  have hn2 : (nextZ δ.sync.1 (ω.mark area l ω.a ω.b)).2 = 2 := by rcases (nextZ_keeps δ.sync.1 (ω.mark area l ω.a ω.b)).2.2 with h | h; exact absurd h (by simpa using h33); exact h
  rw [hn2, if_neg (show ¬ (2 : Int) = 0 by decide)]
  exact .dn rfl rfl (.inl ⟨_, e, rfl, rfl⟩)
 refine .sk (.seq ?_)
 have h33b : (nextZ δ.sync.1 (ω.mark area l ω.a ω.b)).2 = 0 := by simpa using h33
 rw [if_pos h33b]
 refine .region (.m rfl (.m rfl (.m rfl (.m rfl (.m rfl (.m rfl (.oq (.c Tryz.func180 [_] (cloneT_spec _ l.length (strs l) p hp ?h134 ?h235)) ?_)))))))
 case h134 => exact strs_cell l
 case h235 => omega
 rintro v L' ⟨⟨ar', cr', rfl⟩, rfl⟩
 refine .m rfl (.oq (.c Tryz.func115 [_] (cloneB_spec _ (laidZ l).length (bysL (laidZ l)) q hq ?h139 ?h240)) ?_)
 case h139 => exact bysL_cell _
 case h240 => omega
 rintro v L' ⟨⟨ab', cb', rfl⟩, rfl⟩
 refine .m rfl (.q (.slen rfl Tryz.underlying39 rfl) rfl (.nf rfl fo_161_4 (.st rfl rfl rfl sz_3 ?_)))
 refine .nf rfl fo_161_1 (.st rfl rfl rfl sz_39 ?_)
 refine .nf rfl fo_161_3 (.st rfl rfl rfl sz_159 ?_)
 refine .nf rfl fo_161_2 (.st rfl rfl rfl sz_3 ?_)
 refine .nt (.sr (.an rfl (.ret ?_)))
 have e : sealZ δ ω area l = ((nextZ δ.sync.1 (ω.mark area l ω.a ω.b)).1, { ω with recs := l, synced := l.length, area := area, count := ω.count + 1 }, 0) := by unfold sealZ; rw [if_neg (by simpa using h15), if_neg (by simpa using h33)]
 exact .dn rfl rfl (.inr ⟨_, e, rfl, _, _, rfl⟩)
theorem rd_take {arr : Option Addr} {n crr k : Nat} {T : TypeId} {l : List Bs} (hk : k ≤ n) (hn : n = l.length) : ∀ h : Hp, slR T 1 (.slice arr n crr) n (strs l) h → rdS 1 h (.slice arr k crr) (l.take k).length (strs (l.take k)) := by
 intro h hp
 have := slR_rd (slR_to hk hp)
 rw [show (l.take k).length = k by rw [List.length_take]; omega, show strs (l.take k) = (strs l).take k from List.map_take]
 exact this
theorem wsync_spec (x d : Nat) (ω : Wl) (δ : Dk) (hI : WlI δ ω) : Fn Tryz.prog 73 #[vptr x] [wlR x d ω, dkR d δ] fun v L => v = vint (syncZ δ ω).2.2 ∧ L = [wlR x d (syncZ δ ω).2.1, dkR d (syncZ δ ω).1] := by
 refine Fn.introD (vs := [vptr x]) Tryz.func73 rfl rfl ?_
 intro F W
 refine .wlOpen (ω := ω) (by repeat' constructor) fun vr vb => (.slAny (v := vr) (by repeat' constructor) fun arr crr e _ => ?_)
 subst e
 refine .slAny (v := vb) (by repeat' constructor) fun abb cbb e _ => ?_
 subst e
 refine .slAddr (T := 9) (by repeat' constructor) fun hrc hra => ?_
 obtain ⟨hn, hA, har, hct, hsy, hfit⟩ := hI
 have hh := half_le hn
 have hll := laidZ_many ω.recs
 refine .sr (.oq (.alloc ze_60) ?_)
 rintro v L' ⟨be, rfl, rfl⟩
 refine .nil (.ptCast (b := be) (l' := [vint 0]) (by repeat' constructor) rfl (.then_n (.sm rfl (.defer (vs := [_, _]) rfl (.nt (.seq (.block (.sm rfl (.nf rfl fo_161_8 (.u (.ld rfl ag_4) (.an rfl (.condB rfl (fun h4 => ?_) (fun h4 => ?_)))))))))))))
 ·refine .sr (.st rfl rfl rfl sz_60 ?_)
  refine .nil (.ptCast (b := be) (l' := [vint 34]) (by repeat' constructor) rfl (.then_n (.ret (.blk_r (.then_r (.doneD Tryz.func113 rfl rfl (doubts_spec x d (.slice arr ω.recs.length crr) ω.synced (.slice abb (laidZ ω.recs).length cbb) ω.area ω.count ω.a ω.b ω.doubt be 34) (by repeat' constructor) ?_))))))
  rintro u L' ⟨rfl, rfl⟩
  have e : syncZ δ ω = (δ, ω, 34) := by unfold syncZ; rw [if_pos h4]
  rw [e, if_neg (show ¬ (34 : Int) = 2 by decide)]
  refine .wlFold (x := x) (d := d) (ω := ω) (by repeat' constructor) rfl rfl rfl rfl rfl ?_
  exact .d1 rfl (.cell rfl ag_60 (by repeat' constructor) rfl) ⟨rfl, rfl⟩
 have hdb : ¬ ω.doubt = true := by rw [h4]; decide
 refine .seq (.draw [] [[0, 1, 2, 3, 4, 5, 6, 7, 8, 9, 10]] mixed (by kernel_rfl) (.g0 (.mv rfl rfl (.nf rfl rfl rfl fo_161_2 (.kv rfl (.ld rfl ag_3) (.mv rfl rfl (.nf rfl rfl rfl fo_161_1 (.kv rfl (.ld rfl ag_39) (.kv rfl (.slen rfl Tryz.underlying39 rfl) (.kv rfl (.int rfl rfl rfl) (.kv rfl (.assign rfl) (.pf (.condD rfl (fun h9 => ?_) (fun h9 => ?_))))))))))))))
 ·refine .sr (.st rfl rfl rfl sz_60 ?_)
  refine .nil (.ptCast (b := be) (l' := [vint 0]) (by repeat' constructor) rfl (.then_n (.ret (.blk_r (.then_r (.doneD Tryz.func113 rfl rfl (doubts_spec x d (.slice arr ω.recs.length crr) ω.synced (.slice abb (laidZ ω.recs).length cbb) ω.area ω.count ω.a ω.b ω.doubt be 0) (by repeat' constructor) ?_))))))
  rintro u L' ⟨rfl, rfl⟩
  have e : syncZ δ ω = (δ, ω, 0) := by unfold syncZ; rw [if_neg hdb, if_pos h9]
  rw [e, if_neg (show ¬ (0 : Int) = 2 by decide)]
  refine .wlFold (x := x) (d := d) (ω := ω) (by repeat' constructor) rfl rfl rfl rfl rfl ?_
  exact .d1 rfl (.cell rfl ag_60 (by repeat' constructor) rfl) ⟨rfl, rfl⟩
 refine .sm rfl (.nf rfl fo_161_5 (.u (.ld rfl ag_3) (.ui rfl rfl rfl (.an rfl (.condD rfl (fun h20 => ?_) (fun h20 => ?_))))))
 ·refine .sr (.st rfl rfl rfl sz_60 ?_)
  refine .nil (.ptCast (b := be) (l' := [vint 30]) (by repeat' constructor) rfl (.then_n (.ret (.blk_r (.then_r (.doneD Tryz.func113 rfl rfl (doubts_spec x d (.slice arr ω.recs.length crr) ω.synced (.slice abb (laidZ ω.recs).length cbb) ω.area ω.count ω.a ω.b ω.doubt be 30) (by repeat' constructor) ?_))))))
  rintro u L' ⟨rfl, rfl⟩
  have e : syncZ δ ω = (δ, ω, 30) := by unfold syncZ; rw [if_neg hdb, if_neg h9, if_pos h20]
  rw [e, if_neg (show ¬ (30 : Int) = 2 by decide)]
  refine .wlFold (x := x) (d := d) (ω := ω) (by repeat' constructor) rfl rfl rfl rfl rfl ?_
  exact .d1 rfl (.cell rfl ag_60 (by repeat' constructor) rfl) ⟨rfl, rfl⟩
 refine .skip (.blk_n (.then_n (.seq (.draw [13, 14] [[0, 1, 2, 3, 4, 5, 6, 7, 8, 9, 10, 11, 12, 13], [14]] mixed (by kernel_rfl) (.g0 (.mv rfl rfl (.mv rfl rfl (.nf rfl rfl rfl fo_161_4 (.kv rfl (.ld rfl ag_3) (.mv rfl rfl (.nf rfl rfl rfl fo_161_1 (.kv rfl (.ld rfl ag_39) (.mv rfl rfl (.nf rfl rfl rfl fo_161_3 (.kv rfl (.ld rfl ag_159) (.hh rfl (.c Tryz.func120 [_, _, _, _] (seal_spec x d (.slice arr ω.recs.length crr) (.slice abb (laidZ ω.recs).length cbb) ω δ ω.area (.slice arr ω.recs.length crr) (.slice abb (laidZ ω.recs).length cbb) ω.recs (strR (.slice arr ω.recs.length crr) ω.recs) (bytR (.slice abb (laidZ ω.recs).length cbb) (laidZ ω.recs)) hct (by omega) ?hl45 ?hp46 ?hq47)) ?_))))))))))))))))
 case hl45 => omega
 case hp46 => exact fun h hp => slR_rd hp
 case hq47 => exact fun h hp => slR_rd hp
 rintro v L' (⟨δ', hs, rfl, rfl⟩ | ⟨δ', hs, rfl, vr', vb', rfl⟩)
 ·refine D.ph (.g0 (.hh rfl (.store rfl rfl rfl sz_60 ?c50 (nfz0 _ _)) ?_))
  case c50 => first | decide | (simp; omega) | simp
  rintro v L' rfl
  refine D.ph (.fin (.ptCast (b := be) (l' := [vint 2]) (by repeat' constructor) rfl (.then_n (.ret (.doneD Tryz.func113 rfl rfl (doubts_spec x d (.slice arr ω.recs.length crr) ω.synced (.slice abb (laidZ ω.recs).length cbb) ω.area ω.count ω.a ω.b ω.doubt be 2) (by repeat' constructor) ?_)))))
  rintro u L' ⟨rfl, rfl⟩
  have e : syncZ δ ω = (δ', { ω with doubt := true }, 2) := by unfold syncZ; rw [if_neg hdb, if_neg h9, if_neg h20, hs]; rfl
  rw [e, if_pos rfl]
  refine .wlFold (x := x) (d := d) (ω := { ω with doubt := true }) (by repeat' constructor) rfl rfl rfl rfl rfl ?_
  exact .d1 rfl (.cell rfl ag_60 (by repeat' constructor) rfl) ⟨rfl, rfl⟩
 refine D.ph (.g0 (.hh rfl (.store rfl rfl rfl sz_60 ?c54 (nfz0 _ _)) ?_))
 case c54 => first | decide | (simp; omega) | simp
 rintro v L' rfl
 refine D.ph (.fin (.ptCast (b := be) (l' := [vint 0]) (by repeat' constructor) rfl (.then_n (.ret (.doneD Tryz.func113 rfl rfl (doubts_spec x d vr' _ vb' _ _ _ _ _ be 0) (by repeat' constructor) ?_)))))
 rintro u L' ⟨rfl, rfl⟩
 have e : syncZ δ ω = (δ', { ω with synced := ω.recs.length, count := ω.count + 1 }, 0) := by unfold syncZ; rw [if_neg hdb, if_neg h9, if_neg h20, hs]; rfl
 rw [e, if_neg (show ¬ (0 : Int) = 2 by decide)]
 refine .wlFold (x := x) (d := d) (ω := { ω with synced := ω.recs.length, count := ω.count + 1 }) (by repeat' constructor) rfl rfl rfl rfl rfl ?_
 exact .d1 rfl (.cell rfl ag_60 (by repeat' constructor) rfl) ⟨rfl, rfl⟩
theorem wcut_spec (x d : Nat) (ω : Wl) (δ : Dk) (n : Int) (hI : WlI δ ω) : Fn Tryz.prog 164 #[vptr x, vint n] [wlR x d ω, dkR d δ] fun v L => v = vint (cutZ δ ω n).2.2 ∧ L = [wlR x d (cutZ δ ω n).2.1, dkR d (cutZ δ ω n).1] := by
 refine Fn.introD (vs := [vptr x, vint n]) Tryz.func164 rfl rfl ?_
 intro F W
 refine .wlOpen (ω := ω) (by repeat' constructor) fun vr vb => (.slAny (v := vr) (by repeat' constructor) fun arr crr e _ => ?_)
 subst e
 refine .slAny (v := vb) (by repeat' constructor) fun abb cbb e _ => ?_
 subst e
 refine .slAddr (T := 9) (by repeat' constructor) fun hrc hra => ?_
 obtain ⟨hn, hA, har, hct, hsy, hfit⟩ := hI
 have hh := half_le hn
 have hll := laidZ_many ω.recs
 refine .sr (.oq (.alloc ze_60) ?_)
 rintro v L' ⟨be, rfl, rfl⟩
 refine .nil (.ptCast (b := be) (l' := [vint 0]) (by repeat' constructor) rfl (.then_n (.sm rfl (.defer (vs := [_, _]) rfl (.nt (.seq (.block (.sm rfl (.nf rfl fo_161_8 (.u (.ld rfl ag_4) (.an rfl (.condB rfl (fun h6 => ?_) (fun h6 => ?_)))))))))))))
 ·refine .sr (.st rfl rfl rfl sz_60 ?_)
  refine .nil (.ptCast (b := be) (l' := [vint 34]) (by repeat' constructor) rfl (.then_n (.ret (.blk_r (.then_r (.doneD Tryz.func113 rfl rfl (doubts_spec x d (.slice arr ω.recs.length crr) ω.synced (.slice abb (laidZ ω.recs).length cbb) ω.area ω.count ω.a ω.b ω.doubt be 34) (by repeat' constructor) ?_))))))
  rintro u L' ⟨rfl, rfl⟩
  have e : cutZ δ ω n = (δ, ω, 34) := by unfold cutZ; rw [if_pos h6]
  rw [e, if_neg (show ¬ (34 : Int) = 2 by decide)]
  refine .wlFold (x := x) (d := d) (ω := ω) (by repeat' constructor) rfl rfl rfl rfl rfl ?_
  exact .d1 rfl (.cell rfl ag_60 (by repeat' constructor) rfl) ⟨rfl, rfl⟩
 have hdb : ¬ ω.doubt = true := by rw [h6]; decide
 refine .sm rfl (.ui rfl rfl rfl (.m rfl (.dec (t := 14) rfl (fun h4_14 => ?_) (fun h4_14 => ?_))))
 ·refine .kDT (t := 13) rfl h4_14 (.gk (.gk (.gk (.gk (.gk (.gk (.gk (.u (.pickT rfl rfl) (.an rfl (.condT rfl (.sr (.st rfl rfl rfl sz_60 ?_))))))))))))
  refine .nil (.ptCast (b := be) (l' := [vint 32]) (by repeat' constructor) rfl (.then_n (.ret (.blk_r (.then_r (.doneD Tryz.func113 rfl rfl (doubts_spec x d (.slice arr ω.recs.length crr) ω.synced (.slice abb (laidZ ω.recs).length cbb) ω.area ω.count ω.a ω.b ω.doubt be 32) (by repeat' constructor) ?_))))))
  rintro u L' ⟨rfl, rfl⟩
  have e : cutZ δ ω n = (δ, ω, 32) := by unfold cutZ; rw [if_neg hdb, if_pos (by first | exact .inl h4_14 | exact .inr h11)]
  rw [e, if_neg (show ¬ (32 : Int) = 2 by decide)]
  refine .wlFold (x := x) (d := d) (ω := ω) (by repeat' constructor) rfl rfl rfl rfl rfl ?_
  exact .d1 rfl (.cell rfl ag_60 (by repeat' constructor) rfl) ⟨rfl, rfl⟩
 refine .kDF (t := 13) rfl h4_14 (.grun (t := 14) rfl rfl rfl (.m rfl (.grun (t := 14) rfl rfl rfl (.m rfl (.grun (t := 14) rfl rfl rfl (.u (.nilp rfl) (.grun (t := 14) rfl rfl rfl (.u (.fieldAddr rfl fo_161_1) (.grun (t := 14) rfl rfl rfl (.u (.ld rfl ag_39) (.grun (t := 14) rfl rfl rfl (.q (.slen rfl Tryz.underlying39 rfl) rfl (.grun (t := 14) rfl rfl rfl (.ui rfl rfl rfl (.u (.pickF rfl rfl) (.an rfl (.condD rfl (fun h11 => ?_) (fun h11 => ?_))))))))))))))))))
 ·refine .sr (.st rfl rfl rfl sz_60 ?_)
  refine .nil (.ptCast (b := be) (l' := [vint 32]) (by repeat' constructor) rfl (.then_n (.ret (.blk_r (.then_r (.doneD Tryz.func113 rfl rfl (doubts_spec x d (.slice arr ω.recs.length crr) ω.synced (.slice abb (laidZ ω.recs).length cbb) ω.area ω.count ω.a ω.b ω.doubt be 32) (by repeat' constructor) ?_))))))
  rintro u L' ⟨rfl, rfl⟩
  have e : cutZ δ ω n = (δ, ω, 32) := by unfold cutZ; rw [if_neg hdb, if_pos (by first | exact .inl h4_14 | exact .inr h11)]
  rw [e, if_neg (show ¬ (32 : Int) = 2 by decide)]
  refine .wlFold (x := x) (d := d) (ω := ω) (by repeat' constructor) rfl rfl rfl rfl rfl ?_
  exact .d1 rfl (.cell rfl ag_60 (by repeat' constructor) rfl) ⟨rfl, rfl⟩
 refine .seq ?_
 have hin : ¬ (n < 0 ∨ n > ω.recs.length) := by rintro (h | h) <;> omega
 have htl := laidZ_take_len ω.recs n.toNat
 have hkl : (ω.recs.take n.toNat).length = n.toNat := by rw [List.length_take]; omega
 refine .region (.m rfl (.nf rfl fo_161_5 (.u (.ld rfl ag_3) (.ui rfl rfl rfl (.an rfl (.condD rfl (fun h23 => ?_) (fun h23 => ?_)))))))
 ·refine .sr (.st rfl rfl rfl sz_60 ?_)
  refine .nil (.ptCast (b := be) (l' := [vint 30]) (by repeat' constructor) rfl (.then_n (.ret (.blk_r (.then_r (.doneD Tryz.func113 rfl rfl (doubts_spec x d (.slice arr ω.recs.length crr) ω.synced (.slice abb (laidZ ω.recs).length cbb) ω.area ω.count ω.a ω.b ω.doubt be 30) (by repeat' constructor) ?_))))))
  rintro u L' ⟨rfl, rfl⟩
  have e : cutZ δ ω n = (δ, ω, 30) := by unfold cutZ; rw [if_neg hdb, if_neg hin, if_pos h23]
  rw [e, if_neg (show ¬ (30 : Int) = 2 by decide)]
  refine .wlFold (x := x) (d := d) (ω := ω) (by repeat' constructor) rfl rfl rfl rfl rfl ?_
  exact .d1 rfl (.cell rfl ag_60 (by repeat' constructor) rfl) ⟨rfl, rfl⟩
 refine .skip (.blk_n (.then_n (.seq (.draw [17, 18, 19] [[0, 1, 2, 3, 4, 5, 6, 7, 8, 9, 10, 11, 12, 13, 14, 15, 16, 17], [18], [19]] mixed (by kernel_rfl) (.go [ptc x _ _] (by repeat' constructor) (.k rfl (.move rfl) (.k rfl (.move rfl) (.k rfl (.nilp rfl) (.k rfl (.fieldAddr rfl fo_161_4) (.k rfl (.ld rfl ag_3) (.k rfl (.move rfl) (.k rfl (.nilp rfl) (.k rfl (.fieldAddr rfl fo_161_1) (.k rfl (.ld rfl ag_39) (.k rfl (.move rfl) (.k rfl (.slTo (j := n) rfl el_39 rfl (by omega) hra) (.mv rfl rfl (.nf rfl rfl rfl fo_161_1 (.kv rfl (.ld rfl ag_39) (.mv rfl rfl (.kv rfl (.slTo (j := n) rfl el_39 rfl (by omega) hra) (.hh rfl (.c Tryz.func119 [_] (laid_spec (.slice arr n.toNat crr) (ω.recs.take n.toNat) (strR (.slice arr ω.recs.length crr) ω.recs) ?hr52 ?hl53)) ?_))))))))))))))))))))))
 case hr52 => exact rd_take (by omega) rfl
 case hl53 => omega
 rintro v L' ⟨⟨al, cl, rfl⟩, rfl⟩
 refine D.ph (.g0 (.hh rfl (.c Tryz.func120 [_, _, _, _] (seal_spec x d (.slice arr ω.recs.length crr) (.slice abb (laidZ ω.recs).length cbb) ω δ ω.area (.slice arr n.toNat crr) (.slice al (laidZ (ω.recs.take n.toNat)).length cl) (ω.recs.take n.toNat) (strR (.slice arr ω.recs.length crr) ω.recs) (bytR (.slice al (laidZ (ω.recs.take n.toNat)).length cl) (laidZ (ω.recs.take n.toNat))) hct (by omega) ?hl56 ?hp57 ?hq58)) ?_))
 case hl56 => omega
 case hp57 => exact rd_take (by omega) rfl
 case hq58 => exact fun h hp => slR_rd hp
 rintro v L' (⟨δ', hs, rfl, rfl⟩ | ⟨δ', hs, rfl, vr', vb', rfl⟩)
 ·refine D.ph (.g0 (.hh rfl (.store rfl rfl rfl sz_60 ?c61 (nfz0 _ _)) ?_))
  case c61 => first | decide | (simp; omega) | simp
  rintro v L' rfl
  refine D.ph (.fin (.ptCast (b := be) (l' := [vint 2]) (by repeat' constructor) rfl (.then_n (.ret (.doneD Tryz.func113 rfl rfl (doubts_spec x d (.slice arr ω.recs.length crr) ω.synced (.slice abb (laidZ ω.recs).length cbb) ω.area ω.count ω.a ω.b ω.doubt be 2) (by repeat' constructor) ?_)))))
  rintro u L' ⟨rfl, rfl⟩
  have e : cutZ δ ω n = (δ', { ω with doubt := true }, 2) := by unfold cutZ; rw [if_neg hdb, if_neg hin, if_neg h23, hs]; rfl
  rw [e, if_pos rfl]
  refine .wlFold (x := x) (d := d) (ω := { ω with doubt := true }) (by repeat' constructor) rfl rfl rfl rfl rfl ?_
  exact .d1 rfl (.cell rfl ag_60 (by repeat' constructor) rfl) ⟨rfl, rfl⟩
 refine D.ph (.g0 (.hh rfl (.store rfl rfl rfl sz_60 ?c65 (nfz0 _ _)) ?_))
 case c65 => first | decide | (simp; omega) | simp
 rintro v L' rfl
 refine D.ph (.fin (.ptCast (b := be) (l' := [vint 0]) (by repeat' constructor) rfl (.then_n (.ret (.doneD Tryz.func113 rfl rfl (doubts_spec x d vr' _ vb' _ _ _ _ _ be 0) (by repeat' constructor) ?_)))))
 rintro u L' ⟨rfl, rfl⟩
 have e : cutZ δ ω n = (δ', { ω with recs := ω.recs.take n.toNat, synced := (ω.recs.take n.toNat).length, count := ω.count + 1 }, 0) := by unfold cutZ; rw [if_neg hdb, if_neg hin, if_neg h23, hs]; rfl
 rw [e, if_neg (show ¬ (0 : Int) = 2 by decide)]
 refine .wlFold (x := x) (d := d) (ω := { ω with recs := ω.recs.take n.toNat, synced := (ω.recs.take n.toNat).length, count := ω.count + 1 }) (by repeat' constructor) rfl rfl rfl rfl rfl ?_
 exact .d1 rfl (.cell rfl ag_60 (by repeat' constructor) rfl) ⟨rfl, rfl⟩
theorem wmark_spec (x d : Nat) (ω : Wl) (δ : Dk) (a b : Int) (hI : WlI δ ω) : Fn Tryz.prog 72 #[vptr x, vint a, vint b] [wlR x d ω, dkR d δ] fun v L => v = vint (setmZ δ ω a b).2.2 ∧ L = [wlR x d (setmZ δ ω a b).2.1, dkR d (setmZ δ ω a b).1] := by
 refine Fn.introD (vs := [vptr x, vint a, vint b]) Tryz.func72 rfl rfl ?_
 intro F W
 refine .wlOpen (ω := ω) (by repeat' constructor) fun vr vb => (.slAny (v := vr) (by repeat' constructor) fun arr crr e _ => ?_)
 subst e
 refine .slAny (v := vb) (by repeat' constructor) fun abb cbb e _ => ?_
 subst e
 refine .slAddr (T := 9) (by repeat' constructor) fun hrc hra => ?_
 obtain ⟨hn, hA, har, hct, hsy, hfit⟩ := hI
 have hh := half_le hn
 have hll := laidZ_many ω.recs
 refine .sr (.oq (.alloc ze_60) ?_)
 rintro v L' ⟨be, rfl, rfl⟩
 refine .nil (.ptCast (b := be) (l' := [vint 0]) (by repeat' constructor) rfl (.then_n (.sm rfl (.defer (vs := [_, _]) rfl (.nt (.seq (.block (.sm rfl (.nf rfl fo_161_8 (.u (.ld rfl ag_4) (.an rfl (.condB rfl (fun h9 => ?_) (fun h9 => ?_)))))))))))))
 ·refine .sr (.st rfl rfl rfl sz_60 ?_)
  refine .nil (.ptCast (b := be) (l' := [vint 34]) (by repeat' constructor) rfl (.then_n (.ret (.blk_r (.then_r (.doneD Tryz.func113 rfl rfl (doubts_spec x d (.slice arr ω.recs.length crr) ω.synced (.slice abb (laidZ ω.recs).length cbb) ω.area ω.count ω.a ω.b ω.doubt be 34) (by repeat' constructor) ?_))))))
  rintro u L' ⟨rfl, rfl⟩
  have e : setmZ δ ω a b = (δ, ω, 34) := by unfold setmZ; rw [if_pos h9]
  rw [e, if_neg (show ¬ (34 : Int) = 2 by decide)]
  refine .wlFold (x := x) (d := d) (ω := ω) (by repeat' constructor) rfl rfl rfl rfl rfl ?_
  exact .d1 rfl (.cell rfl ag_60 (by repeat' constructor) rfl) ⟨rfl, rfl⟩
 have hdb : ¬ ω.doubt = true := by rw [h9]; decide
 refine .sm rfl (.ui rfl rfl rfl (.m rfl (.dec (t := 17) rfl (fun h4_17 => ?_) (fun h4_17 => ?_))))
 ·refine .kDT (t := 16) rfl h4_17 (.gk (.gk (.u (.pickT rfl rfl) (.an rfl (.condT rfl (.sr (.st rfl rfl rfl sz_60 ?_)))))))
  refine .nil (.ptCast (b := be) (l' := [vint 1]) (by repeat' constructor) rfl (.then_n (.ret (.blk_r (.then_r (.doneD Tryz.func113 rfl rfl (doubts_spec x d (.slice arr ω.recs.length crr) ω.synced (.slice abb (laidZ ω.recs).length cbb) ω.area ω.count ω.a ω.b ω.doubt be 1) (by repeat' constructor) ?_))))))
  rintro u L' ⟨rfl, rfl⟩
  have e : setmZ δ ω a b = (δ, ω, 1) := by unfold setmZ; rw [if_neg hdb, if_pos (by first | exact .inl h4_17 | exact .inr h14)]
  rw [e, if_neg (show ¬ (1 : Int) = 2 by decide)]
  refine .wlFold (x := x) (d := d) (ω := ω) (by repeat' constructor) rfl rfl rfl rfl rfl ?_
  exact .d1 rfl (.cell rfl ag_60 (by repeat' constructor) rfl) ⟨rfl, rfl⟩
 refine .kDF (t := 16) rfl h4_17 (.grun (t := 17) rfl rfl rfl (.m rfl (.grun (t := 17) rfl rfl rfl (.ui rfl rfl rfl (.u (.pickF rfl rfl) (.an rfl (.condD rfl (fun h14 => ?_) (fun h14 => ?_))))))))
 ·refine .sr (.st rfl rfl rfl sz_60 ?_)
  refine .nil (.ptCast (b := be) (l' := [vint 1]) (by repeat' constructor) rfl (.then_n (.ret (.blk_r (.then_r (.doneD Tryz.func113 rfl rfl (doubts_spec x d (.slice arr ω.recs.length crr) ω.synced (.slice abb (laidZ ω.recs).length cbb) ω.area ω.count ω.a ω.b ω.doubt be 1) (by repeat' constructor) ?_))))))
  rintro u L' ⟨rfl, rfl⟩
  have e : setmZ δ ω a b = (δ, ω, 1) := by unfold setmZ; rw [if_neg hdb, if_pos (by first | exact .inl h4_17 | exact .inr h14)]
  rw [e, if_neg (show ¬ (1 : Int) = 2 by decide)]
  refine .wlFold (x := x) (d := d) (ω := ω) (by repeat' constructor) rfl rfl rfl rfl rfl ?_
  exact .d1 rfl (.cell rfl ag_60 (by repeat' constructor) rfl) ⟨rfl, rfl⟩
 refine .seq ?_
 have hin : ¬ (a < 0 ∨ b < 0) := by rintro (h | h) <;> omega
 have htl := laidZ_take_len ω.recs ω.synced.toNat
 have hkl : (ω.recs.take ω.synced.toNat).length = ω.synced.toNat := by rw [List.length_take]; omega
 refine .region (.m rfl (.nf rfl fo_161_5 (.u (.ld rfl ag_3) (.ui rfl rfl rfl (.an rfl (.condD rfl (fun h21 => ?_) (fun h21 => ?_)))))))
 ·refine .sr (.st rfl rfl rfl sz_60 ?_)
  refine .nil (.ptCast (b := be) (l' := [vint 30]) (by repeat' constructor) rfl (.then_n (.ret (.blk_r (.then_r (.doneD Tryz.func113 rfl rfl (doubts_spec x d (.slice arr ω.recs.length crr) ω.synced (.slice abb (laidZ ω.recs).length cbb) ω.area ω.count ω.a ω.b ω.doubt be 30) (by repeat' constructor) ?_))))))
  rintro u L' ⟨rfl, rfl⟩
  have e : setmZ δ ω a b = (δ, ω, 30) := by unfold setmZ; rw [if_neg hdb, if_neg hin, if_pos h21]
  rw [e, if_neg (show ¬ (30 : Int) = 2 by decide)]
  refine .wlFold (x := x) (d := d) (ω := ω) (by repeat' constructor) rfl rfl rfl rfl rfl ?_
  exact .d1 rfl (.cell rfl ag_60 (by repeat' constructor) rfl) ⟨rfl, rfl⟩
 refine .skip (.blk_n (.then_n (.seq (.seq (.draw [14, 23] [[0, 1, 2, 3, 4, 5, 6, 7, 8, 9, 10, 11, 12, 13, 16, 17, 18, 19, 20, 21, 14, 15, 22], [23], [24]] mixed (by kernel_rfl) (.go [ptc x _ _] (by repeat' constructor) (.k rfl (.move rfl) (.k rfl (.move rfl) (.k rfl (.nilp rfl) (.k rfl (.fieldAddr rfl fo_161_4) (.k rfl (.ld rfl ag_3) (.mv rfl rfl (.nf rfl rfl rfl fo_161_1 (.kv rfl (.ld rfl ag_39) (.mv rfl rfl (.nf rfl rfl rfl fo_161_2 (.kv rfl (.ld rfl ag_3) (.kv rfl (.slTo (j := ω.synced) rfl el_39 rfl (by omega) hra) (.k rfl (.move rfl) (.k rfl (.nilp rfl) (.k rfl (.fieldAddr rfl fo_161_2) (.k rfl (.ld rfl ag_3) (.k rfl (.move rfl) (.k rfl (.move rfl) (.hh rfl (.c Tryz.func119 [_] (laid_spec (.slice arr ω.synced.toNat crr) (ω.recs.take ω.synced.toNat) (strR (.slice arr ω.recs.length crr) ω.recs) ?hr50 ?hl51)) ?_)))))))))))))))))))))))))
 case hr50 => exact rd_take (by omega) rfl
 case hl51 => omega
 rintro v L' ⟨⟨al, cl, rfl⟩, rfl⟩
 refine D.kv rfl (.slen rfl Tryz.underlying159 rfl) (.kv rfl (.to (v' := .agg (mkC ⟨0, ω.area, (laidZ (ω.recs.take ω.synced.toNat)).length, ω.synced, a, b⟩).toArray) (.build (us := [(1, _), (2, _), (3, _), (4, _), (5, _)]) fl_171 ze_171 rfl rfl (by simp [isCell])) rfl) (.ph (.g0 (.hh rfl (.c Tryz.func118 [_, _] (next_spec x d (.slice arr ω.recs.length crr) ω.synced (.slice abb (laidZ ω.recs).length cbb) ω.area ω.count ω.a ω.b ω.doubt ⟨0, ω.area, (laidZ (ω.recs.take ω.synced.toNat)).length, ω.synced, a, b⟩ δ hct (by omega))) ?_))))
 rintro v L' ⟨rfl, rfl⟩; rw [show (⟨ω.count + 1, ω.area, ((laidZ (ω.recs.take ω.synced.toNat)).length : Int), ω.synced, a, b⟩ : Mk) = (ω.mark ω.area (ω.recs.take ω.synced.toNat) a b) from by unfold Wl.mark; congr 1; omega]
 refine D.ph (.g0 (.kv rfl (.assign rfl) (.pf (.sm rfl (.ui rfl rfl rfl (.nt (.condN rfl (fun h52 => ?_) (fun h52 => ?_))))))))
 ·refine .sm rfl (.st rfl rfl rfl sz_60 ?_)
  refine .nil (.ptCast (b := be) (l' := [vint (nextZ δ (ω.mark ω.area (ω.recs.take ω.synced.toNat) a b)).2]) (by repeat' constructor) rfl (.then_n (.rt (.doneD Tryz.func113 rfl rfl (doubts_spec x d (.slice arr ω.recs.length crr) ω.synced (.slice abb (laidZ ω.recs).length cbb) ω.area (if (nextZ δ (ω.mark ω.area (ω.recs.take ω.synced.toNat) a b)).2 = 0 then ω.count + 1 else ω.count) ω.a ω.b ω.doubt be (nextZ δ (ω.mark ω.area (ω.recs.take ω.synced.toNat) a b)).2) (by repeat' constructor) ?_))))
  rintro u L' ⟨rfl, rfl⟩
  have h2 : (nextZ δ (ω.mark ω.area (ω.recs.take ω.synced.toNat) a b)).2 = 2 := by rcases (nextZ_keeps δ (ω.mark ω.area (ω.recs.take ω.synced.toNat) a b)).2.2 with h | h; exact absurd h (by simpa using h52); exact h
  have e : setmZ δ ω a b = ((nextZ δ (ω.mark ω.area (ω.recs.take ω.synced.toNat) a b)).1, { ω with doubt := true }, 2) := by unfold setmZ; rw [if_neg hdb, if_neg hin, if_neg h21, if_pos (by simpa using h52), h2]; rfl
  rw [e, h2, if_pos rfl, if_neg (show ¬ (2 : Int) = 0 by decide)]
  refine .wlFold (x := x) (d := d) (ω := { ω with doubt := true }) (by repeat' constructor) rfl rfl rfl rfl rfl ?_
  exact .d1 rfl (.cell rfl ag_60 (by repeat' constructor) rfl) ⟨rfl, rfl⟩
 refine .sk (.sm rfl (.m rfl (.m rfl (.m rfl (.nf rfl fo_161_6 (.st rfl rfl rfl sz_3 ?_))))))
 refine .nf rfl fo_161_7 (.st rfl rfl rfl sz_3 ?_)
 refine .nt (.sr (.st rfl rfl rfl sz_60 ?_))
 refine .nil (.ptCast (b := be) (l' := [vint 0]) (by repeat' constructor) rfl (.then_n (.ret (.doneD Tryz.func113 rfl rfl (doubts_spec x d (.slice arr ω.recs.length crr) ω.synced (.slice abb (laidZ ω.recs).length cbb) ω.area (if (nextZ δ (ω.mark ω.area (ω.recs.take ω.synced.toNat) a b)).2 = 0 then ω.count + 1 else ω.count) a b ω.doubt be 0) (by repeat' constructor) ?_))))
 rintro u L' ⟨rfl, rfl⟩
 have h0 : (nextZ δ (ω.mark ω.area (ω.recs.take ω.synced.toNat) a b)).2 = 0 := by simpa using h52
 have e : setmZ δ ω a b = ((nextZ δ (ω.mark ω.area (ω.recs.take ω.synced.toNat) a b)).1, { ω with a := a, b := b, count := ω.count + 1 }, 0) := by unfold setmZ; rw [if_neg hdb, if_neg hin, if_neg h21, if_neg (by rw [h0]; simp)]
 rw [e, h0, if_pos rfl, if_neg (show ¬ (0 : Int) = 2 by decide)]
 refine .wlFold (x := x) (d := d) (ω := { ω with a := a, b := b, count := ω.count + 1 }) (by repeat' constructor) rfl rfl rfl rfl rfl ?_
 exact .d1 rfl (.cell rfl ag_60 (by repeat' constructor) rfl) ⟨rfl, rfl⟩
theorem wappend_spec (x d : Nat) (ω : Wl) (δ : Dk) (s : Bs) (hI : WlI δ ω) (hsl : s.length ≤ 2147483648) : Fn Tryz.prog 70 #[vptr x, vstr s] [wlR x d ω, dkR d δ] fun v L => v = vint (appendZ δ ω s).2.2 ∧ L = [wlR x d (appendZ δ ω s).2.1, dkR d (appendZ δ ω s).1] := by
 refine Fn.introD (vs := [vptr x, vstr s]) Tryz.func70 rfl rfl ?_
 intro F W
 refine .wlOpen (ω := ω) (by repeat' constructor) fun vr vb => (.slAny (v := vr) (by repeat' constructor) fun arr crr e _ => ?_)
 subst e
 refine .slAny (v := vb) (by repeat' constructor) fun abb cbb e _ => ?_
 subst e
 refine .slAddr (T := 9) (by repeat' constructor) fun hrc hra => ?_
 obtain ⟨hn, hA, har, hct, hsy, hfit⟩ := hI
 have hh := half_le hn
 have hll := laidZ_many ω.recs
 refine .sr (.oq (.alloc ze_60) ?_)
 rintro v L' ⟨be, rfl, rfl⟩
 refine .nil (.ptCast (b := be) (l' := [vint 0]) (by repeat' constructor) rfl (.then_n (.sm rfl (.defer (vs := [_, _]) rfl (.nt (.seq (.block (.sm rfl (.nf rfl fo_161_8 (.u (.ld rfl ag_4) (.an rfl (.condB rfl (fun h8 => ?_) (fun h8 => ?_)))))))))))))
 ·refine .sr (.st rfl rfl rfl sz_60 ?_)
  refine .nil (.ptCast (b := be) (l' := [vint 34]) (by repeat' constructor) rfl (.then_n (.ret (.blk_r (.then_r (.doneD Tryz.func113 rfl rfl (doubts_spec x d (.slice arr ω.recs.length crr) ω.synced (.slice abb (laidZ ω.recs).length cbb) ω.area ω.count ω.a ω.b ω.doubt be 34) (by repeat' constructor) ?_))))))
  rintro u L' ⟨rfl, rfl⟩
  have e : appendZ δ ω s = (δ, ω, 34) := by unfold appendZ; rw [if_pos h8]
  rw [e, if_neg (show ¬ (34 : Int) = 2 by decide)]
  refine .wlFold (x := x) (d := d) (ω := ω) (by repeat' constructor) rfl rfl rfl rfl rfl ?_
  exact .d1 rfl (.cell rfl ag_60 (by repeat' constructor) rfl) ⟨rfl, rfl⟩
 have hdb : ¬ ω.doubt = true := by rw [h8]; decide
 refine .sm rfl (.q (.strlen rfl Tryz.underlying9 rfl) rfl (.ui rfl rfl rfl (.an rfl (.condD rfl (fun h13 => ?_) (fun h13 => ?_)))))
 ·have hlong : s.length > 4000 := by omega
  refine .sr (.st rfl rfl rfl sz_60 ?_)
  refine .nil (.ptCast (b := be) (l' := [vint 33]) (by repeat' constructor) rfl (.then_n (.ret (.blk_r (.then_r (.doneD Tryz.func113 rfl rfl (doubts_spec x d (.slice arr ω.recs.length crr) ω.synced (.slice abb (laidZ ω.recs).length cbb) ω.area ω.count ω.a ω.b ω.doubt be 33) (by repeat' constructor) ?_))))))
  rintro u L' ⟨rfl, rfl⟩
  have e : appendZ δ ω s = (δ, ω, 33) := by unfold appendZ; rw [if_neg hdb, if_pos hlong]
  rw [e, if_neg (show ¬ (33 : Int) = 2 by decide)]
  refine .wlFold (x := x) (d := d) (ω := ω) (by repeat' constructor) rfl rfl rfl rfl rfl ?_
  exact .d1 rfl (.cell rfl ag_60 (by repeat' constructor) rfl) ⟨rfl, rfl⟩
 have hlong : ¬ s.length > 4000 := by omega
 refine .sm rfl (.m rfl (.nf rfl fo_161_3 (.u (.ld rfl ag_159) (.q (.slen rfl Tryz.underlying159 rfl) rfl (.m rfl (.q (.strlen rfl Tryz.underlying9 rfl) rfl (.q (.add rfl rfl (by omega)) rfl (.q (.add rfl rfl (by omega)) rfl (.cv Tryz.func114 [_, _] (fits_spec x d (.slice arr ω.recs.length crr) ω.synced (.slice abb (laidZ ω.recs).length cbb) ω.area ω.count ω.a ω.b ω.doubt δ ((laidZ ω.recs).length + s.length + 6) hn) ?_)))))))))
 refine .u (.not rfl) (.an rfl (.condN rfl (fun h17 => ?_) (fun h17 => ?_)))
 ·refine .sr (.st rfl rfl rfl sz_60 ?_)
  refine .nil (.ptCast (b := be) (l' := [vint 30]) (by repeat' constructor) rfl (.then_n (.ret (.blk_r (.then_r (.doneD Tryz.func113 rfl rfl (doubts_spec x d (.slice arr ω.recs.length crr) ω.synced (.slice abb (laidZ ω.recs).length cbb) ω.area ω.count ω.a ω.b ω.doubt be 30) (by repeat' constructor) ?_))))))
  rintro u L' ⟨rfl, rfl⟩
  have e : appendZ δ ω s = (δ, ω, 30) := by unfold appendZ; rw [if_neg hdb, if_neg hlong, if_pos h17]
  rw [e, if_neg (show ¬ (30 : Int) = 2 by decide)]
  refine .wlFold (x := x) (d := d) (ω := ω) (by repeat' constructor) rfl rfl rfl rfl rfl ?_
  exact .d1 rfl (.cell rfl ag_60 (by repeat' constructor) rfl) ⟨rfl, rfl⟩
 refine .skip (.blk_n (.then_n (.seq ?_)))
 have hrl := recZ_len s
 refine .region (.m rfl (.nf rfl fo_161_3 (.u (.ld rfl ag_159) (.oq (.call Tryz.func115 rfl rfl (vs := [_]) rfl (cloneB_spec (.slice abb (laidZ ω.recs).length cbb) (laidZ ω.recs).length (bysL (laidZ ω.recs)) (bytR (.slice abb (laidZ ω.recs).length cbb) (laidZ ω.recs)) (fun h hp => slR_rd hp) (bysL_cell _) (by omega))) ?_))))
 rintro v L' ⟨⟨ac, cc, rfl⟩, rfl⟩
 refine .m rfl (.oq (.c Tryz.func116 [_] (record_spec s (by omega))) ?_)
 rintro v L' ⟨⟨ar, cr, rfl⟩, rfl⟩
 refine .oq (.append (n := (laidZ ω.recs).length) (m := (recZ s).length) (ys := bysL (recZ s)) (p := bytR (.slice ar (recZ s).length cr) (recZ s)) rfl rfl rfl el_159 (.inl ⟨_, Tryz.underlying159⟩) ze_5 rfl rfl ?hc42 ?hr43 ?hb44 (by decide)) ?_
 case hc42 => exact bysL_cell _
 case hr43 => exact fun h hp => slR_rd hp
 case hb44 => omega
 rintro v L' ⟨⟨a8, c8, rfl⟩, rfl⟩; rw [show (laidZ ω.recs).length + (recZ s).length = (laidZ ω.recs ++ recZ s).length by rw [List.length_append], show bysL (laidZ ω.recs) ++ bysL (recZ s) = bysL (laidZ ω.recs ++ recZ s) from (bysL_append _ _).symm]
 refine .an rfl (.seq (.seq (.draw [11] [[0, 1, 2, 3, 4, 5, 6, 7, 8, 9, 10, 11], [12]] mixed (by kernel_rfl) (.g0 (.mv rfl rfl (.mv rfl rfl (.nf rfl rfl rfl fo_161_4 (.kv rfl (.ld rfl ag_3) (.mv rfl rfl (.mv rfl rfl (.nf rfl rfl rfl fo_161_3 (.kv rfl (.ld rfl ag_159) (.kv rfl (.slen rfl Tryz.underlying159 rfl) (.hh rfl (.c Tryz.func117 [_, _, _, _] (lay_spec4 x d (.slice arr ω.recs.length crr) ω.synced (.slice abb (laidZ ω.recs).length cbb) ω.area ω.count ω.a ω.b ω.doubt (.slice a8 (laidZ ω.recs ++ recZ s).length c8) δ ω.area (laidZ ω.recs ++ recZ s) (laidZ ω.recs).length (bytR (.slice a8 (laidZ ω.recs ++ recZ s).length c8) (laidZ ω.recs ++ recZ s)) hn har (by omega) (fun h hp => slR_rd hp) (by rw [List.length_append]; omega) (by rw [List.length_append]; omega))) ?_))))))))))))))
 rintro v L' ⟨rfl, rfl⟩
 refine D.ph (.g0 (.kv rfl (.assign rfl) (.pf (.sm rfl (.ui rfl rfl rfl (.nt (.condN rfl (fun h51 => ?_) (fun h51 => ?_))))))))
 ·refine .sm rfl (.st rfl rfl rfl sz_60 ?_)
  refine .nil (.ptCast (b := be) (l' := [vint (layZ δ ω.area (laidZ ω.recs ++ recZ s) (laidZ ω.recs).length).2]) (by repeat' constructor) rfl (.then_n (.rt (.doneD Tryz.func113 rfl rfl (doubts_spec x d (.slice arr ω.recs.length crr) ω.synced (.slice abb (laidZ ω.recs).length cbb) ω.area ω.count ω.a ω.b ω.doubt be (layZ δ ω.area (laidZ ω.recs ++ recZ s) (laidZ ω.recs).length).2) (by repeat' constructor) ?_))))
  rintro u L' ⟨rfl, rfl⟩
  have h2 : (layZ δ ω.area (laidZ ω.recs ++ recZ s) (laidZ ω.recs).length).2 = 2 := by rcases layZ_err δ ω.area (laidZ ω.recs ++ recZ s) (laidZ ω.recs).length with h | h; exact absurd h (by simpa using h51); exact h
  have e : appendZ δ ω s = ((layZ δ ω.area (laidZ ω.recs ++ recZ s) (laidZ ω.recs).length).1, { ω with doubt := true }, 2) := by unfold appendZ; rw [if_neg hdb, if_neg hlong, if_neg (fun h => h h17), if_pos (by simpa using h51), h2]; rfl
  rw [e, h2, if_pos rfl]
  refine .wlFold (x := x) (d := d) (ω := { ω with doubt := true }) (by repeat' constructor) rfl rfl rfl rfl rfl ?_
  exact .d1 rfl (.cell rfl ag_60 (by repeat' constructor) rfl) ⟨rfl, rfl⟩
 refine .sk (.sm rfl (.m rfl (.m rfl (.nf rfl fo_161_1 (.u (.ld rfl ag_39) (.m rfl (.oq (.buildSlice1 (vs := [_]) el_39 ze_9 rfl rfl rfl rfl rfl (by decide)) ?_)))))))
 rintro v L' ⟨b12_7, rfl, rfl⟩
 refine .oq (.append1 rfl rfl rfl el_39 ze_9 rfl rfl ?c72 ?c73 (Nat.le_refl _) ?c74 (by decide)) ?_
 case c72 => (first | (simp [isCell]; done) | (simp [isCell, setAll, Value.cells]; done))
 case c73 => rfl
 case c74 => omega
 rintro v L' ⟨⟨a12_8, c12_8, rfl⟩, rfl⟩
 refine .m rfl (.nf rfl fo_161_1 (.st rfl rfl rfl sz_39 ?_))
 refine .nf rfl fo_161_3 (.st rfl rfl rfl sz_159 ?_)
 refine .nt (.sr (.st rfl rfl rfl sz_60 ?_))
 refine .nil (.ptCast (b := be) (l' := [vint 0]) (by repeat' constructor) rfl (.then_n (.ret (.doneD Tryz.func113 rfl rfl (doubts_spec x d _ _ _ _ _ _ _ _ be 0) (by repeat' constructor) ?_))))
 rintro u L' ⟨rfl, rfl⟩
 have e : appendZ δ ω s = ((layZ δ ω.area (laidZ ω.recs ++ recZ s) (laidZ ω.recs).length).1, { ω with recs := ω.recs ++ [s] }, 0) := by unfold appendZ; rw [if_neg hdb, if_neg hlong, if_neg (fun h => h h17), if_neg (by simpa using h51)]
 rw [e, if_neg (show ¬ (0 : Int) = 2 by decide)]
 refine .wlFold (x := x) (d := d) (ω := { ω with recs := ω.recs ++ [s] }) (by repeat' constructor) rfl (by simp) (by simp [strs]) (by rw [laidZ_append]; simp [laidZ]) (by rw [laidZ_append]; simp [laidZ]) ?_
 exact .d1 rfl (.cell rfl ag_60 (by repeat' constructor) rfl) ⟨rfl, rfl⟩
/- not in this seat -/
/- not in this seat -/
/- not in this seat -/
def roomZ (δ : Dk) (ω : Wl) : Int := max (-1) (min 4000 (64 * halfZ δ - (laidZ ω.recs).length - 6))
theorem wroom_spec (x d : Nat) (ω : Wl) (δ : Dk) (hn : 2 ≤ δ.now.length ∧ δ.now.length ≤ 32768) (hfit : (laidZ ω.recs).length ≤ 4000000) : Fn Tryz.prog 68 #[vptr x] [wlR x d ω, dkR d δ] fun v L => v = vint (roomZ δ ω) ∧ L = [wlR x d ω, dkR d δ] := by
 refine Fn.intro Tryz.func68 rfl rfl fun F W => ?_
 refine .wlOpen (ω := ω) (by repeat' constructor) fun vr vb => (.slAny (v := vr) (by repeat' constructor) fun arr crr e _ => ?_)
 subst e
 refine .slAny (v := vb) (by repeat' constructor) fun abb cbb e _ => ?_
 subst e
 have hh := half_le hn
 refine .sr (.an rfl (.seq (.draw [] [[0, 1, 2, 3, 4, 5, 6, 7, 8, 9, 10, 11, 12, 13, 14, 15]] mixed (by kernel_rfl) (.go [ptc x _ _, dkR d δ] (by repeat' constructor) (.mv rfl rfl (.nf rfl rfl rfl fo_161_0 (.kv rfl (.ld rfl ag_24) (.m rfl (by kernel_rfl) (.c Tryz.func112 [_] (half_spec d δ hn)) (by repeat' constructor) ?_))))))))
 refine D.kv rfl (.mul rfl rfl (by omega)) (.mv rfl rfl (.nf rfl rfl rfl fo_161_3 (.kv rfl (.ld rfl ag_159) (.kv rfl (.slen rfl Tryz.underlying159 rfl) (.kv rfl (.sub rfl rfl (by omega)) (.kv rfl (.sub rfl rfl (by omega)) (.kv rfl (.min2 rfl rfl) (.kv rfl (.max2 rfl rfl) (.kv rfl (.assign rfl) (.pf (.ret (.wlFold (x := x) (d := d) (ω := ω) (by repeat' constructor) rfl rfl rfl rfl rfl ?_))))))))))))
 exact .vv
/- not in this seat -/
theorem long_spec (s : Bs) : Fn Tryz.prog 227 #[vstr s] [] fun v L => v = .bool (decide (s.length > 4000)) ∧ L = [] := by
 refine Fn.intro Tryz.func227 rfl rfl fun F W => ?_
 refine .sr (.an rfl (.sm rfl (.q (.strlen rfl Tryz.underlying9 rfl) rfl (.ui rfl rfl rfl (.an rfl (.ret ?_))))))
 exact .dn rfl rfl ⟨congrArg Value.bool (decide_eq_decide.2 (by omega)), rfl⟩
theorem indexLong_spec (v : Value) (l : List Bs) (p : HP) (hr : ∀ h : Hp, p h → rdS 1 h v l.length (strs l)) (hl : l.length ≤ 4294967296) : Fn Tryz.prog 240 #[v, .func (.func 227) #[] #[]] [p] fun u L => (∃ r : Int, u = vint r ∧ (decide (r ≥ 0) = l.any (fun s : Bs => decide (s.length > 4000)))) ∧ L = [p] := by
 refine Fn.intro Tryz.func240 rfl rfl fun F W => ?_
 refine .rdAny (p := p) hr (by repeat' constructor) fun aa ca e _ => ?_
 subst e
 refine .sr (.an rfl (.seq (.sm rfl (.q (.slen rfl Tryz.underlying39 rfl) rfl (.m rfl (.nt (.block (.loopK (ι := Nat) (fun q E => (8, vint q) :: E) (fun q => []) (fun q => q ≤ l.length ∧ ∀ j (hj : j < q) (hl : j < l.length), ¬ l[j].length > 4000) (fun q => l.length - q) (0) (ts := [0, 1, 7]) (.cons rfl (.cons rfl (.cons rfl (.nil)))) (⟨Nat.zero_le _, fun j hj => by omega⟩) ⟨rfl, rfl, rfl, rfl, trivial⟩ (by repeat' constructor) ?_))))))))
 rintro i ⟨hi, hb⟩
 refine .sr (.ui rfl rfl rfl (.nt (.seq (.condD rfl (fun h9 => ?_) (fun h9 => ?_)))))
 ·have hi2 : i < l.length := by omega
  refine .rdShape (p := p) hr (by repeat' constructor) (by omega) fun ba oa e => ?_
  subst e
  refine .sk (.seq (.block (.sm rfl (.an rfl (.sm rfl (.m rfl (.m rfl (.q (.indexAddr rfl rfl el_39 (by omega)) rfl (.q (.loadRd (sz := 1) (j := i) (p := p) (v := vstr l[i]) rfl ag_9 (by repeat' constructor) hr (by simp) (by simp [hi2])) rfl (.oq (.callV Tryz.func227 rfl rfl (us := []) (vs := [_]) (ws := []) rfl rfl (long_spec l[i])) ?_))))))))))
  rintro v L' ⟨rfl, rfl⟩
  refine .nt (.condD rfl (fun h16 => ?_) (fun h16 => ?_))
  ·refine .sm rfl (.an rfl (.ret (.blk_r (.then_r (.then_r (.blk_r (.then_r ?_)))))))
   exact .dn rfl rfl ⟨⟨_, rfl, by rw [decide_eq_true (by omega)]; exact (List.any_eq_true.2 ⟨l[i], List.getElem_mem hi2, decide_eq_true h16⟩).symm⟩, rfl⟩
  refine .skip (.blk_n (.then_n (.region (.q (.add rfl rfl (by omega)) rfl (.m rfl (.nt ?_))))))
  exact .rk (i + 1) (⟨by omega, fun j hj hl => by rcases Nat.lt_or_ge j i with h | h; exact hb j h hl; obtain rfl : j = i := (by omega); exact h16⟩) (by omega) ⟨rfl, rfl, rfl, rfl, trivial⟩
 refine .exit (.then_e (.then_e (.blk_e (.then_n (.sr (.an rfl (.ret ?_)))))))
 exact .dn rfl rfl ⟨⟨_, rfl, by rw [decide_eq_false (by decide)]; symm; rw [List.any_eq_false]; intro s hs; obtain ⟨j, hj, rfl⟩ := List.mem_iff_getElem.1 hs; simpa using hb j (by omega) hj⟩, rfl⟩
theorem containsLong_spec (v : Value) (l : List Bs) (p : HP) (hr : ∀ h : Hp, p h → rdS 1 h v l.length (strs l)) (hl : l.length ≤ 4294967296) : Fn Tryz.prog 226 #[v, .func (.func 227) #[] #[]] [p] fun u L => u = .bool (l.any (fun s : Bs => decide (s.length > 4000))) ∧ L = [p] := by
 refine Fn.intro Tryz.func226 rfl rfl fun F W => ?_
 refine .sr (.an rfl (.sm rfl (.m rfl (.oq (.c Tryz.func240 [_, _] (indexLong_spec v l p hr hl)) ?_))))
 rintro v' L' ⟨⟨r, rfl, hrl⟩, rfl⟩
 refine .ui rfl rfl rfl (.an rfl (.ret ?_))
 exact .dn rfl rfl ⟨congrArg Value.bool hrl, rfl⟩
theorem wrenew2_spec (x d : Nat) (ω : Wl) (δ : Dk) (va : Value) (l : List Bs) (p : HP) (hI : WlI δ ω) (hr : ∀ h : Hp, p h → rdS 1 h va l.length (strs l)) (hln : l.length ≤ 3000000) (hlb2 : (l.any fun s => decide (s.length > 4000)) = false → (laidZ l).length ≤ 3000000) : Fn Tryz.prog 203 #[vptr x, va] [wlR x d ω, dkR d δ, p] fun v L => v = vint (renewZ δ ω l).2.2 ∧ L = [wlR x d (renewZ δ ω l).2.1, dkR d (renewZ δ ω l).1, p] := by
 refine Fn.introD (vs := [vptr x, va]) Tryz.func203 rfl rfl ?_
 intro F W
 refine .wlOpen (ω := ω) (by repeat' constructor) fun vr vb => (.slAny (v := vr) (by repeat' constructor) fun arr crr e _ => ?_)
 subst e
 refine .slAny (v := vb) (by repeat' constructor) fun abb cbb e _ => ?_
 subst e
 refine .slAddr (T := 9) (by repeat' constructor) fun hrc hra => ?_
 obtain ⟨hn, hA, har, hct, hsy, hfit⟩ := hI
 have hh := half_le hn
 have hll := laidZ_many ω.recs
 have hlk := layF_keeps ((laidZ l).length + 1) δ (1 - ω.area) (laidZ l) (0 / 64)
 have hlm := laidZ_many l
 refine .rdAny (p := p) hr (by repeat' constructor) fun aq cq e _ => ?_
 subst e
 refine .sr (.oq (.alloc ze_60) ?_)
 rintro v L' ⟨be, rfl, rfl⟩
 refine .nil (.ptCast (b := be) (l' := [vint 0]) (by repeat' constructor) rfl (.then_n (.sm rfl (.defer (vs := [_, _]) rfl (.nt (.seq (.block (.sm rfl (.nf rfl fo_161_8 (.u (.ld rfl ag_4) (.an rfl (.condB rfl (fun h8 => ?_) (fun h8 => ?_)))))))))))))
 ·refine .sr (.st rfl rfl rfl sz_60 ?_)
  refine .nil (.ptCast (b := be) (l' := [vint 34]) (by repeat' constructor) rfl (.then_n (.ret (.blk_r (.then_r (.doneD Tryz.func113 rfl rfl (doubts_spec x d (.slice arr ω.recs.length crr) ω.synced (.slice abb (laidZ ω.recs).length cbb) ω.area ω.count ω.a ω.b ω.doubt be 34) (by repeat' constructor) ?_))))))
  rintro u L' ⟨rfl, rfl⟩
  have e : renewZ δ ω l = (δ, ω, 34) := by unfold renewZ; rw [if_pos h8]
  rw [e, if_neg (show ¬ (34 : Int) = 2 by decide)]
  refine .wlFold (x := x) (d := d) (ω := ω) (by repeat' constructor) rfl rfl rfl rfl rfl ?_
  exact .d1 rfl (.cell rfl ag_60 (by repeat' constructor) rfl) ⟨rfl, rfl⟩
 have hdb : ¬ ω.doubt = true := by rw [h8]; decide
 refine .sm rfl (.oq (.call Tryz.func226 rfl rfl (vs := [_, _]) rfl (containsLong_spec _ l p hr (by omega))) ?_)
 rintro v L' ⟨rfl, rfl⟩
 refine .an rfl (.condB rfl (fun h13 => ?_) (fun h13 => ?_))
 ·refine .sr (.st rfl rfl rfl sz_60 ?_)
  refine .nil (.ptCast (b := be) (l' := [vint 33]) (by repeat' constructor) rfl (.then_n (.ret (.blk_r (.then_r (.doneD Tryz.func113 rfl rfl (doubts_spec x d (.slice arr ω.recs.length crr) ω.synced (.slice abb (laidZ ω.recs).length cbb) ω.area ω.count ω.a ω.b ω.doubt be 33) (by repeat' constructor) ?_))))))
  rintro u L' ⟨rfl, rfl⟩
  have e : renewZ δ ω l = (δ, ω, 33) := by unfold renewZ; rw [if_neg hdb, if_pos h13]
  rw [e, if_neg (show ¬ (33 : Int) = 2 by decide)]
  refine .wlFold (x := x) (d := d) (ω := ω) (by repeat' constructor) rfl rfl rfl rfl rfl ?_
  exact .d1 rfl (.cell rfl ag_60 (by repeat' constructor) rfl) ⟨rfl, rfl⟩
 have hlb := hlb2 (by simpa using h13)
 have hlong : ¬ l.any (fun s : Bs => decide (s.length > 4000)) = true := by rw [h13]; decide
 refine .sm rfl (.m rfl (.q (.slen rfl Tryz.underlying39 rfl) rfl (.q (.mul rfl rfl (by omega)) rfl (.cv Tryz.func114 [_, _] (fits_spec x d (.slice arr ω.recs.length crr) ω.synced (.slice abb (laidZ ω.recs).length cbb) ω.area ω.count ω.a ω.b ω.doubt δ ((l.length : Int) * 6) hn) ?_))))
 refine .u (.not rfl) (.m rfl (.ndec (t := 23) rfl (fun h6_23 => ?_) (fun h6_23 => ?_)))
 ·refine .kNT (t := 22) rfl h6_23 (.gk (.gk (.gk (.gk (.gk (.u (.pickT rfl rfl) (.an rfl (.condT rfl (.sr (.st rfl rfl rfl sz_60 ?_))))))))))
  refine .nil (.ptCast (b := be) (l' := [vint 30]) (by repeat' constructor) rfl (.then_n (.ret (.blk_r (.then_r (.doneD Tryz.func113 rfl rfl (doubts_spec x d (.slice arr ω.recs.length crr) ω.synced (.slice abb (laidZ ω.recs).length cbb) ω.area ω.count ω.a ω.b ω.doubt be 30) (by repeat' constructor) ?_))))))
  rintro u L' ⟨rfl, rfl⟩
  have e : renewZ δ ω l = (δ, ω, 30) := by unfold renewZ; rw [if_neg hdb, if_neg hlong, if_pos (by first | exact .inl h6_23 | exact .inr h16)]
  rw [e, if_neg (show ¬ (30 : Int) = 2 by decide)]
  refine .wlFold (x := x) (d := d) (ω := ω) (by repeat' constructor) rfl rfl rfl rfl rfl ?_
  exact .d1 rfl (.cell rfl ag_60 (by repeat' constructor) rfl) ⟨rfl, rfl⟩
 refine .kNF (t := 22) rfl h6_23 (.grun (t := 23) rfl rfl rfl (.m rfl (.grun (t := 23) rfl rfl rfl (.u (.nilp rfl) (.grun (t := 23) rfl rfl rfl (.u (.fieldAddr rfl fo_161_5) (.grun (t := 23) rfl rfl rfl (.u (.ld rfl ag_3) (.grun (t := 23) rfl rfl rfl (.ui rfl rfl rfl (.u (.pickF rfl rfl) (.an rfl (.condD rfl (fun h16 => ?_) (fun h16 => ?_))))))))))))))
 ·refine .sr (.st rfl rfl rfl sz_60 ?_)
  refine .nil (.ptCast (b := be) (l' := [vint 30]) (by repeat' constructor) rfl (.then_n (.ret (.blk_r (.then_r (.doneD Tryz.func113 rfl rfl (doubts_spec x d (.slice arr ω.recs.length crr) ω.synced (.slice abb (laidZ ω.recs).length cbb) ω.area ω.count ω.a ω.b ω.doubt be 30) (by repeat' constructor) ?_))))))
  rintro u L' ⟨rfl, rfl⟩
  have e : renewZ δ ω l = (δ, ω, 30) := by unfold renewZ; rw [if_neg hdb, if_neg hlong, if_pos (by first | exact .inl h6_23 | exact .inr h16)]
  rw [e, if_neg (show ¬ (30 : Int) = 2 by decide)]
  refine .wlFold (x := x) (d := d) (ω := ω) (by repeat' constructor) rfl rfl rfl rfl rfl ?_
  exact .d1 rfl (.cell rfl ag_60 (by repeat' constructor) rfl) ⟨rfl, rfl⟩
 refine .skip (.blk_n (.then_n (.seq ?_)))
 have hfull : ¬ (¬ ((l.length : Int) * 6 ≤ 64 * halfZ δ) ∨ ω.count = 4294967295) := by rintro (h | h); exact h h6_23; exact h16 h
 refine .region (.m rfl (.oq (.call Tryz.func119 rfl rfl (vs := [_]) rfl (laid_spec _ l p hr (by omega))) ?_))
 rintro v L' ⟨⟨al, cl, rfl⟩, rfl⟩
 refine .an rfl (.seq (.sm rfl (.m rfl (.q (.slen rfl Tryz.underlying159 rfl) rfl (.cv Tryz.func114 [_, _] (fits_spec x d (.slice arr ω.recs.length crr) ω.synced (.slice abb (laidZ ω.recs).length cbb) ω.area ω.count ω.a ω.b ω.doubt δ (laidZ l).length hn) ?_)))))
 refine .u (.not rfl) (.nt (.condN rfl (fun h36 => ?_) (fun h36 => ?_)))
 ·refine .sr (.st rfl rfl rfl sz_60 ?_)
  refine .nil (.ptCast (b := be) (l' := [vint 30]) (by repeat' constructor) rfl (.then_n (.rt (.doneD Tryz.func113 rfl rfl (doubts_spec x d (.slice arr ω.recs.length crr) ω.synced (.slice abb (laidZ ω.recs).length cbb) ω.area ω.count ω.a ω.b ω.doubt be 30) (by repeat' constructor) ?_))))
  rintro u L' ⟨rfl, rfl⟩
  have e : renewZ δ ω l = (δ, ω, 30) := by unfold renewZ; rw [if_neg hdb, if_neg hlong, if_neg hfull, if_pos h36]
  rw [e, if_neg (show ¬ (30 : Int) = 2 by decide)]
  refine .wlFold (x := x) (d := d) (ω := ω) (by repeat' constructor) rfl rfl rfl rfl rfl ?_
  exact .d1 rfl (.cell rfl ag_60 (by repeat' constructor) rfl) ⟨rfl, rfl⟩
 refine .sk (.seq (.sm rfl (.m rfl (.nf rfl fo_161_4 (.u (.ld rfl ag_3) (.q (.sub rfl rfl (by omega)) rfl (.m rfl (.oq (.call Tryz.func117 rfl rfl (vs := [_, _, _, _]) rfl (lay_spec4 x d (.slice arr ω.recs.length crr) ω.synced (.slice abb (laidZ ω.recs).length cbb) ω.area ω.count ω.a ω.b ω.doubt (.slice al (laidZ l).length cl) δ (1 - ω.area) (laidZ l) 0 (bytR (.slice al (laidZ l).length cl) (laidZ l)) hn (by omega) (by omega) (fun h hp => slR_rd hp) (by omega) (Nat.zero_le _))) ?_))))))))
 rintro v L' ⟨rfl, rfl⟩
 refine .an rfl (.sm rfl (.ui rfl rfl rfl (.nt (.condN rfl (fun h46 => ?_) (fun h46 => ?_)))))
 ·refine .sm rfl (.st rfl rfl rfl sz_60 ?_)
  refine .nil (.ptCast (b := be) (l' := [vint (layZ δ (1 - ω.area) (laidZ l) 0).2]) (by repeat' constructor) rfl (.then_n (.rt (.doneD Tryz.func113 rfl rfl (doubts_spec x d (.slice arr ω.recs.length crr) ω.synced (.slice abb (laidZ ω.recs).length cbb) ω.area ω.count ω.a ω.b ω.doubt be (layZ δ (1 - ω.area) (laidZ l) 0).2) (by repeat' constructor) ?_))))
  rintro u L' ⟨rfl, rfl⟩
  have h2 : (layZ δ (1 - ω.area) (laidZ l) 0).2 = 2 := by rcases layZ_err δ (1 - ω.area) (laidZ l) 0 with h | h; exact absurd h (by simpa using h46); exact h
  have e : renewZ δ ω l = ((layZ δ (1 - ω.area) (laidZ l) 0).1, { ω with doubt := true }, 2) := by unfold renewZ; rw [if_neg hdb, if_neg hlong, if_neg hfull, if_neg (fun h => h h36), if_pos (by simpa using h46), h2]; rfl
  rw [e, h2, if_pos rfl]
  refine .wlFold (x := x) (d := d) (ω := { ω with doubt := true }) (by repeat' constructor) rfl rfl rfl rfl rfl ?_
  exact .d1 rfl (.cell rfl ag_60 (by repeat' constructor) rfl) ⟨rfl, rfl⟩
 refine .sk (.sm rfl (.m rfl (.nf rfl fo_161_4 (.u (.ld rfl ag_3) (.q (.sub rfl rfl (by omega)) rfl (.m rfl (.m rfl (.oq (.c Tryz.func120 [_, _, _, _] (seal_spec x d (.slice arr ω.recs.length crr) (.slice abb (laidZ ω.recs).length cbb) ω (layZ δ (1 - ω.area) (laidZ l) 0).1 (1 - ω.area) _ (.slice al (laidZ l).length cl) l p (bytR (.slice al (laidZ l).length cl) (laidZ l)) hct ?hA66 ?hl67 hr (fun h hp => slR_rd hp))) ?_))))))))
 case hA66 => have := hlk.2; unfold layZ; omega
 case hl67 => omega
 rintro v L' (⟨δ', hs, rfl, rfl⟩ | ⟨δ', hs, rfl, vr', vb', rfl⟩)
 ·refine .st rfl rfl rfl sz_60 ?_
  refine .nil (.ptCast (b := be) (l' := [vint 2]) (by repeat' constructor) rfl (.then_n (.ret (.doneD Tryz.func113 rfl rfl (doubts_spec x d (.slice arr ω.recs.length crr) ω.synced (.slice abb (laidZ ω.recs).length cbb) ω.area ω.count ω.a ω.b ω.doubt be 2) (by repeat' constructor) ?_))))
  rintro u L' ⟨rfl, rfl⟩
  have e : renewZ δ ω l = (δ', { ω with doubt := true }, 2) := by unfold renewZ; rw [if_neg hdb, if_neg hlong, if_neg hfull, if_neg (fun h => h h36), if_neg (by simpa using h46), hs]; rfl
  rw [e, if_pos rfl]
  refine .wlFold (x := x) (d := d) (ω := { ω with doubt := true }) (by repeat' constructor) rfl rfl rfl rfl rfl ?_
  exact .d1 rfl (.cell rfl ag_60 (by repeat' constructor) rfl) ⟨rfl, rfl⟩
 refine .st rfl rfl rfl sz_60 ?_
 refine .nil (.ptCast (b := be) (l' := [vint 0]) (by repeat' constructor) rfl (.then_n (.ret (.doneD Tryz.func113 rfl rfl (doubts_spec x d vr' _ vb' _ _ _ _ _ be 0) (by repeat' constructor) ?_))))
 rintro u L' ⟨rfl, rfl⟩
 have e : renewZ δ ω l = (δ', { ω with recs := l, synced := l.length, area := 1 - ω.area, count := ω.count + 1 }, 0) := by unfold renewZ; rw [if_neg hdb, if_neg hlong, if_neg hfull, if_neg (fun h => h h36), if_neg (by simpa using h46), hs]; rfl
 rw [e, if_neg (show ¬ (0 : Int) = 2 by decide)]
 refine .wlFold (x := x) (d := d) (ω := { ω with recs := l, synced := l.length, area := 1 - ω.area, count := ω.count + 1 }) (by repeat' constructor) rfl rfl rfl rfl rfl ?_
 exact .d1 rfl (.cell rfl ag_60 (by repeat' constructor) rfl) ⟨rfl, rfl⟩
def mark1 : Mk := ⟨1, 0, 0, 0, 0, 0⟩
def fmtZ (δ : Dk) : Nat → Dk × Int
 | 0 => (δ, 0)
 | 1 => δ.write 0 zs
 | 2 => (δ.write 0 zs).1.write 1 mark1.sec
 | _ => ((δ.write 0 zs).1.write 1 mark1.sec).1.sync
def newW : Wl := ⟨[], 0, 0, 1, 0, 0, false⟩
def formatZ (δ : Dk) : Dk × Option Wl := if (fmtZ δ 1).2 ≠ 0 then ((fmtZ δ 1).1, none) else if (fmtZ δ 2).2 ≠ 0 then ((fmtZ δ 2).1, none) else if (fmtZ δ 3).2 ≠ 0 then ((fmtZ δ 3).1, none) else ((fmtZ δ 3).1, some newW)
theorem fmt1_spec (b1 d : Nat) (δ : Dk) (hA : δ.acts < 4611686018427387904) : Fn Tryz.prog 131 #[vptr b1] [ptc b1 [vptr d] 24, dkR d δ] fun v L => v = vint (δ.write 0 zs).2 ∧ L = [ptc b1 [vptr d] 24, dkR d (δ.write 0 zs).1] := by
 refine Fn.intro Tryz.func131 rfl rfl fun F W => ?_
 refine .sr (.an rfl (.seq (.draw [1, 3] [[0, 1, 2], [3], [4]] mixed (by kernel_rfl) (.go [ptc b1 [vptr d] 24] (by repeat' constructor) (.k rfl (.ld rfl ag_24) (.hh rfl (.make rfl rfl el_159 ze_5 rfl ⟨by simp, by simp; rfl⟩ ?hc3) ?_))))))
 case hc3 => omega
 rintro v L' ⟨bz, rfl, rfl⟩; rw [show (64 : Int).toNat = 64 from rfl]
 refine D.kv rfl (.bytesPt (cs := zs) rfl Tryz.underlying159 Tryz.underlying5 Tryz.underlying9 (by repeat' constructor) rfl (by decide) (by decide)) (.ph (.g0 (.hh rfl (.c Tryz.func132 [_, _, _] (write_spec d δ 0 zs hA)) ?_)))
 rintro v L' ⟨rfl, rfl⟩
 refine D.ph (.g0 (.kv rfl (.assign rfl) (.pf (.ret ?_))))
 exact .vv
theorem fmt2_spec (b1 d : Nat) (δ : Dk) (hA : δ.acts < 4611686018427387904) : Fn Tryz.prog 133 #[vptr b1] [ptc b1 [vptr d] 24, dkR d δ] fun v L => v = vint (δ.write 1 mark1.sec).2 ∧ L = [ptc b1 [vptr d] 24, dkR d (δ.write 1 mark1.sec).1] := by
 refine Fn.intro Tryz.func133 rfl rfl fun F W => ?_
 refine .sr (.an rfl (.seq (.draw [3] [[0, 1, 2, 3], [4]] mixed (by kernel_rfl) (.go [ptc b1 [vptr d] 24] (by repeat' constructor) (.kv rfl (.ld rfl ag_24) (.kv rfl (.to (v' := .agg (mkC mark1).toArray) (.build (us := [(0, _)]) fl_171 ze_171 rfl rfl (by simp [isCell])) rfl) (.m rfl (by kernel_rfl) (.c Tryz.func134 [_] (sector_spec mark1)) (by repeat' constructor) ?_)))))))
 refine D.hh rfl (.c Tryz.func132 [_, _, _] (write_spec d δ 1 mark1.sec hA)) ?_
 rintro v L' ⟨rfl, rfl⟩
 refine D.ph (.g0 (.kv rfl (.assign rfl) (.pf (.ret ?_))))
 exact .vv
theorem fmtZ_keeps (δ : Dk) (i : Nat) : (fmtZ δ i).1.now.length = δ.now.length ∧ (fmtZ δ i).1.acts ≤ δ.acts + 3 := by
 have h1 := write_keeps δ 0 zs
 have h2 := write_keeps (δ.write 0 zs).1 1 mark1.sec
 have h3 := sync_keeps ((δ.write 0 zs).1.write 1 mark1.sec).1
 match i with
 | 0 => exact ⟨rfl, by show δ.acts ≤ _; omega⟩
 | 1 => exact ⟨h1.1, by show (δ.write 0 zs).1.acts ≤ _; omega⟩
 | 2 => exact ⟨by show ((δ.write 0 zs).1.write 1 mark1.sec).1.now.length = _; omega, by show ((δ.write 0 zs).1.write 1 mark1.sec).1.acts ≤ _; omega⟩
 | (n + 3) => exact ⟨by show (((δ.write 0 zs).1.write 1 mark1.sec).1.sync).1.now.length = _; rw [h3.1]; omega, by show (((δ.write 0 zs).1.write 1 mark1.sec).1.sync).1.acts ≤ _; omega⟩
theorem ze_76 : zeroOf Tryz.prog 76 = some .nilFunc := by kernel_rfl
theorem ag_76 : aggOf Tryz.prog 76 = some none := by kernel_rfl
theorem format_spec (d : Nat) (δ : Dk) (hA : δ.acts + 10 < 4611686018427387904) : Fn Tryz.prog 85 #[vptr d] [dkR d δ] fun v L => ((formatZ δ).2 = none ∧ v = .tuple #[.pointer none, vint 2] ∧ L = [dkR d (formatZ δ).1]) ∨
    ((formatZ δ).2 = some newW ∧ ∃ x, v = .tuple #[vptr x, vint 0] ∧ L = [dkR d (formatZ δ).1, wlR x d newW]) := by
 refine Fn.intro Tryz.func85 rfl rfl fun F W => ?_
 have hk := fmtZ_keeps δ
 refine .sr (.oq (.box rfl) ?_)
 rintro v L' ⟨b1, rfl, rfl⟩
 refine .a rfl (.a rfl (.nil (.ptCast (b := b1) (l' := [vptr d]) (by repeat' constructor) rfl (.then_n (.seq (.sr (.u (.ld rfl ag_24) (.q (.ptreq rfl rfl Tryz.underlying24) rfl (.nt (.condF rfl (.sk (.seq (.sr (.q (.func (us := []) (vs := [_]) rfl rfl) rfl (.q (.func (us := []) (vs := [_]) rfl rfl) rfl (.u (.ld rfl ag_24) (.q (.func (us := [_]) (vs := []) rfl rfl) rfl (.oq (.buildSlice1 (vs := [_, _, _]) el_179 ze_76 rfl rfl rfl rfl rfl (by decide)) ?_))))))))))))))))))
 rintro v L' ⟨b3_4, rfl, rfl⟩
 refine .q (.slen rfl Tryz.underlying179 rfl) rfl (.m rfl (.nt (.block (.loopK (ι := Nat) (fun q E => (14, vint q) :: E) (fun q => [dkR d (fmtZ δ q).1]) (fun q => q ≤ 3 ∧ ∀ j, j < q → (fmtZ δ (j + 1)).2 = 0) (fun q => 3 - q) (0) (ts := [1, 12, 13]) (.cons rfl (.cons rfl (.cons rfl (.nil)))) (⟨Nat.zero_le _, fun j hj => by omega⟩) ⟨rfl, rfl, rfl, rfl, trivial⟩ (by repeat' constructor) ?_))))
 rintro i ⟨hi, hb⟩
 refine .sr (.ui rfl rfl rfl (.nt (.seq (.condD rfl (fun h15 => ?_) (fun h15 => ?_)))))
 ·refine .sk (.seq (.block (.sr ?_)))
  rcases (show i = 0 ∨ i = 1 ∨ i = 2 by omega) with rfl | rfl | rfl
  ·refine .q (.indexAddr rfl rfl el_179 (by omega)) rfl (.u (.ld rfl ag_76) (.an rfl (.sm rfl (.oq (.callV Tryz.func131 rfl rfl (us := []) (vs := []) (ws := [_]) rfl rfl (fmt1_spec b1 d δ (by omega))) ?_))))
   rintro v L' ⟨rfl, rfl⟩
   refine .ui rfl rfl rfl (.nt (.condN rfl (fun h20 => ?_) (fun h20 => ?_)))
   ·refine .sr (.a rfl (.an rfl (.ret (.blk_r (.then_r (.then_r (.blk_r (.then_r ?_))))))))
    have hF : formatZ δ = ((fmtZ δ 1).1, none) := by unfold formatZ; rw [if_pos (show (fmtZ δ 1).2 ≠ 0 from h20)]
    exact .dn rfl rfl (.inl ⟨by rw [hF], rfl, by rw [hF]⟩)
   refine .skip (.blk_n (.then_n (.region (.q (.add rfl rfl (by omega)) rfl (.m rfl (.nt ?_))))))
   exact .rk (1) (⟨by omega, fun j hj => by rcases Nat.lt_or_ge j 0 with h | h; exact hb j h; obtain rfl : j = 0 := (by omega); exact h20⟩) (by omega) ⟨rfl, rfl, rfl, rfl, trivial⟩
  ·refine .q (.indexAddr rfl rfl el_179 (by omega)) rfl (.u (.ld rfl ag_76) (.an rfl (.sm rfl (.oq (.callV Tryz.func133 rfl rfl (us := []) (vs := []) (ws := [_]) rfl rfl (fmt2_spec b1 d (fmtZ δ 1).1 (by have := (fmtZ_keeps δ 1).2; omega))) ?_))))
   rintro v L' ⟨rfl, rfl⟩
   refine .ui rfl rfl rfl (.nt (.condN rfl (fun h20 => ?_) (fun h20 => ?_)))
   ·refine .sr (.a rfl (.an rfl (.ret (.blk_r (.then_r (.then_r (.blk_r (.then_r ?_))))))))
    have hF : formatZ δ = ((fmtZ δ 2).1, none) := by unfold formatZ; rw [if_neg (by rw [hb 0 (by omega)]; decide), if_pos (show (fmtZ δ 2).2 ≠ 0 from h20)]
    exact .dn rfl rfl (.inl ⟨by rw [hF], rfl, by rw [hF]⟩)
   refine .skip (.blk_n (.then_n (.region (.q (.add rfl rfl (by omega)) rfl (.m rfl (.nt ?_))))))
   exact .rk (2) (⟨by omega, fun j hj => by rcases Nat.lt_or_ge j 1 with h | h; exact hb j h; obtain rfl : j = 1 := (by omega); exact h20⟩) (by omega) ⟨rfl, rfl, rfl, rfl, trivial⟩
  refine .q (.indexAddr rfl rfl el_179 (by omega)) rfl (.u (.ld rfl ag_76) (.an rfl (.sm rfl (.oq (.callV Tryz.func135 rfl rfl (us := [_]) (vs := []) (ws := []) rfl rfl (sync_spec d (fmtZ δ 2).1 ?hA34)) ?_))))
  case hA34 => have := (fmtZ_keeps δ 2).2; omega
  rintro v L' ⟨rfl, rfl⟩
  refine .ui rfl rfl rfl (.nt (.condN rfl (fun h20 => ?_) (fun h20 => ?_)))
  ·refine .sr (.a rfl (.an rfl (.ret (.blk_r (.then_r (.then_r (.blk_r (.then_r ?_))))))))
   have hF : formatZ δ = ((fmtZ δ 3).1, none) := by unfold formatZ; rw [if_neg (by rw [hb 0 (by omega)]; decide), if_neg (by rw [hb 1 (by omega)]; decide), if_pos (show (fmtZ δ 3).2 ≠ 0 from h20)]
   exact .dn rfl rfl (.inl ⟨by rw [hF], rfl, by rw [hF]⟩)
  refine .skip (.blk_n (.then_n (.region (.q (.add rfl rfl (by omega)) rfl (.m rfl (.nt ?_))))))
  exact .rk (3) (⟨by omega, fun j hj => by rcases Nat.lt_or_ge j 2 with h | h; exact hb j h; obtain rfl : j = 2 := (by omega); exact h20⟩) (by omega) ⟨rfl, rfl, rfl, rfl, trivial⟩
 refine .exit (.then_e (.then_e (.blk_e (.then_n (.seq ?_)))))
 obtain rfl : i = 3 := by omega
 refine .add (slR_nil 9 1) (.add (slR_nil 5 1) (.region (.u (.ld rfl ag_24) (.q (.build (us := [(0, _), (5, _)]) fl_161 ze_161 rfl rfl (by simp [isCell])) rfl (.oq (.box rfl) ?_)))))
 rintro v L' ⟨x, rfl, rfl⟩
 refine .a rfl (.a rfl (.nil (.ptCast (b := x) (l' := [vptr d, .slice none 0 0, vint 0, .slice none 0 0, vint 0, vint 1, vint 0, vint 0, .bool false]) (by repeat' constructor) rfl (.then_n (.ret ?_)))))
 have hF : formatZ δ = ((fmtZ δ 3).1, some newW) := by unfold formatZ; rw [if_neg (by rw [hb 0 (by omega)]; decide), if_neg (by rw [hb 1 (by omega)]; decide), if_neg (by rw [hb 2 (by omega)]; decide)]
 refine .wlFold (x := x) (d := d) (ω := newW) (by repeat' constructor) rfl rfl rfl rfl rfl ?_
 exact .dn rfl rfl (.inr ⟨by rw [hF], x, rfl, by rw [hF]⟩)
structure Lg where
 acc : Int
 cur : Int
 base : Int
 snap : Bs
 ents : List Bs
 zxs : List Int
 doubt : Bool
def lg0 : Lg := ⟨0, 0, 0, [], [], [], false⟩
def lgR (g x : Nat) (Λ : Lg) : HP := fun h => ∃ y : (Option Addr × Nat) × (Option Addr × Nat), True ∧ sep [ptc g [vint Λ.acc, vint Λ.cur, vptr x, vint Λ.base, vstr Λ.snap, .slice y.1.1 Λ.ents.length y.1.2, .slice y.2.1 Λ.zxs.length y.2.2, .bool Λ.doubt] 53,
 strR (.slice y.1.1 Λ.ents.length y.1.2) Λ.ents, intR (.slice y.2.1 Λ.zxs.length y.2.2) Λ.zxs] h
section
variable {W : World} {n : Nat} {ds : List Deferred} {E : Env} {L R : List HP} {X : Act → World → Prop}
theorem G.lgOpen {g x : Nat} {Λ : Lg} (hL : Pick (lgR g x Λ) L R) (h : ∀ ea ec za zc, G W n ds E (ptc g [vint Λ.acc, vint Λ.cur, vptr x, vint Λ.base, vstr Λ.snap, .slice ea Λ.ents.length ec, .slice za Λ.zxs.length zc, .bool Λ.doubt] 53 :: strR (.slice ea Λ.ents.length ec) Λ.ents :: intR (.slice za Λ.zxs.length zc) Λ.zxs :: R) X) : G W n ds E L X :=
 G.focus hL (G.open (q := fun y : (Option Addr × Nat) × (Option Addr × Nat) => [ptc g [vint Λ.acc, vint Λ.cur, vptr x, vint Λ.base, vstr Λ.snap, .slice y.1.1 Λ.ents.length y.1.2, .slice y.2.1 Λ.zxs.length y.2.2, .bool Λ.doubt] 53, strR (.slice y.1.1 Λ.ents.length y.1.2) Λ.ents, intR (.slice y.2.1 Λ.zxs.length y.2.2) Λ.zxs]) (φ := fun _ => True) (fun _ hp => hp) fun y _ => h y.1.1 y.1.2 y.2.1 y.2.2)
theorem G.lgFold {g x : Nat} (Λ : Lg) {l es zs : List Value} {ea za : Option Addr} {ec zc m k : Nat} (hL : Picks [ptc g l 53, slR 9 1 (.slice ea m ec) m es, slR 3 1 (.slice za k zc) k zs] L R)
  (hl : l = [vint Λ.acc, vint Λ.cur, vptr x, vint Λ.base, vstr Λ.snap, .slice ea m ec, .slice za k zc, .bool Λ.doubt]) (hm : m = Λ.ents.length) (hk : k = Λ.zxs.length) (he : es = strs Λ.ents) (hz : zs = ints Λ.zxs) (h : G W n ds E (lgR g x Λ :: R) X) : G W n ds E L X := by
 subst hl; subst hm; subst hk; subst he; subst hz
 exact G.fold hL (fun _ hp => ⟨((ea, ec), (za, zc)), trivial, hp⟩) h
theorem G.lf {g x : Nat} (Λ : Lg) {l es zs : List Value} {ea za : Option Addr} {ec zc m k : Nat} (h : G W n ds E (lgR g x Λ :: R) X) (hL : Picks [ptc g l 53, slR 9 1 (.slice ea m ec) m es, slR 3 1 (.slice za k zc) k zs] L R := by repeat' constructor) (hl : l = [vint Λ.acc, vint Λ.cur, vptr x, vint Λ.base, vstr Λ.snap, .slice ea m ec, .slice za k zc, .bool Λ.doubt] := by exact rfl) (hm : m = Λ.ents.length := by first | rfl | simp [Lg.keep]) (hk : k = Λ.zxs.length := by first | rfl | simp [Lg.keep]) (he : es = strs Λ.ents := by first | rfl | simp [Lg.keep]) (hz : zs = ints Λ.zxs := by first | rfl | simp [Lg.keep]) : G W n ds E L X := G.lgFold Λ hL hl hm hk he hz h
end
def lastZ (Λ : Lg) : Int := Λ.zxs.getLast?.getD Λ.base
def Lg.met (Λ : Lg) (e : Int) : Lg := if e = 2 then ⟨Λ.acc, Λ.cur, Λ.base, Λ.snap, Λ.ents, Λ.zxs, true⟩ else Λ
def metE (e : Int) : Int := if e = 30 ∨ e = 33 then 83 else e
def Lg.keep (Λ : Lg) (s : Bs) (z : Int) : Lg := ⟨Λ.acc, Λ.cur, Λ.base, Λ.snap, Λ.ents ++ [s], Λ.zxs ++ [z], Λ.doubt⟩
def chunkF : Nat → Bs → List Bs
 | 0, _ => []
 | f + 1, s => if s = [] then [] else s.take 4000 :: chunkF f (s.drop 4000)
def chunkL (s : Bs) : List Bs := chunkF s.length s
def headB (base : Int) (n : Nat) : Bs := numB base ++ cntB n
def headL (base : Int) (snap : Bs) : List Bs := headB base snap.length :: chunkL snap
theorem chunkF_more : ∀ (f g : Nat) (s : Bs), s.length ≤ f → s.length ≤ g → chunkF f s = chunkF g s
 | 0, 0, _, _, _ => rfl
 | 0, g + 1, s, h, _ => by
  have : s = [] := List.eq_nil_of_length_eq_zero (by omega)
  subst this; rfl
 | f + 1, 0, s, _, h => by
  have : s = [] := List.eq_nil_of_length_eq_zero (by omega)
  subst this; rfl
 | f + 1, g + 1, s, hf, hg => by
  unfold chunkF
  split
  ·rfl
  ·rename_i h
   have : 0 < s.length := List.length_pos_iff.2 h
   rw [chunkF_more f g (s.drop 4000) (by rw [List.length_drop]; omega) (by rw [List.length_drop]; omega)]
theorem chunk_cons {s : Bs} (h : s ≠ []) : chunkL s = s.take 4000 :: chunkL (s.drop 4000) := by
 have hl : 0 < s.length := List.length_pos_iff.2 h
 unfold chunkL
 rw [chunkF_more s.length (s.length - 1 + 1) s (by omega) (by omega)]
 show (if s = [] then [] else s.take 4000 :: chunkF (s.length - 1) (s.drop 4000)) = _
 rw [if_neg h, chunkF_more (s.length - 1) (s.drop 4000).length (s.drop 4000) (by rw [List.length_drop]; omega) (Nat.le_refl _)]
theorem chunk_nil' : chunkL [] = [] := rfl
def slen : Value → Nat
 | .slice _ n _ => n
 | _ => 0
def noSubs (e : En) : Bool := e.subs.all fun y => decide (slen y.subsV = 0)
def fitsE (e : En) : Bool := noSubs e && (getZ (enB e)).isSome
structure Ld where
 δ : Dk
 ω : Wl
 Λ : Lg
def metL (Λ : Lg) (r : Dk × Wl × Int) : Ld × Int := (⟨r.1, r.2.1, Λ.met r.2.2⟩, metE r.2.2)
def lgAppend (s : Ld) (e : En) : Ld × Int :=
 if s.Λ.doubt = true then (s, 2) else if fitsE e = false then (s, 1) else if e.zx ≤ lastZ s.Λ then (s, 81) else if s.Λ.ents.length = 200 ∨ ((enB e).length : Int) > roomZ s.δ s.ω then (s, 83)
 else if (metL s.Λ (appendZ s.δ s.ω (enB e))).2 = 0 then (⟨(appendZ s.δ s.ω (enB e)).1, (appendZ s.δ s.ω (enB e)).2.1, (metL s.Λ (appendZ s.δ s.ω (enB e))).1.Λ.keep (enB e) e.zx⟩, 0) else metL s.Λ (appendZ s.δ s.ω (enB e))
def lgSync (s : Ld) : Ld × Int := if s.Λ.doubt = true then (s, 2) else metL s.Λ (syncZ s.δ s.ω)
def Lg.setAcc (Λ : Lg) (n : Int) : Lg := ⟨n, Λ.cur, Λ.base, Λ.snap, Λ.ents, Λ.zxs, Λ.doubt⟩
def Lg.setCur (Λ : Lg) (n : Int) : Lg := ⟨Λ.acc, n, Λ.base, Λ.snap, Λ.ents, Λ.zxs, Λ.doubt⟩
def lgAccept (s : Ld) (n : Int) : Ld × Int :=
 if s.Λ.doubt = true then (s, 2) else if n < s.Λ.acc ∨ n > 1073741824 then (s, 82) else if n = s.Λ.acc then (s, 0)
 else if (metL s.Λ (setmZ s.δ s.ω n s.Λ.cur)).2 = 0 then (⟨(setmZ s.δ s.ω n s.Λ.cur).1, (setmZ s.δ s.ω n s.Λ.cur).2.1, (metL s.Λ (setmZ s.δ s.ω n s.Λ.cur)).1.Λ.setAcc n⟩, 0) else metL s.Λ (setmZ s.δ s.ω n s.Λ.cur)
def lgAdopt2 (s : Ld) (n : Int) : Ld × Int :=
 if (metL s.Λ (setmZ s.δ s.ω s.Λ.acc n)).2 = 0 then (⟨(setmZ s.δ s.ω s.Λ.acc n).1, (setmZ s.δ s.ω s.Λ.acc n).2.1, (metL s.Λ (setmZ s.δ s.ω s.Λ.acc n)).1.Λ.setCur n⟩, 0) else metL s.Λ (setmZ s.δ s.ω s.Λ.acc n)
def lgAdopt (s : Ld) (n : Int) : Ld × Int :=
 if s.Λ.doubt = true then (s, 2) else if n < s.Λ.cur ∨ n > s.Λ.acc then (s, 82) else if (lgSync s).2 ≠ 0 then lgSync s else lgAdopt2 (lgSync s).1 n
def markStep (out : List Int) (z : Int) : List Int :=
 if z = 0 then out else if out ≠ [] ∧ (out.getLastD 0) / 4294967296 = z / 4294967296 then out.dropLast ++ [z] else out ++ [z]
def marksZ (Λ : Lg) : List Int := (Λ.base :: Λ.zxs).foldl markStep []
structure LgI (Λ : Lg) : Prop where
 ents : Λ.ents.length ≤ 200
 same : Λ.zxs.length = Λ.ents.length
 each : ∀ s ∈ Λ.ents, s.length ≤ 1073741824
 base : I64 Λ.base
 zxs : ∀ z ∈ Λ.zxs, I64 z
theorem take_min (t : Bs) (k : Nat) : t.take (min k t.length) = t.take k := by
 rcases Nat.le_total k t.length with h | h
 ·rw [Nat.min_eq_left h]
 ·rw [Nat.min_eq_right h, List.take_of_length_le (Nat.le_refl _), List.take_of_length_le h]
theorem drop_min (t : Bs) (k : Nat) : t.drop (min k t.length) = t.drop k := by
 rcases Nat.le_total k t.length with h | h
 ·rw [Nat.min_eq_left h]
 ·rw [Nat.min_eq_right h, List.drop_eq_nil_of_le (Nat.le_refl _), List.drop_eq_nil_of_le h]
theorem OpSpec.shaped1 {P : Program} {E : Env} {o : Oper} {pre R : List HP} {e : TypeId} {sz k : Nat} {ys : List Value} (hk : 0 < k) (h : OpSpec P o E pre fun v L' => (∃ a c, v = .slice a k c) ∧ L' = slR e sz v k ys :: R) :
  OpSpec P o E pre fun v L' => ∃ b c, v = .slice (some ⟨b, 0, none⟩) k c ∧ L' = slR e sz v k ys :: R := by
 intro ρ w F ha hs
 refine (h ρ w F ha hs).mono ?_
 rintro v w' ⟨L', ⟨-, rfl⟩, hs', hk'⟩
 obtain ⟨h1, -, hp⟩ := sep_head hs'
 rcases hp with ⟨-, h2, -⟩ | ⟨b, cap, rest, fr, hv, -⟩
 ·omega
 ·exact ⟨_, ⟨b, cap, hv, rfl⟩, hs', hk'⟩
theorem lkeep_spec (g x : Nat) (Λ : Lg) (s : Bs) (z : Int) (hl : LgI Λ) : Fn Tryz.prog 71 #[vptr g, vstr s, vint z] [lgR g x Λ] fun v L => v = .tuple #[] ∧ L = [lgR g x (Λ.keep s z)] := by
 refine Fn.intro Tryz.func71 rfl rfl fun F W => ?_
 refine .lgOpen (by repeat' constructor) fun ea ec za zc => ?_
 have h1 := hl.ents
 have h2 := hl.same
 refine .sm rfl (.m rfl (.nf rfl fo_53_4 (.u (.ld rfl ag_39) (.m rfl (.oq (.buildSlice1 (vs := [_]) el_39 ze_9 rfl rfl rfl rfl rfl (by decide)) ?_)))))
 rintro v L' ⟨b0, rfl, rfl⟩
 refine .oq (.append1 rfl rfl rfl el_39 ze_9 rfl rfl ?c9 ?c10 (Nat.le_refl _) ?c11 (by decide)) ?_
 case c9 => (first | (simp [isCell]; done) | (simp [isCell, setAll, Value.cells]; done))
 case c10 => rfl
 case c11 => omega
 rintro v L' ⟨⟨a0, c0, rfl⟩, rfl⟩
 refine .nf rfl fo_53_4 (.st rfl rfl rfl sz_39 ?_)
 refine .nt (.region (.m rfl (.m rfl (.nf rfl fo_53_5 (.u (.ld rfl ag_32) (.m rfl (.oq (.buildSlice1 (vs := [_]) el_32 ze_3 rfl rfl rfl rfl rfl (by decide)) ?_)))))))
 rintro v L' ⟨b1, rfl, rfl⟩
 refine .oq (.append1 rfl rfl rfl el_32 ze_3 rfl rfl ?c27 ?c28 (Nat.le_refl _) ?c29 (by decide)) ?_
 case c27 => (first | (simp [isCell]; done) | (simp [isCell, setAll, Value.cells]; done))
 case c28 => rfl
 case c29 => omega
 rintro v L' ⟨⟨a1, c1, rfl⟩, rfl⟩
 refine .nf rfl fo_53_5 (.st rfl rfl rfl sz_32 ?_)
 refine .nil (.done_n (.lf (g := g) (x := x) (Λ.keep s z) ?_))
 exact .vv
theorem lmet_spec (g x : Nat) (Λ : Lg) (e : Int) : Fn Tryz.prog 69 #[vptr g, vint e] [lgR g x Λ] fun v L => v = vint (metE e) ∧ L = [lgR g x (Λ.met e)] := by
 refine Fn.intro Tryz.func69 rfl rfl fun F W => ?_
 refine .lgOpen (by repeat' constructor) fun ea ec za zc => (.sr (.an rfl (.seq (.sm rfl (.nt (.block (.sr (.ui rfl rfl rfl (.an rfl (.condD rfl (fun h6 => ?_) (fun h6 => ?_)))))))))))
 ·refine .region (.m rfl (.nf rfl fo_53_6 (.st rfl rfl rfl sz_4 ?_)))
  refine .nil (.blk_n (.then_n (.sm rfl (.an rfl (.ret ?_)))))
  have hm : Λ.met e = ⟨Λ.acc, Λ.cur, Λ.base, Λ.snap, Λ.ents, Λ.zxs, true⟩ := by unfold Lg.met; rw [if_pos h6]
  have he : metE e = e := by unfold metE; rw [if_neg (by omega)]
  rw [hm, he]
  refine .lf (g := g) (x := x) ⟨Λ.acc, Λ.cur, Λ.base, Λ.snap, Λ.ents, Λ.zxs, true⟩ ?_
  exact .vv
 refine .seq (.sr (.ui rfl rfl rfl (.an rfl (.dec (t := 11) rfl (fun h11 => ?_) (fun h11 => ?_)))))
 ·refine .condT rfl (.sk (.condT rfl (.sr (.an rfl (.ret (.blk_r (.then_r ?_)))))))
  have hm : Λ.met e = Λ := by unfold Lg.met; rw [if_neg h6]
  have he : metE e = 83 := by unfold metE; rw [if_pos (by omega)]
  rw [hm, he]
  refine .lf (g := g) (x := x) Λ ?_
  exact .vv
 refine .condF rfl (.region (.ui rfl rfl rfl (.an rfl (.dec (t := 11) rfl (fun h11 => ?_) (fun h11 => ?_)))))
 ·refine .condT rfl (.sr (.an rfl (.ret (.blk_r (.then_r ?_)))))
  have hm : Λ.met e = Λ := by unfold Lg.met; rw [if_neg h6]
  have he : metE e = 83 := by unfold metE; rw [if_pos (by omega)]
  rw [hm, he]
  refine .lf (g := g) (x := x) Λ ?_
  exact .vv
 refine .condF rfl (.skip (.blk_n (.then_n (.sm rfl (.an rfl (.ret ?_))))))
 have hm : Λ.met e = Λ := by unfold Lg.met; rw [if_neg h6]
 have he : metE e = e := by unfold metE; rw [if_neg (by omega)]
 rw [hm, he]
 refine .lf (g := g) (x := x) Λ ?_
 exact .vv
theorem last_nil {Λ : Lg} (h : Λ.zxs.length = 0) : lastZ Λ = Λ.base := by
 unfold lastZ; rw [List.eq_nil_of_length_eq_zero h]; rfl
theorem last_at {Λ : Lg} {i : Nat} (h : i + 1 = Λ.zxs.length) : lastZ Λ = Λ.zxs[i]'(by omega) := by
 unfold lastZ
 rw [List.getLast?_eq_getElem?, List.getElem?_eq_getElem (by omega)]
 simp only [Option.getD_some]
 congr 1; omega
theorem llast_spec (g x : Nat) (Λ : Lg) (hl : LgI Λ) : Fn Tryz.prog 9 #[vptr g] [lgR g x Λ] fun v L => v = vint (lastZ Λ) ∧ L = [lgR g x Λ] := by
 refine Fn.intro Tryz.func9 rfl rfl fun F W => ?_
 refine .lgOpen (by repeat' constructor) fun ea ec za zc => ?_
 have h1 := hl.ents
 have h2 := hl.same
 refine .sr (.an rfl (.seq (.sm rfl (.nf rfl fo_53_5 (.u (.ld rfl ag_32) (.q (.slen rfl Tryz.underlying32 rfl) rfl (.ui rfl rfl rfl (.nt (.condD rfl (fun h8 => ?_) (fun h8 => ?_))))))))))
 ·refine .sm rfl (.nf rfl fo_53_2 (.u (.ld rfl ag_3) (.an rfl (.rt ?_))))
  rw [last_nil (Λ := Λ) (by omega)]
  refine .lf (g := g) (x := x) Λ ?_
  exact .vv
 refine .sk (.seq ?_)
 obtain ⟨i, hi⟩ : ∃ i, i + 1 = Λ.zxs.length := ⟨Λ.zxs.length - 1, by omega⟩
 refine .slShape (v := .slice za _ zc) (xs := ints Λ.zxs) (by repeat' constructor) (by omega) fun bz cz e0 mbz _ => ?_
 simp only [Value.slice.injEq, true_and] at e0
 obtain ⟨rfl, rfl⟩ := e0
 refine .draw [] [[0, 1, 2, 3, 4, 5, 6, 7, 8, 9, 10, 11, 12]] mixed (by kernel_rfl) (.g0 (.mv rfl rfl (.nf rfl rfl rfl fo_53_5 (.kv rfl (.ld rfl ag_32) (.mv rfl rfl (.nf rfl rfl rfl fo_53_5 (.kv rfl (.ld rfl ag_32) (.kv rfl (.slen rfl Tryz.underlying32 rfl) (.kv rfl (.as (v' := vint (i : Nat)) (by congr 1; omega) (.sub rfl rfl (by omega))) (.kv rfl (.indexAddr rfl rfl el_32 (by omega)) (.kv rfl (.loadEl (p := intR (.slice (some ⟨bz, 0, none⟩) Λ.zxs.length zc) Λ.zxs) (i := i * 1) (v := vint (Λ.zxs[i]'(by omega))) rfl ag_3 (by repeat' constructor) (fun h hp => slR_rd hp) (by simp [List.getElem?_eq_getElem (show i < Λ.zxs.length by omega)])) ?_)))))))))))
 refine D.kv rfl (.assign rfl) (.pf (.ret ?_))
 rw [last_at hi]
 refine .lf (g := g) (x := x) Λ ?_
 exact .vv
theorem lahead_spec (base : Int) (snap : Bs) (hb : I64 base) (hs : snap.length ≤ 2147483648) : Fn Tryz.prog 86 #[vint base, vstr snap] [] fun v L => ∃ b c, v = .slice (some ⟨b, 0, none⟩) (headL base snap).length c ∧ L = [strR v (headL base snap)] := by
 refine Fn.intro Tryz.func86 rfl rfl fun F W => ?_
 have hz : (numB base).length ≤ 10 := sev_len10 (zig_lt hb)
 refine .sr (.an rfl (.sr (.oq (.c Tryz.func136 [] (cnew_spec)) ?_)))
 rintro v L' ⟨cw, rfl, rfl⟩
 refine .an rfl (.sm rfl (.m rfl (.oq (.c Tryz.func137 [_, _] (cnum_spec cw [] base hb (by simp))) ?_)))
 rintro v L' ⟨rfl, rfl⟩; rw [List.nil_append]
 refine .nt (.sm rfl (.m rfl (.q (.strlen rfl Tryz.underlying9 rfl) rfl (.cv Tryz.func138 [_, _] (ccount_spec cw (numB base) snap.length (by omega) (by omega)) ?_))))
 refine .nt (.sm rfl (.cv Tryz.func139 [_] (cbytes_spec cw (numB base ++ cntB snap.length)) ?_))
 refine .oq (.buildSlice1 (vs := [_]) el_39 ze_9 rfl rfl rfl rfl rfl (by decide)) ?_
 rintro v L' ⟨b4, rfl, rfl⟩
 refine .a rfl (.nil (.slMake (b := b4) (n := 1) (c := 1) (xs := strs [headB base snap.length]) (by repeat' constructor) (by decide) (by simp) rfl (.then_n (.seq (.block (.loopK (ι := Bs × Value × (List Bs)) (fun q E => (1, vstr q.1) :: (6, q.2.1) :: E) (fun q => [strR q.2.1 q.2.2]) (fun q => q.2.2 ++ chunkL q.1 = headL base snap ∧ q.2.2.length + q.1.length ≤ 1 + snap.length ∧ ∃ b c, q.2.1 = .slice (some ⟨b, 0, none⟩) q.2.2.length c) (fun q => q.1.length) (snap, .slice (some ⟨b4, 0, none⟩) 1 1, [headB base snap.length]) (ts := [4]) (.cons rfl (.nil)) (⟨rfl, by dsimp only [List.length_cons, List.length_nil]; omega, b4, 1, rfl⟩) ⟨rfl, rfl, rfl, trivial⟩ (by repeat' constructor) ?_))))))
 rintro ⟨t, u, l⟩ ⟨hl, hlt, bu, cu, hu⟩
 dsimp only
 dsimp only at hl hlt hu
 subst hu
 refine .seq (.sm rfl (.u (.strne rfl rfl) (.nt (.condN rfl (fun h20 => ?_) (fun h20 => ?_)))))
 ·have ht : 0 < t.length := List.length_pos_iff.2 (by simpa using h20)
  refine .sk (.block (.sm rfl (.q (.strlen rfl Tryz.underlying9 rfl) rfl (.q (.as (v' := vint ((min 4000 t.length : Nat) : Int)) (by congr 1; omega) (.min2 rfl rfl)) rfl (.an rfl (.sm rfl (.m rfl (.m rfl (.q (.to (v' := vstr (t.take 4000)) (.strTo rfl rfl Tryz.underlying9 (by omega)) (by simp only [Int.toNat_natCast, take_min])) rfl (.oq (.buildSlice1 (vs := [_]) el_39 ze_9 rfl rfl rfl rfl rfl (by decide)) ?_))))))))))
  rintro v L' ⟨b8, rfl, rfl⟩
  refine .oq (.shaped1 (k := l.length + 1) ?hk25 (.append1 rfl rfl rfl el_39 ze_9 rfl rfl ?h126 ?h227 (Nat.le_refl _) ?h328 (by decide))) ?_
  case hk25 => omega
  case h126 => (first | (simp [isCell]; done) | (simp [isCell, setAll, Value.cells]; done))
  case h227 => rfl
  case h328 => omega
  rintro v L' ⟨b7, c7, rfl, rfl⟩
  refine .an rfl (.region (.m rfl (.m rfl (.q (.to (v' := vstr (t.drop 4000)) (.strFrom rfl rfl Tryz.underlying9 (by omega)) (by simp only [Int.toNat_natCast, drop_min])) rfl (.a rfl (.nil (.blk_n (.then_n (.slCast (T := 9) (sz := 1) (m' := (l ++ [t.take 4000]).length) (xs' := strs (l ++ [t.take 4000])) (by repeat' constructor) (by simp) (by simp [strs, Value.cells]) ?_)))))))))
  exact .rk ((t.drop 4000, .slice (some ⟨b7, 0, none⟩) (l.length + 1) c7, l ++ [t.take 4000])) (⟨by dsimp only; rw [List.append_assoc, List.singleton_append, ← chunk_cons h20]; exact hl, by dsimp only; rw [List.length_append, List.length_drop, List.length_singleton]; omega, b7, c7, by simp⟩) (by dsimp only; rw [List.length_drop]; omega) ⟨rfl, rfl, rfl, trivial⟩
 have ht : t = [] := by simpa using h20
 subst ht
 rw [chunk_nil', List.append_nil] at hl
 subst hl
 refine .exit (.then_e (.then_e (.blk_e (.then_n (.sm rfl (.an rfl (.ret ?_)))))))
 exact .dn rfl rfl ⟨_, _, rfl, rfl⟩
end Go.Proofs.YteebpmkkdlabpaaGreat
