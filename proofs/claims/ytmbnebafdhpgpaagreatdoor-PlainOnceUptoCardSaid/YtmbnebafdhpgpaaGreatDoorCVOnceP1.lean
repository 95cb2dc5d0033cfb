/- Own work, in part by program, for plainOnce.proved. -/
import Derived.Test.YtmbnebafdhpgpaaGreatDoorCVOnceP0
import Derived.Shelf.SlIterI.Nil
import Derived.Shelf.SortM.Plain
import Derived.Shelf.SortM.SortNone
import Derived.Ground.GgzProg
import Derived.Ground.SlgmProg
import Derived.Shelf.Slices.CompactI
import Derived.Ground.Names2Prog
import Derived.Test.YtmbnebafdhpgpaaGreatDoorProg
import Derived.Sort.OwnSortedInts
import Derived.Sort.OwnSorted
import Derived.Laws.IdiomRangeMap
import Derived.Defers
import Derived.Lib.OthersKept
import Derived.Lib.Bytealg
import Derived.Laws.Externs
import Derived.Shelf.SlIter.Nil
import Derived.Shelf.SlMaps.Clone
import Derived.Ground.SlmcProg
set_option maxRecDepth 100000
namespace Go.Proofs.YtmbnebafdhpgpaaGreatDoor
open Go
abbrev Ev := Int × (Bs × Int)
def evC (e : Ev) : List Value := [vint e.1, vstr e.2.1, vint e.2.2]
structure Stt where
 cz : Int
 mz : Int
 pz : Int
 ver : Int
 cver : Int
 av : Int
 own : Int
 len : Int
 kids : Int
theorem Stt.ext' {a b : Stt} (h : [a.cz, a.mz, a.pz, a.ver, a.cver, a.av, a.own, a.len, a.kids] = [b.cz, b.mz, b.pz, b.ver, b.cver, b.av, b.own, b.len, b.kids]) : a = b := by
 cases a; cases b; simp at h; simp [h]
instance : DecidableEq Stt := fun a b => decidable_of_iff ([a.cz, a.mz, a.pz, a.ver, a.cver, a.av, a.own, a.len, a.kids] = [b.cz, b.mz, b.pz, b.ver, b.cver, b.av, b.own, b.len, b.kids]) ⟨Stt.ext', fun h => by rw [h]⟩
def st0 : Stt := ⟨0, 0, 0, 0, 0, 0, 0, 0, 0⟩
def stC (s : Stt) : List Value := [vint s.cz, vint s.mz, vint s.pz, vint s.ver, vint s.cver, vint s.av, vint s.own, vint s.len, vint s.kids]
/-! ### Structs compared -/
theorem ev_eq (d : Nat) (a b : Ev) : EqAt Tryz.prog (d + 2) 50 (.agg (evC a).toArray) (.agg (evC b).toArray) (decide (a = b)) := by
 have h := EqAt.struct (d := d + 1) (xs := evC a) (ys := evC b) Tryz.underlying50 (by kernel_rfl)
  (.cons (FEq.cell (by decide) ag_3 rfl rfl (EqAt.int Tryz.underlying3 a.1 b.1)) (.cons (FEq.cell (by decide) ag_9 rfl rfl (EqAt.str Tryz.underlying9 a.2.1 b.2.1)) (.cons (FEq.cell (by decide) ag_3 rfl rfl (EqAt.int Tryz.underlying3 a.2.2 b.2.2)) .nil)))
 have e : ([decide (a.1 = b.1), decide (a.2.1 = b.2.1), decide (a.2.2 = b.2.2)].all id) = decide (a = b) := by
  obtain ⟨a1, a2, a3⟩ := a; obtain ⟨b1, b2, b3⟩ := b
  simp [Bool.decide_and]
 rw [← e]; exact h
theorem flatMap_cell {α : Type} {f : α → List Value} {sz k : Nat} {l : List α} {i : Nat} (hf : ∀ x ∈ l, (f x).length = sz) (hi : i < l.length) (hk : k < sz) : (l.flatMap f)[i * sz + k]? = (f l[i])[k]? := by
 have h := flatMap_at hf hi
 have h2 : (((l.flatMap f).drop (i * sz)).take sz)[k]? = (f l[i])[k]? := by rw [h]
 rw [List.getElem?_take, if_pos hk, List.getElem?_drop] at h2
 exact h2
theorem slR_makeN {T : TypeId} {b m sz : Nat} {l : List Value} {h : Hp} (hl : l.length = m * sz) (hp : ptc b l T h) : slR T sz (.slice (some ⟨b, 0, none⟩) m m) m l h :=
 .inr ⟨b, m, [], (0, 0), rfl, by rw [List.append_nil]; exact hp, hl, by simp; omega, Nat.le_refl _, nfz0 _ _⟩
def rdO (sz : Nat) (v : Value) (n : Nat) (ys : List Value) : HP := fun h => rdS sz h v n ys
section
variable {W : World} {n : Nat} {ds : List Deferred} {E : Env} {L R : List HP} {X : Act → World → Prop}
theorem G.slMakeN (sz m : Nat) {T : TypeId} {b : Nat} {l xs : List Value} (hL : Pick (ptc b l T) L R) (hx : l = xs) (hl : xs.length = m * sz) (h : G W n ds E (slR T sz (.slice (some ⟨b, 0, none⟩) m m) m xs :: R) X) : G W n ds E L X := by
 subst hx
 exact fun a w he hk hs => h a w he hk (sep_imp (fun _ hp => slR_makeN hl hp) (hs.pick hL))
theorem G.toRd {T : TypeId} {sz m : Nat} {v : Value} {xs : List Value} (hL : Pick (slR T sz v m xs) L R) (h : G W n ds E (rdO sz v m xs :: R) X) : G W n ds E L X :=
 fun a w he hk hs => h a w he hk (sep_imp (fun _ hp => slR_rd hp) (hs.pick hL))
end
theorem G.rdNil {W : World} {n : Nat} {ds : List Deferred} {E : Env} {L R : List HP} {X : Act → World → Prop} {p : HP} {sz m c : Nat} {ys : List Value} (hr : ∀ h : Hp, p h → rdS sz h (.slice none m c) m ys) (hL : Pick p L R) (h : m = 0 → G W n ds E L X) : G W n ds E L X := by
 intro a w he hk hs
 obtain ⟨h1, -, hp⟩ := sep_head (hs.pick hL)
 rcases hr _ hp with ⟨h0, -⟩ | ⟨b, off, cap, l, T, fr, hv, -⟩
 ·exact h h0 a w he hk hs
 ·simp at hv
theorem OpSpec.mapInsert {P : Program} {E : Env} {ty : TypeId} {K β : Type} [DecidableEq K] {kv : K → Value} {enc : β → Value} {kt et : TypeId} (hl : KeyLaw P kt kv) {t : TypeId} {x y z : Operand} {m : List (K × β)} {r : Nat} {k : K} {v : β} {ents : List (Value × Value)} (hx : ev E x = some (.map (some r))) (hy : ev E y = some (kv k)) (hz : ev E z = some (enc v)) (ht : P.underlying t = some (.map kt et))
  (he : ents = m.map fun x => (kv x.1, enc x.2)) : OpSpec P ⟨none, .insert t x y z, ty, "", #[], none⟩ E [mapR r ents] fun _ L' => L' = [mapR r ((aset m k v).map fun x => (kv x.1, enc x.2))] :=
 fun ρ w F ha hs => OpSpec.mapSet (ty := ty) hl hx hy hz ht he ρ w F ha hs
theorem nodup_len {α : Type} [DecidableEq α] : ∀ {l m : List α}, l.Nodup → (∀ x ∈ l, x ∈ m) → l.length ≤ m.length := by
 intro l
 induction l with
 | nil => intro m _ _; simp
 | cons a l ih =>
  intro m hn hs
  obtain ⟨h1, h2⟩ := List.nodup_cons.1 hn
  have ha := hs a List.mem_cons_self
  have := ih (m := m.erase a) h2 fun x hx => (List.mem_erase_of_ne (fun (e : x = a) => h1 (e ▸ hx))).2 (hs x (List.mem_cons_of_mem _ hx))
  rw [List.length_erase_of_mem ha] at this
  have hp := List.length_pos_of_mem ha
  rw [List.length_cons]; omega
/-! ### Texts in their order -/
structure Lin (K : Type) [LT K] : Prop where
 irr : ∀ a : K, ¬ a < a
 tr : ∀ a b c : K, a < b → b < c → a < c
 tri : ∀ a b : K, a < b ∨ a = b ∨ b < a
theorem linB : Lin Bs where
 irr := fun a => List.lt_irrefl a
 tr := fun _ _ _ h1 h2 => List.lt_trans h1 h2
 tri := fun a b => by
  rcases Decidable.em (a < b) with h | h
  ·exact .inl h
  ·rcases Decidable.em (b < a) with h2 | h2
   ·exact .inr (.inr h2)
   ·exact .inr (.inl (List.le_antisymm (List.not_lt.1 h2) (List.not_lt.1 h)))
theorem linI : Lin Int where
 irr := fun a => Int.lt_irrefl a
 tr := fun _ _ _ h1 h2 => Int.lt_trans h1 h2
 tri := fun a b => Int.lt_trichotomy a b
/-! ### SortedK tables -/
def sset {K β : Type} [LT K] [DecidableEq K] [DecidableLT K] : List (K × β) → K → β → List (K × β)
 | [], k, v => [(k, v)]
 | x :: l, k, v => if x.1 = k then (k, v) :: l else if k < x.1 then (k, v) :: x :: l else x :: sset l k v
def SortedK {K β : Type} [LT K] (l : List (K × β)) : Prop := (l.map (·.1)).Pairwise (· < ·)
theorem SortedK.nodup {K β : Type} [LT K] (ho : Lin K) {l : List (K × β)} (h : SortedK l) : (l.map (·.1)).Nodup := List.Pairwise.imp (S := fun a b : K => a ≠ b) (fun {a b} hab e => ho.irr b (by rw [e] at hab; exact hab)) h
theorem SortedK.filter {K β : Type} [LT K] {l : List (K × β)} (h : SortedK l) (f : K × β → Bool) : SortedK (l.filter f) := List.Pairwise.sublist (List.Sublist.map _ List.filter_sublist) h
theorem sset_keys {K β : Type} [LT K] [DecidableEq K] [DecidableLT K] (l : List (K × β)) (k x : K) (v : β) : x ∈ (sset l k v).map (·.1) ↔ x = k ∨ x ∈ l.map (·.1) := by
 induction l with
 | nil => simp [sset]
 | cons y l ih =>
  unfold sset
  split
  ·rename_i h; simp [h]
  ·split
   ·simp
   ·rw [List.map_cons, List.mem_cons, ih, List.map_cons, List.mem_cons]
    constructor
    ·rintro (h | h | h)
     ·exact .inr (.inl h)
     ·exact .inl h
     ·exact .inr (.inr h)
    ·rintro (h | h | h)
     ·exact .inr (.inl h)
     ·exact .inl h
     ·exact .inr (.inr h)
theorem SortedK.sset {K β : Type} [LT K] [DecidableEq K] [DecidableLT K] (ho : Lin K) {l : List (K × β)} (h : SortedK l) (k : K) (v : β) : SortedK (sset l k v) := by
 induction l with
 | nil => simp [SortedK, Go.Proofs.YtmbnebafdhpgpaaGreatDoor.sset]
 | cons y l ih =>
  obtain ⟨h1, h2⟩ := List.pairwise_cons.1 h
  unfold Go.Proofs.YtmbnebafdhpgpaaGreatDoor.sset
  split
  ·rename_i e; subst e; exact List.pairwise_cons.2 ⟨h1, h2⟩
  ·rename_i e
   split
   ·rename_i hl
    refine List.pairwise_cons.2 ⟨fun a ha => ?_, h⟩
    rcases List.mem_cons.1 ha with rfl | ha
    ·exact hl
    ·exact ho.tr _ _ _ hl (h1 a ha)
   ·rename_i hl
    refine List.pairwise_cons.2 ⟨fun a ha => ?_, ih h2⟩
    rcases (sset_keys l k a v).1 ha with rfl | ha
    ·rcases ho.tri y.1 a with g | g | g
     ·exact g
     ·exact absurd g e
     ·exact absurd g hl
    ·exact h1 a ha
theorem al_sset {K β : Type} [LT K] [DecidableEq K] [DecidableLT K] (l : List (K × β)) (k x : K) (v : β) : alook (sset l k v) x = if x = k then some v else alook l x := by
 induction l with
 | nil => simp [sset, alook]
 | cons y l ih =>
  obtain ⟨a, b⟩ := y
  unfold sset
  dsimp only
  split
  ·rename_i e; subst e
   by_cases hx : x = a <;> simp [alook, hx]
  ·rename_i e
   split
   ·by_cases hx : x = k <;> simp [alook, hx]
   ·by_cases hx : x = a
    ·subst hx; simp [alook, e]
    ·simp [alook, hx, ih]
theorem al_filter {K β : Type} [DecidableEq K] {l : List (K × β)} (f : K → Bool) (x : K) : alook (l.filter fun y => f y.1) x = if f x = true then alook l x else none := by
 induction l with
 | nil => simp [alook]
 | cons y l ih =>
  obtain ⟨a, b⟩ := y
  by_cases hf : f a = true
  ·rw [List.filter_cons_of_pos (by simpa using hf)]
   by_cases hx : x = a
   ·subst hx; simp [alook, hf]
   ·simp only [alook, hx, if_false]; exact ih
  ·rw [List.filter_cons_of_neg (by simpa using hf), ih]
   by_cases hx : x = a
   ·subst hx; simp [hf]
   ·simp only [alook, hx, if_false]
theorem sset_len {K β : Type} [LT K] [DecidableEq K] [DecidableLT K] (l : List (K × β)) (k : K) (v : β) : (sset l k v).length ≤ l.length + 1 ∧ l.length ≤ (sset l k v).length := by
 induction l with
 | nil => simp [sset]
 | cons y l ih =>
  unfold sset
  split
  ·simp
  ·split
   ·simp
   ·simp; omega
def amod {K β : Type} [DecidableEq K] (l : List (K × β)) (k : K) (f : β → β) : List (K × β) := l.map fun x => if x.1 = k then (x.1, f x.2) else x
theorem amod_keys {K β : Type} [DecidableEq K] (l : List (K × β)) (k : K) (f : β → β) : (amod l k f).map (·.1) = l.map (·.1) := by
 unfold amod
 rw [List.map_map]
 refine List.map_congr_left fun x _ => ?_
 dsimp only [Function.comp]
 split <;> rfl
theorem al_amod {K β : Type} [DecidableEq K] (l : List (K × β)) (k : K) (f : β → β) (x : K) : alook (amod l k f) x = if x = k then (alook l x).map f else alook l x := by
 induction l with
 | nil => simp [amod, alook]
 | cons y l ih =>
  obtain ⟨a, b⟩ := y
  unfold amod at ih ⊢
  rw [List.map_cons]
  dsimp only
  by_cases ha : a = k
  ·subst ha
   rw [if_pos rfl]
   by_cases hx : x = a
   ·subst hx; simp [alook]
   ·simp only [alook, hx, if_false] at ih ⊢; exact ih
  ·rw [if_neg ha]
   by_cases hx : x = a
   ·subst hx; simp [alook, ha]
   ·simp only [alook, hx, if_false] at ih ⊢; exact ih
theorem amod_len {K β : Type} [DecidableEq K] (l : List (K × β)) (k : K) (f : β → β) : (amod l k f).length = l.length := by unfold amod; simp
theorem SortedK.amod {K β : Type} [LT K] [DecidableEq K] {l : List (K × β)} (h : SortedK l) (k : K) (f : β → β) : SortedK (amod l k f) := by
 unfold SortedK; rw [amod_keys]; exact h
def lidxTo (p : Bs) : Nat → Int
 | 0 => -1
 | n + 1 => if p.getD n 0 = 47 then (n : Int) else lidxTo p n
def lidxZ (p : Bs) : Int := lidxTo p p.length
def dnL (n : Nat) : Nat → Int
 | 0 => (n : Int) - 1
 | k + 1 => dnL n k - 1
theorem dnL_eq (n k : Nat) : dnL n k = (n : Int) - 1 - k := by
 induction k with
 | zero => unfold dnL; omega
 | succ k ih => unfold dnL; omega
theorem lidxTo_range (p : Bs) (n : Nat) : -1 ≤ lidxTo p n ∧ lidxTo p n < n := by
 induction n with
 | zero => simp [lidxTo]
 | succ n ih =>
  unfold lidxTo
  split <;> omega
theorem lidx_range (p : Bs) : -1 ≤ lidxZ p ∧ lidxZ p < p.length := lidxTo_range p _
def parentZ (p : Bs) : Bs := if lidxZ p < 0 ∨ p = [47] then [] else if lidxZ p = 0 then [47] else p.take (lidxZ p).toNat
def baseZ (p : Bs) : Bs := p.drop (lidxZ p + 1).toNat
def sfx (q s : Bs) : Prop := q.length ≤ s.length ∧ s.drop (s.length - q.length) = q
instance (q s : Bs) : Decidable (sfx q s) := inferInstanceAs (Decidable (_ ∧ _))
def trimZ (s q : Bs) : Bs := if sfx q s then s.take (s.length - q.length) else s
def kidZ (p name : Bs) : Bs := (if p = [47] then [47] else p ++ [47]) ++ name
def pfx (q s : Bs) : Prop := s.take q.length = q
instance (q s : Bs) : Decidable (pfx q s) := inferInstanceAs (Decidable (_ = _))
def underZ (p q : Bs) : Prop := pfx (kidZ q []) p ∧ p ≠ kidZ q []
instance (p q : Bs) : Decidable (underZ p q) := inferInstanceAs (Decidable (_ ∧ _))
theorem trim_nil (s : Bs) : trimZ s [] = s := by
 unfold trimZ sfx
 simp
theorem trim_len (s q : Bs) : (trimZ s q).length ≤ s.length := by
 unfold trimZ
 split
 ·rw [List.length_take]; omega
 ·exact Nat.le_refl _
theorem byte_eq {c d : UInt8} (h : (c.toNat : Int) = (d.toNat : Int)) : c = d := UInt8.toNat_inj.1 (by omega)
theorem trim_root : trimZ [47] [47] = [] := by decide
theorem kid_trim (p name : Bs) : trimZ p (if p = [47] then [47] else []) ++ [47] ++ name = kidZ p name := by
 unfold kidZ
 by_cases h : p = [47]
 ·subst h; rw [if_pos rfl, if_pos rfl, trim_root]; rfl
 ·rw [if_neg h, if_neg h, trim_nil]
theorem parent_len (p : Bs) : (parentZ p).length ≤ max p.length 1 := by
 unfold parentZ
 split
 ·simp
 ·split
  ·simp; omega
  ·rw [List.length_take]; omega
theorem cut_last {p : Bs} (h : 0 ≤ lidxZ p) : p = p.take (lidxZ p).toNat ++ 47 :: p.drop ((lidxZ p).toNat + 1) ∧ (47 : UInt8) ∉ p.drop ((lidxZ p).toNat + 1) := by
 have key : ∀ n, n ≤ p.length → 0 ≤ lidxTo p n → p.getD (lidxTo p n).toNat 0 = 47 ∧ ∀ i, (lidxTo p n).toNat < i → i < n → p.getD i 0 ≠ 47 := by
  intro n
  induction n with
  | zero => intro _ h; simp [lidxTo] at h
  | succ n ih =>
   intro hn h
   unfold lidxTo at h ⊢
   split
   ·rename_i e
    refine ⟨by simpa using e, fun i h1 h2 => ?_⟩
    simp at h1; omega
   ·rename_i e
    rw [if_neg e] at h
    obtain ⟨g1, g2⟩ := ih (by omega) h
    refine ⟨g1, fun i h1 h2 => ?_⟩
    by_cases hi : i = n
    ·subst hi; exact e
    ·exact g2 i h1 (by omega)
 obtain ⟨g1, g2⟩ := key p.length (Nat.le_refl _) h
 have hr := lidx_range p
 have hlt : (lidxZ p).toNat < p.length := by omega
 refine ⟨?_, fun hm => ?_⟩
 ·have e : p[(lidxZ p).toNat] = 47 := by
   have : p.getD (lidxZ p).toNat 0 = 47 := g1
   rw [List.getD_eq_getElem?_getD, List.getElem?_eq_getElem hlt, Option.getD_some] at this
   exact this
  have h2 := List.take_append_drop (lidxZ p).toNat p
  rw [List.drop_eq_getElem_cons hlt, e] at h2
  exact h2.symm
 ·obtain ⟨i, hi, e⟩ := List.mem_iff_getElem.1 hm
  rw [List.length_drop] at hi
  rw [List.getElem_drop] at e
  refine g2 ((lidxZ p).toNat + 1 + i) (by show (lidxZ p).toNat < _; omega) (by omega) ?_
  rw [List.getD_eq_getElem?_getD, List.getElem?_eq_getElem (by omega), Option.getD_some]
  exact e
end Go.Proofs.YtmbnebafdhpgpaaGreatDoor
/-
 DERIVED: THE SHELF's CONTRACTS AT THIS DUMP, IN PLAIN WORDS (tools/lay-plain.mjs out of 'YtmbnebafdhpgpaaGreatDoorLay.lean', which tools/lay-shelf.mjs wrote): THE SAME DECLARATIONS UNDER THE SAME NAMES: 'import', 'namespace', 'open', 'def', 'theorem' AND NOTHING ELSE: no command of the shelf's: FOR A HAND-IN. Each laying: the table of numbers ('.._ren') and one theorem, a field a fact of the dump's own or the kernel's comparison; each contract: ONE APPLICATION.
-/
namespace Go.Proofs
open Go.Shelf
def Tryz.sortA_ren : Go.Shelf.Ren := ⟨fun | 5 => 70 | 8 => 131 | 7 => 130 | 19 => 206 | 20 => 207 | 10 => 197 | 11 => 198 | 12 => 199 | 13 => 200 | 14 => 201 | 15 => 202 | 16 => 203 | 17 => 204 | 18 => 205 | 30 => 238 | 31 => 239 | 32 => 240 | 33 => 241 | 34 => 242 | 35 => 243 | 40 => 263 | n => n, fun | 23 => 86 | 25 => 3 | 3 => 3 | 32 => 160 | 22 => 86 | 0 => 0 | 44 => 219 | 46 => 180 | 4 => 4 | 36 => 259 | 35 => 258 | 41 => 264 | 5 => 5 | 9 => 9 | 53 => 293 | 57 => 204 | 63 => 311 | 64 => 312 | n => n, fun | n => n⟩
theorem Tryz.sortA : Go.Proofs.SlLaysM.n5 Tryz.prog Tryz.sortA_ren := {
 mixed := by kernel_rfl
 f5 := ⟨Tryz.f70.name, by decide, Tryz.func70.trans (congrArg some (by kernel_rfl))⟩
 f7 := ⟨Tryz.f130.name, by decide, Tryz.func130.trans (congrArg some (by kernel_rfl))⟩
 f8 := Tryz.func131.trans (congrArg some (by kernel_rfl))
 f10 := ⟨Tryz.f197.name, by decide, Tryz.func197.trans (congrArg some (by kernel_rfl))⟩
 f11 := ⟨Tryz.f198.name, by decide, Tryz.func198.trans (congrArg some (by kernel_rfl))⟩
 f12 := ⟨Tryz.f199.name, by decide, Tryz.func199.trans (congrArg some (by kernel_rfl))⟩
 f13 := ⟨Tryz.f200.name, by decide, Tryz.func200.trans (congrArg some (by kernel_rfl))⟩
 f14 := ⟨Tryz.f201.name, by decide, Tryz.func201.trans (congrArg some (by kernel_rfl))⟩
 f15 := ⟨Tryz.f202.name, by decide, Tryz.func202.trans (congrArg some (by kernel_rfl))⟩
 f16 := ⟨Tryz.f203.name, by decide, Tryz.func203.trans (congrArg some (by kernel_rfl))⟩
 f17 := ⟨Tryz.f204.name, by decide, Tryz.func204.trans (congrArg some (by kernel_rfl))⟩
 f18 := ⟨Tryz.f205.name, by decide, Tryz.func205.trans (congrArg some (by kernel_rfl))⟩
 f19 := Tryz.func206.trans (congrArg some (by kernel_rfl))
 f20 := Tryz.func207.trans (congrArg some (by kernel_rfl))
 f30 := ⟨Tryz.f238.name, by decide, Tryz.func238.trans (congrArg some (by kernel_rfl))⟩
 f31 := Tryz.func239.trans (congrArg some (by kernel_rfl))
 f32 := Tryz.func240.trans (congrArg some (by kernel_rfl))
 f33 := ⟨Tryz.f241.name, by decide, Tryz.func241.trans (congrArg some (by kernel_rfl))⟩
 f34 := ⟨Tryz.f242.name, by decide, Tryz.func242.trans (congrArg some (by kernel_rfl))⟩
 f35 := ⟨Tryz.f243.name, by decide, Tryz.func243.trans (congrArg some (by kernel_rfl))⟩
 f40 := ⟨Tryz.f263.name, by decide, Tryz.func263.trans (congrArg some (by kernel_rfl))⟩
 t0 := Tryz.underlying0
 a0 := Tryz.isAgg0
 z0 := Tryz.sizeOf0
 v0 := Tryz.zeroValue0
 t3 := Tryz.underlying3
 a3 := Tryz.isAgg3
 z3 := Tryz.sizeOf3
 v3 := Tryz.zeroValue3
 t4 := Tryz.underlying4
 a4 := Tryz.isAgg4
 z4 := Tryz.sizeOf4
 v4 := Tryz.zeroValue4
 t5 := Tryz.underlying5
 a5 := Tryz.isAgg5
 z5 := Tryz.sizeOf5
 v5 := Tryz.zeroValue5
 t9 := Tryz.underlying9
 a9 := Tryz.isAgg9
 z9 := Tryz.sizeOf9
 v9 := Tryz.zeroValue9
 t22 := Tryz.underlying86
 a22 := Tryz.isAgg86
 z22 := Tryz.sizeOf86
 v22 := Tryz.zeroValue86
 t23 := Tryz.underlying86
 a23 := Tryz.isAgg86
 z23 := Tryz.sizeOf86
 v23 := Tryz.zeroValue86
 t25 := Tryz.underlying3
 a25 := Tryz.isAgg3
 z25 := Tryz.sizeOf3
 v25 := Tryz.zeroValue3
 t32 := Tryz.underlying160
 a32 := Tryz.isAgg160
 z32 := Tryz.sizeOf160
 v32 := Tryz.zeroValue160
 t35 := Tryz.underlying258
 a35 := Tryz.isAgg258
 z35 := Tryz.sizeOf258
 v35 := Tryz.zeroValue258
 t36 := Tryz.underlying259
 a36 := Tryz.isAgg259
 z36 := Tryz.sizeOf259
 v36 := Tryz.zeroValue259
 t41 := Tryz.underlying264
 a41 := Tryz.isAgg264
 z41 := Tryz.sizeOf264
 v41 := Tryz.zeroValue264
 t44 := Tryz.underlying219
 a44 := Tryz.isAgg219
 z44 := Tryz.sizeOf219
 v44 := Tryz.zeroValue219
 t46 := Tryz.underlying180
 a46 := Tryz.isAgg180
 z46 := Tryz.sizeOf180
 v46 := Tryz.zeroValue180
 t53 := Tryz.underlying293
 a53 := Tryz.isAgg293
 z53 := Tryz.sizeOf293
 v53 := Tryz.zeroValue293
 t57 := Tryz.underlying204
 a57 := Tryz.isAgg204
 z57 := Tryz.sizeOf204
 v57 := Tryz.zeroValue204
 t63 := Tryz.underlying311
 a63 := Tryz.isAgg311
 z63 := Tryz.sizeOf311
 v63 := Tryz.zeroValue311
 t64 := Tryz.underlying312
 a64 := Tryz.isAgg312
 z64 := Tryz.sizeOf312
 v64 := Tryz.zeroValue312 }
def Tryz.keysA_ren : Go.Shelf.Ren := ⟨fun | 7 => 41 | 10 => 71 | n => n, fun | 23 => 111 | 26 => 3 | 3 => 123 | 28 => 120 | 0 => 0 | 27 => 119 | 33 => 89 | 4 => 4 | n => n, fun | n => n⟩
theorem Tryz.keysA : Go.Proofs.SlLaysZI.n7 Tryz.prog Tryz.keysA_ren := {
 mixed := by kernel_rfl
 f7 := ⟨Tryz.f41.name, by decide, Tryz.func41.trans (congrArg some (by kernel_rfl))⟩
 f10 := ⟨Tryz.f71.name, by decide, Tryz.func71.trans (congrArg some (by kernel_rfl))⟩
 t0 := Tryz.underlying0
 a0 := Tryz.isAgg0
 z0 := Tryz.sizeOf0
 v0 := Tryz.zeroValue0
 t4 := Tryz.underlying4
 a4 := Tryz.isAgg4
 z4 := Tryz.sizeOf4
 v4 := Tryz.zeroValue4
 t23 := Tryz.underlying111
 a23 := Tryz.isAgg111
 z23 := Tryz.sizeOf111
 v23 := Tryz.zeroValue111
 t26 := Tryz.underlying3
 a26 := Tryz.isAgg3
 z26 := Tryz.sizeOf3
 v26 := Tryz.zeroValue3
 t27 := Tryz.underlying119
 a27 := Tryz.isAgg119
 z27 := Tryz.sizeOf119
 v27 := Tryz.zeroValue119
 t28 := Tryz.underlying120
 a28 := Tryz.isAgg120
 z28 := Tryz.sizeOf120
 v28 := Tryz.zeroValue120
 t33 := Tryz.underlying89
 a33 := Tryz.isAgg89
 z33 := Tryz.sizeOf89
 v33 := Tryz.zeroValue89 }
def Tryz.sortedA_ren : Go.Shelf.Ren := ⟨fun | 6 => 40 | 8 => 69 | 9 => 70 | 11 => 129 | 13 => 131 | 12 => 130 | 23 => 206 | 24 => 207 | 14 => 197 | 15 => 198 | 16 => 199 | 17 => 200 | 18 => 201 | 19 => 202 | 20 => 203 | 21 => 204 | 22 => 205 | 25 => 238 | 26 => 239 | 27 => 240 | 28 => 241 | 29 => 242 | 30 => 243 | 31 => 263 | n => n, fun | 26 => 3 | 28 => 120 | 24 => 86 | 0 => 0 | 3 => 3 | 37 => 160 | 48 => 219 | 50 => 180 | 4 => 4 | 40 => 259 | 39 => 258 | 45 => 264 | 5 => 5 | 9 => 9 | 51 => 293 | 55 => 204 | 57 => 311 | 58 => 312 | 33 => 89 | n => n, fun | n => n⟩
theorem Tryz.sortedA : Go.Proofs.SlLaysZI.n6 Tryz.prog Tryz.sortedA_ren := {
 mixed := by kernel_rfl
 f6 := ⟨Tryz.f40.name, by decide, Tryz.func40.trans (congrArg some (by kernel_rfl))⟩
 f8 := ⟨Tryz.f69.name, by decide, Tryz.func69.trans (congrArg some (by kernel_rfl))⟩
 f11 := ⟨Tryz.f129.name, by decide, Tryz.func129.trans (congrArg some (by kernel_rfl))⟩
 t0 := Tryz.underlying0
 a0 := Tryz.isAgg0
 z0 := Tryz.sizeOf0
 v0 := Tryz.zeroValue0
 t24 := Tryz.underlying86
 a24 := Tryz.isAgg86
 z24 := Tryz.sizeOf86
 v24 := Tryz.zeroValue86
 t26 := Tryz.underlying3
 a26 := Tryz.isAgg3
 z26 := Tryz.sizeOf3
 v26 := Tryz.zeroValue3
 t28 := Tryz.underlying120
 a28 := Tryz.isAgg120
 z28 := Tryz.sizeOf120
 v28 := Tryz.zeroValue120
 i26 := by kernel_rfl }
def Tryz.compactA_ren : Go.Shelf.Ren := ⟨fun | 20 => 75 | n => n, fun | 22 => 86 | 3 => 3 | 4 => 4 | 0 => 0 | n => n, fun | n => n⟩
theorem Tryz.compactA : Go.Proofs.Lays2.n20 Tryz.prog Tryz.compactA_ren := {
 mixed := by kernel_rfl
 f20 := Tryz.func75.trans (congrArg some (by kernel_rfl))
 t0 := Tryz.underlying0
 a0 := Tryz.isAgg0
 z0 := Tryz.sizeOf0
 v0 := Tryz.zeroValue0
 t3 := Tryz.underlying3
 a3 := Tryz.isAgg3
 z3 := Tryz.sizeOf3
 v3 := Tryz.zeroValue3
 t4 := Tryz.underlying4
 a4 := Tryz.isAgg4
 z4 := Tryz.sizeOf4
 v4 := Tryz.zeroValue4
 t22 := Tryz.underlying86
 a22 := Tryz.isAgg86
 z22 := Tryz.sizeOf86
 v22 := Tryz.zeroValue86
 i3 := by kernel_rfl }
end Go.Proofs
namespace Go.Proofs.YtmbnebafdhpgpaaGreatDoor
open Go Go.RowKit Go.Maps Go.Sort Go.Shelf
theorem sep_more {b : Nat} {o : Obj} {L : List HP} {h h' : Hp} (hs : sep L h) (hnb : h b = none) (hb : h' b = some o) (hle : ∀ c o, h c = some o → h' c = some o) : sep (pt b o :: L) h' := by
 refine ⟨fun c => if c = b then some o else none, h, fun c => ?_, fun c o' e => ?_, hle, if_pos rfl, hs⟩
 ·by_cases e : c = b
  ·exact .inr (e ▸ hnb)
  ·exact .inl (if_neg e)
 ·by_cases hc : c = b
  ·subst hc; simp at e; rw [← e]; exact hb
  ·simp [hc] at e
theorem below_le {w w' : World} (hb : Below w.heap.size w w') (c : Nat) (o : Obj) (h : w.heap[c]? = some o) : w'.heap[c]? = some o := by
 have hlt : c < w.heap.size := by
  rcases Nat.lt_or_ge c w.heap.size with h' | h'
  ·exact h'
  ·rw [Array.getElem?_eq_none h'] at h; cases h
 rw [hb.block c hlt]; exact h
theorem St.below {L : List HP} {w w' : World} (hs : St L w) (hb : Below w.heap.size w w') : St L w' := sep_mono hs (below_le hb)
theorem Keeps.below {w w' : World} (hb : Below w.heap.size w w') : Keeps w w' := ⟨hb.os, hb.tape, hb.output, hb.size⟩
theorem St.own {L : List HP} {w w' : World} {e : TypeId} {sz n : Nat} {v : Value} {xs : List Value} (hs : St L w) (hb : Below w.heap.size w w') (ho : w'.ownsRow w.heap.size e sz v n xs) : St (slR e sz v n xs :: L) w' := by
 obtain ⟨h1, h2⟩ := ho
 rcases h2 with ⟨rfl, rfl⟩ | ⟨g, cap, cur, rfl, hg, hcur, h3, h4, h5, h6⟩
 ·have : xs = [] := by simpa using h1
  subst this
  exact ⟨fun _ => none, _, fun _ => .inl rfl, fun _ _ e => (by cases e), fun _ _ e => e, slR_nil _ _ _, hs.below hb⟩
 ·have hnone : w.heap[g]? = none := Array.getElem?_eq_none hg
  refine sep_imp (fun h hp => ?_) (sep_more (o := .cells cur e (0, 0)) hs hnone hcur (below_le hb))
  refine .inr ⟨g, cap, cur.toList.drop (n * sz), (0, 0), rfl, ?_, h1, ?_, h3, nfz0 _ _⟩
  ·have : (xs ++ cur.toList.drop (n * sz)).toArray = cur := by rw [← h6, List.take_append_drop]
   rw [this]; exact hp
  ·rw [← h6]; simp; rw [← h5]; omega
theorem wf_i64 {x : Int} (h : -9223372036854775808 ≤ x ∧ x ≤ 9223372036854775807) : (Lit.int .i64 x).wf = true := by
 simp only [Lit.wf, Bool.and_eq_true, decide_eq_true_eq]
 have e1 : IntKind.i64.min = -9223372036854775808 := by decide
 have e2 : IntKind.i64.max = 9223372036854775807 := by decide
 rw [e1, e2]; exact h
def sortI (l : List Int) : List Int := l.mergeSort (fun x y => decide (x ≤ y))
theorem keys_fn {P : Program} {ρ : Ren} (L : SlLaysZI.n7 P ρ) (mb : Option Nat) : Fn P (ρ.f 7) #[.map mb] [] fun v Lp => ∃ b, v = .func (.func (ρ.f 10)) #[] #[vptr b] ∧ Lp = [ptc b [.map mb] (ρ.t 23)] := by
 intro F w hs
 refine (callsIn_wide.1 (AnyZI.keys_in L Fence.wide 1 trivial rfl mb w)).mono ?_
 rintro e w' ⟨rfl, rfl⟩
 exact ⟨_, _, ⟨_, rfl, rfl⟩, rfl, St.new (L := F) hs _, Keeps.new _ _⟩
theorem sorted_fn {P : Program} {ρ ρs ρm : Ren} (L : SlLaysZI.n7 P ρ) (LS : SlLaysZI.n6 P ρs) (LM : SlLaysM.n5 P ρm) (hm : ρm.f 5 = ρs.f 9) (e9 : ∀ args w, (callFunc (ρs.f 9) args).run P w = .ok (.enter (ρs.f 9) args) w) (e10 : ∀ args w, (callFunc (ρ.f 10) args).run P w = .ok (.enter (ρ.f 10) args) w)
    (hk : P.underlying (ρ.t 26) = some (.int .i64)) {b r : Nat} {T : TypeId} {β : Type} {enc : β → Value} (m : List (Int × β)) (hnd : (m.map (·.1)).Nodup) (hbd : ∀ x ∈ m, -9223372036854775808 ≤ x.1 ∧ x.1 ≤ 9223372036854775807) (hlen : m.length ≤ 1099511627776) :
    Fn P (ρs.f 6) #[.func (.func (ρ.f 10)) #[] #[vptr b]] [ptc b [.map (some r)] T, mapR r (m.map fun x => (vint x.1, enc x.2))] fun v Lp => (∃ a c, v = .slice a m.length c) ∧
      Lp = [slR (ρs.t 26) 1 v m.length ((sortI (m.map (·.1))).map vint), mapR r (m.map fun x => (vint x.1, enc x.2))] := by
  intro F w hs
  have hcell : w.cell? ⟨b, 0, none⟩ = some (.map (some r)) := cell_of (l := [Value.map (some r)]) (St.pt (L := _) hs) rfl
  obtain ⟨hr1, ar, es, clock, hes, hents, hborn, hnb⟩ := sep_head (sep_tail hs)
  have hes' := ar _ _ hes
  have hlen' : es.length = m.length := by have := congrArg List.length hents; simpa using this
  have hkeys : es.map (fun e => e.key) = m.map (fun x => vint x.1) := by
    have := congrArg (List.map Prod.fst) hents; rw [List.map_map, List.map_map] at this; exact this
  let R : Value → Option (DataW Unit × List MemPlace) := fun _ => some (.lit (.bool true), [])
  have hkey : ∀ x ∈ es, ∃ k : Int, x.key = vint k ∧ -9223372036854775808 ≤ k ∧ k ≤ 9223372036854775807 := by
    intro x hx
    have : x.key ∈ es.map (fun e => e.key) := List.mem_map_of_mem hx
    rw [hkeys] at this
    obtain ⟨y, hy, he⟩ := List.mem_map.1 this
    exact ⟨y.1, he.symm, hbd y hy⟩
  have hrd : ∀ x ∈ es, ∀ k, x.key = vint k → Go.WideElems.rd P (ρ.t 26) R x = some (.int .i64 k, .lit (.bool true)) := by
    intro x hx k hxk
    obtain ⟨k', h1, h2⟩ := hkey x hx
    have : k' = k := by rw [h1] at hxk; simpa using hxk
    subst this
    have hko : keyOf P (ρ.t 26) x.key = some (.int .i64 k') := by
      rw [hxk]; simp [keyOf, hk, mapKey, wf_i64 h2]
    unfold Go.WideElems.rd; rw [hko]; rfl
  have hown : w.ownsMap P (ρ.t 26) R r m.length (.map ((es.map (Go.WideElems.rg P (ρ.t 26) R)).foldr DataW.insert [])) := by
    refine ⟨es.toArray, clock, hes', ⟨?_, ⟨by simpa using hborn, by simpa using hnb, ?_⟩, ?_⟩, by simpa using Nat.le_of_eq hlen', by simp⟩
    · simp only [List.size_toArray, maxLen]; omega
    · have e1 : es.toArray.toList.map (·.key) = m.map (fun x => vint x.1) := by simpa using hkeys
      rw [e1]
      have e2 : m.map (fun x => vint x.1) = (m.map (·.1)).map vint := by simp
      rw [e2]
      exact List.pairwise_map.2 (List.Pairwise.imp (fun hne he => hne (by simpa using he)) hnd)
    · intro x hx
      have hx' : x ∈ es := by simpa using hx
      obtain ⟨k, h1, -⟩ := hkey x hx'
      exact ⟨_, hrd x hx' k h1⟩
  have hD : (intKeys (DataW.map ((es.map (Go.WideElems.rg P (ρ.t 26) R)).foldr DataW.insert []))).Perm (m.map (·.1)) := by
    show (((es.map (Go.WideElems.rg P (ρ.t 26) R)).foldr DataW.insert []).map fun p => Go.intOf p.1).Perm _
    refine (List.Perm.map _ (Go.WideShapes.sorted_perm _)).trans ?_
    have : (es.map (Go.WideElems.rg P (ρ.t 26) R)).map (fun p => Go.intOf p.1) = m.map (·.1) := by
      have h1 : (es.map (Go.WideElems.rg P (ρ.t 26) R)).map (fun p => Go.intOf p.1) = (es.map (fun e => e.key)).map (fun v => match v with | .int _ k => k | _ => 0) := by
        rw [List.map_map, List.map_map]
        refine List.map_congr_left fun x hx => ?_
        obtain ⟨k, h1, -⟩ := hkey x hx
        simp only [Function.comp, Go.WideElems.rg, hrd x hx k h1, Option.getD_some, Go.intOf, h1]
      rw [h1, hkeys, List.map_map]; rfl
    rw [this]
  have hsize : Maps.size (DataW.map ((es.map (Go.WideElems.rg P (ρ.t 26) R)).foldr DataW.insert [])) = m.length := by
    simp [Maps.size, length_sorted, hlen']
  have hblt : b < w.heap.size := by
    rcases Nat.lt_or_ge b w.heap.size with h | h
    · exact h
    · simp [World.cell?, Array.getElem?_eq_none h] at hcell
  have hseq := AnyZI.keys_gives (ρ := ρ) { L with } Fence.wide 2 trivial rfl (by omega) b r m.length _ w hblt hcell hown
  have hsorts : ∀ k, AnyZI.SortsIn P ρs Fence.wide k := fun k =>
    ⟨fun blk off cap ss W hH hblk hsz => by
        rw [← hm]; exact callsIn_wide.2 (AnyM.slices_Sort_int LM blk off cap ss W hH hblk hsz),
     fun p cap W => by rw [← hm]; exact callsIn_wide.2 (AnyM.slices_Sort_int_none LM p cap W)⟩
  have hS := AnyZI.sorted_in LS Fence.wide 5 trivial trivial trivial trivial rfl (by omega) (hsorts _) e9 (ρ.f 10) #[vptr b] trivial e10 _ _ (by rw [hsize, maxLen]; omega) (by rw [hsize]; omega) w hseq
  refine (callsIn_wide.1 hS).mono ?_
  rintro e w' ⟨v, ss, rfl, hp, hrow, -, hb⟩
  have hperm : ss.Perm (m.map (·.1)) := hp.trans hD
  have hss : (ss.mergeSort fun x y => decide (x ≤ y)) = sortI (m.map (·.1)) := mergeSort_of_perm_i hperm
  have hl : ss.length = m.length := by rw [hperm.length_eq]; simp
  rw [hss, hl] at hrow
  have hshape : ∃ a c, v = .slice a m.length c := by
    rcases hrow.2 with ⟨rfl, h0⟩ | ⟨g, cap, cur, rfl, -⟩
    · exact ⟨_, _, by rw [h0]⟩
    · exact ⟨_, _, rfl⟩
  refine ⟨v, _, ⟨hshape, rfl⟩, rfl, ?_, Keeps.below hb⟩
  exact St.own (sep_tail hs) hb hrow
open Go Go.Sort
theorem sortI_perm (l : List Int) : (sortI l).Perm l := List.mergeSort_perm _ _
theorem sortI_length (l : List Int) : (sortI l).length = l.length := (sortI_perm l).length_eq
theorem sortI_mem {l : List Int} {x : Int} : x ∈ sortI l ↔ x ∈ l := (sortI_perm l).mem_iff
theorem sort_fn {P : Program} {ρ : Go.Shelf.Ren} (LM : SlLaysM.n5 P ρ) (e : TypeId) (v : Value) (n : Nat) (xs : List Int) (hn : n < 4611686018427387904) :
  Fn P (ρ.f 5) #[v] [slR e 1 v n (xs.map vint)] fun u L => u = .tuple #[] ∧ L = [slR e 1 v n ((sortI xs).map vint)] := by
 intro F w hs
 have hs' : St ((fun h => ∃ y : List Value × (Nat × Nat) × (Option (Nat × Nat)), (y.2.2 = none ∧ v = .slice none 0 0 ∧ n = 0 ∧ xs = []) ∨ (∃ b cap, y.2.2 = some (b, cap) ∧ v = .slice (some ⟨b, 0, none⟩) n cap ∧ h b = some (.cells (List.toArray (xs.map vint ++ y.1)) e y.2.1) ∧ xs.length = n ∧ cap ≤ xs.length + y.1.length ∧ n ≤ cap ∧ nfz y.2.1 0 cap)) :: F) w := by
  refine sep_imp (fun h hp => ?_) hs
  rcases hp with ⟨h1, h2, h3⟩ | ⟨b, cap, rest, fr, h1, h2, h3, h4, h5, h6⟩
  ·exact ⟨([], (0, 0), none), .inl ⟨rfl, h1, h2, by simpa using h3⟩⟩
  ·exact ⟨(rest, fr, some (b, cap)), .inr ⟨b, cap, rfl, h1, h2, by simpa using h3, by simpa using h4, h5, by simpa using h6⟩⟩
 obtain ⟨⟨rest, fr, o⟩, h1, h2, hd, a1, a2, hp, hF⟩ := sep_ex hs'
 rcases hp with ⟨-, rfl, rfl, rfl⟩ | ⟨b, cap, -, rfl, p1, p2, p3, p4, p5⟩
 ·refine (AnyM.slices_Sort_int_none LM none 0 w).mono ?_
  rintro e w' ⟨rfl, rfl⟩
  refine ⟨_, _, ⟨rfl, rfl⟩, rfl, ?_, .refl _⟩
  have e : sortI [] = [] := List.eq_nil_of_length_eq_zero (List.mergeSort_perm _ _).length_eq
  rw [e]; exact hs
 ·subst p2
  have hb := a1 _ _ p1
  have hlt : b < w.heap.size := by
   rcases Nat.lt_or_ge b w.heap.size with h | h
   ·exact h
   ·simp [Array.getElem?_eq_none h] at hb
  have hH : Holds (Value.int .i64) w b 0 xs.toArray := by
   intro j hj
   have hj' : j < xs.length := by simpa using hj
   have hb' : w.heap[b]? = some (.cells (xs.map vint ++ rest).toArray e fr) := hb
   refine ⟨?_, ?_⟩
   ·simp only [World.cell?, hb', Nat.zero_add, Option.isSome_none, Bool.false_eq_true, if_false]
    rw [List.getElem?_toArray, List.getElem?_append_left (by simpa using hj')]
    simp [hj']
   ·have := p5 j (by omega) (by dsimp only at p3 p4 ⊢; omega)
    simp only [World.frozen?, hb', Nat.zero_add]
    simpa using this
  refine (AnyM.slices_Sort_int LM b 0 cap xs w hH hlt hn).mono ?_
  rintro en w' ⟨rfl, k, os, rfl⟩
  refine ⟨_, _, ⟨rfl, rfl⟩, rfl, ?_, ?_⟩
  ·have h2b : h2 b = none := (hd b).resolve_left (by rw [p1]; simp)
   have hsz : (sortI xs).length = xs.length := by rw [show (sortI xs).length = xs.length from (List.mergeSort_perm _ _).length_eq]
   have hnew : (grow (putRow (Value.int .i64) (Sort.ahead w k) b 0 (sortI xs).toArray) os).heap[b]? = some (.cells (putCells (Value.int .i64) 0 (sortI xs).toArray (xs.map vint ++ rest).toArray) e fr) := heap_sortedI _ hb
   have hrow : (putCells (Value.int .i64) 0 (sortI xs).toArray (xs.map vint ++ rest).toArray) = ((sortI xs).map vint ++ rest).toArray := by
    apply Array.ext_getElem?
    intro j
    simp only [putCells, Array.getElem?_mapIdx, List.getElem?_toArray, Nat.zero_le, true_and, Nat.zero_add, Nat.sub_zero, List.size_toArray]
    by_cases hj : j < xs.length
    ·rw [List.getElem?_append_left (by simpa using hj), List.getElem?_append_left (by simpa [hsz] using hj)]
     simp [hj, hsz]
    ·rw [List.getElem?_append_right (by simp; omega), List.getElem?_append_right (by simp [hsz]; omega)]
     simp [hj, hsz]
   refine ⟨fun c => if c = b then some (.cells ((sortI xs).map vint ++ rest).toArray e fr) else none, h2, fun c => ?_, fun c o e => ?_, fun c o hc => ?_, ?_, hF⟩
   ·by_cases e : c = b
    ·exact .inr (e ▸ h2b)
    ·exact .inl (if_neg e)
   ·by_cases hc : c = b
    ·subst hc; simp at e; subst e; rw [← hrow]; exact hnew
    ·simp [hc] at e
   ·have hcb : c ≠ b := by rintro rfl; rw [h2b] at hc; cases hc
    have hold := a2 _ _ hc
    have hclt : c < w.heap.size := by
     rcases Nat.lt_or_ge c w.heap.size with h | h
     ·exact h
     ·simp [Array.getElem?_eq_none h] at hold
    have := (grownBy_sortedI (w := w) (g := b) (n := k) (os := os) (sortI xs).toArray).block c hclt (fun e => hcb (by simpa using e))
    show (grow (putRow (Value.int .i64) (Sort.ahead w k) b 0 (sortI xs).toArray) os).heap[c]? = _
    rw [this]; exact hold
   ·exact .inr ⟨b, cap, rest, fr, rfl, if_pos rfl, by simp [hsz], by simpa [hsz] using p3, p4, by simpa using p5⟩
  ·refine ⟨rfl, rfl, rfl, ?_⟩
   show w.heap.size ≤ ((putRow (Value.int .i64) (Sort.ahead w k) b 0 _).heap ++ os).size
   simp [putRow, mapBlock, Sort.ahead]
open Go Go.RowKit Go.Maps Go.Sort Go.Shelf
abbrev leS : Bs → Bs → Bool := fun x y => decide (x ≤ y)
def sortS (l : List Bs) : List Bs := l.mergeSort leS
theorem keysS_fn {P : Program} {ρ : Ren} (L : SlLaysZ.n7 P ρ) (mb : Option Nat) : Fn P (ρ.f 7) #[.map mb] [] fun v Lp => ∃ b, v = .func (.func (ρ.f 10)) #[] #[vptr b] ∧ Lp = [ptc b [.map mb] (ρ.t 23)] := by
 intro F w hs
 refine (callsIn_wide.1 (AnyZ.keys_in L Fence.wide 1 trivial rfl mb w)).mono ?_
 rintro e w' ⟨rfl, rfl⟩
 exact ⟨_, _, ⟨_, rfl, rfl⟩, rfl, St.new (L := F) hs _, Keeps.new _ _⟩
theorem sortedS_fn {P : Program} {ρ ρs ρm : Ren} (L : SlLaysZ.n7 P ρ) (LS : SlLaysZ.n6 P ρs) (LM : SlLaysM.n6 P ρm) (hm : ρm.f 6 = ρs.f 9) (e9 : ∀ args w, (callFunc (ρs.f 9) args).run P w = .ok (.enter (ρs.f 9) args) w) (e10 : ∀ args w, (callFunc (ρ.f 10) args).run P w = .ok (.enter (ρ.f 10) args) w)
    (hk : P.underlying (ρ.t 26) = some .string) {b r : Nat} {T : TypeId} {β : Type} {enc : β → Value} (m : List (Bs × β)) (hnd : (m.map (·.1)).Nodup) (hbd : ∀ x ∈ m, x.1.length ≤ maxLen) (hlen : m.length ≤ 1099511627776) :
    Fn P (ρs.f 6) #[.func (.func (ρ.f 10)) #[] #[vptr b]] [ptc b [.map (some r)] T, mapR r (m.map fun x => (vstr x.1, enc x.2))] fun v Lp => (∃ a c, v = .slice a m.length c) ∧
      Lp = [slR (ρs.t 26) 1 v m.length (strs (sortS (m.map (·.1)))), mapR r (m.map fun x => (vstr x.1, enc x.2))] := by
  intro F w hs
  have hcell : w.cell? ⟨b, 0, none⟩ = some (.map (some r)) := cell_of (l := [Value.map (some r)]) (St.pt (L := _) hs) rfl
  obtain ⟨hr1, ar, es, clock, hes, hents, hborn, hnb⟩ := sep_head (sep_tail hs)
  have hes' := ar _ _ hes
  have hlen' : es.length = m.length := by have := congrArg List.length hents; simpa using this
  have hkeys : es.map (fun e => e.key) = m.map (fun x => vstr x.1) := by
    have := congrArg (List.map Prod.fst) hents; rw [List.map_map, List.map_map] at this; exact this
  let R : Value → Option (DataW Unit × List MemPlace) := fun _ => some (.lit (.bool true), [])
  have hkey : ∀ x ∈ es, ∃ k : Bs, x.key = vstr k ∧ k.length ≤ maxLen := by
    intro x hx
    have : x.key ∈ es.map (fun e => e.key) := List.mem_map_of_mem hx
    rw [hkeys] at this
    obtain ⟨y, hy, he⟩ := List.mem_map.1 this
    exact ⟨y.1, he.symm, hbd y hy⟩
  have hrd : ∀ x ∈ es, ∀ k, x.key = vstr k → Go.WideElems.rd P (ρ.t 26) R x = some (.string k, .lit (.bool true)) := by
    intro x hx k hxk
    obtain ⟨k', h1, h2⟩ := hkey x hx
    have : k' = k := by rw [h1] at hxk; simpa using hxk
    subst this
    have hko : keyOf P (ρ.t 26) x.key = some (.string k') := by
      rw [hxk]; simp [keyOf, hk, mapKey, vstr, bs]; exact (bs_size k').symm ▸ h2
    unfold Go.WideElems.rd; rw [hko]; rfl
  have hown : w.ownsMap P (ρ.t 26) R r m.length (.map ((es.map (Go.WideElems.rg P (ρ.t 26) R)).foldr DataW.insert [])) := by
    refine ⟨es.toArray, clock, hes', ⟨?_, ⟨by simpa using hborn, by simpa using hnb, ?_⟩, ?_⟩, by simpa using Nat.le_of_eq hlen', by simp⟩
    · simp only [List.size_toArray, maxLen]; omega
    · have e1 : es.toArray.toList.map (·.key) = m.map (fun x => vstr x.1) := by simpa using hkeys
      rw [e1]
      have e2 : m.map (fun x => vstr x.1) = (m.map (·.1)).map vstr := by simp
      rw [e2]
      exact List.pairwise_map.2 (List.Pairwise.imp (fun hne he => hne (by simpa [vstr, bs] using he)) hnd)
    · intro x hx
      have hx' : x ∈ es := by simpa using hx
      obtain ⟨k, h1, -⟩ := hkey x hx'
      exact ⟨_, hrd x hx' k h1⟩
  have hD : (strKeys (DataW.map ((es.map (Go.WideElems.rg P (ρ.t 26) R)).foldr DataW.insert []))).Perm (m.map (·.1)) := by
    show (((es.map (Go.WideElems.rg P (ρ.t 26) R)).foldr DataW.insert []).map fun p => Go.strOf p.1).Perm _
    refine (List.Perm.map _ (Go.WideShapes.sorted_perm _)).trans ?_
    have : (es.map (Go.WideElems.rg P (ρ.t 26) R)).map (fun p => Go.strOf p.1) = m.map (·.1) := by
      have h1 : (es.map (Go.WideElems.rg P (ρ.t 26) R)).map (fun p => Go.strOf p.1) = (es.map (fun e => e.key)).map (fun v => match v with | .string s => s.data.toList | _ => []) := by
        rw [List.map_map, List.map_map]
        refine List.map_congr_left fun x hx => ?_
        obtain ⟨k, h1, -⟩ := hkey x hx
        simp only [Function.comp, Go.WideElems.rg, hrd x hx k h1, Option.getD_some, Go.strOf, h1]
      rw [h1, hkeys, List.map_map]; rfl
    rw [this]
  have hsize : Maps.size (DataW.map ((es.map (Go.WideElems.rg P (ρ.t 26) R)).foldr DataW.insert [])) = m.length := by
    simp [Maps.size, length_sorted, hlen']
  have hblt : b < w.heap.size := by
    rcases Nat.lt_or_ge b w.heap.size with h | h
    · exact h
    · simp [World.cell?, Array.getElem?_eq_none h] at hcell
  have hseq := AnyZ.keys_gives (ρ := ρ) { L with } Fence.wide 2 trivial rfl (by omega) b r m.length _ w hblt hcell hown
  have hsorts : ∀ k, AnyZ.SortsIn P ρs Fence.wide k := fun k =>
    ⟨fun blk off cap ss W hH hblk hsz => by
        rw [← hm]; exact callsIn_wide.2 (AnyM.slices_Sort_string LM blk off cap ss W hH hblk hsz),
     fun p cap W => by rw [← hm]; exact callsIn_wide.2 (AnyM.slices_Sort_string_none LM p cap W)⟩
  have hS := AnyZ.sorted_in LS Fence.wide 5 trivial trivial trivial trivial rfl (by omega) (hsorts _) e9 (ρ.f 10) #[vptr b] trivial e10 _ _ (by rw [hsize, maxLen]; omega) (by rw [hsize]; omega) w hseq
  refine (callsIn_wide.1 hS).mono ?_
  rintro e w' ⟨v, ss, rfl, hp, hrow, -, hb⟩
  have hperm : ss.Perm (m.map (·.1)) := hp.trans hD
  have hss : (ss.mergeSort fun x y => decide (x ≤ y)) = sortS (m.map (·.1)) := mergeSort_of_perm hperm
  have hl : ss.length = m.length := by rw [hperm.length_eq]; simp
  rw [hss, hl] at hrow
  have hshape : ∃ a c, v = .slice a m.length c := by
    rcases hrow.2 with ⟨rfl, h0⟩ | ⟨g, cap, cur, rfl, -⟩
    · exact ⟨_, _, by rw [h0]⟩
    · exact ⟨_, _, rfl⟩
  refine ⟨v, _, ⟨hshape, rfl⟩, rfl, ?_, Keeps.below hb⟩
  exact St.own (sep_tail hs) hb hrow
theorem sortS_perm (l : List Bs) : (sortS l).Perm l := List.mergeSort_perm _ _
theorem sortS_length (l : List Bs) : (sortS l).length = l.length := (sortS_perm l).length_eq
theorem sortS_fn {P : Program} {ρ : Go.Shelf.Ren} (LM : SlLaysM.n6 P ρ) (e : TypeId) (v : Value) (n : Nat) (xs : List Bs) (hn : n < 4611686018427387904) :
  Fn P (ρ.f 6) #[v] [slR e 1 v n (strs xs)] fun u L => u = .tuple #[] ∧ L = [slR e 1 v n (strs (sortS xs))] := by
 intro F w hs
 have hs' : St ((fun h => ∃ y : List Value × (Nat × Nat) × (Option (Nat × Nat)), (y.2.2 = none ∧ v = .slice none 0 0 ∧ n = 0 ∧ xs = []) ∨ (∃ b cap, y.2.2 = some (b, cap) ∧ v = .slice (some ⟨b, 0, none⟩) n cap ∧ h b = some (.cells (List.toArray (strs xs ++ y.1)) e y.2.1) ∧ xs.length = n ∧ cap ≤ xs.length + y.1.length ∧ n ≤ cap ∧ nfz y.2.1 0 cap)) :: F) w := by
  refine sep_imp (fun h hp => ?_) hs
  rcases hp with ⟨h1, h2, h3⟩ | ⟨b, cap, rest, fr, h1, h2, h3, h4, h5, h6⟩
  ·exact ⟨([], (0, 0), none), .inl ⟨rfl, h1, h2, by simpa using h3⟩⟩
  ·exact ⟨(rest, fr, some (b, cap)), .inr ⟨b, cap, rfl, h1, h2, by simpa using h3, by simpa using h4, h5, by simpa using h6⟩⟩
 obtain ⟨⟨rest, fr, o⟩, h1, h2, hd, a1, a2, hp, hF⟩ := sep_ex hs'
 rcases hp with ⟨-, rfl, rfl, rfl⟩ | ⟨b, cap, -, rfl, p1, p2, p3, p4, p5⟩
 ·refine (AnyM.slices_Sort_string_none LM none 0 w).mono ?_
  rintro e w' ⟨rfl, rfl⟩
  refine ⟨_, _, ⟨rfl, rfl⟩, rfl, ?_, .refl _⟩
  have e : sortS [] = [] := List.eq_nil_of_length_eq_zero (List.mergeSort_perm _ _).length_eq
  rw [e]; exact hs
 ·subst p2
  have hb := a1 _ _ p1
  have hlt : b < w.heap.size := by
   rcases Nat.lt_or_ge b w.heap.size with h | h
   ·exact h
   ·simp [Array.getElem?_eq_none h] at hb
  have hH : Holds encStr w b 0 xs.toArray := by
   intro j hj
   have hj' : j < xs.length := by simpa using hj
   have hb' : w.heap[b]? = some (.cells (strs xs ++ rest).toArray e fr) := hb
   refine ⟨?_, ?_⟩
   ·simp only [World.cell?, hb', Nat.zero_add, Option.isSome_none, Bool.false_eq_true, if_false]
    rw [List.getElem?_toArray, List.getElem?_append_left (by simpa using hj')]
    simp [hj']
   ·have := p5 j (by omega) (by dsimp only at p3 p4 ⊢; omega)
    simp only [World.frozen?, hb', Nat.zero_add]
    simpa using this
  refine (AnyM.slices_Sort_string LM b 0 cap xs w hH hlt hn).mono ?_
  rintro en w' ⟨rfl, k, os, rfl⟩
  refine ⟨_, _, ⟨rfl, rfl⟩, rfl, ?_, ?_⟩
  ·have h2b : h2 b = none := (hd b).resolve_left (by rw [p1]; simp)
   have hsz : (sortS xs).length = xs.length := by rw [show (sortS xs).length = xs.length from (List.mergeSort_perm _ _).length_eq]
   have hnew : (grow (putRow encStr (Sort.ahead w k) b 0 (sortS xs).toArray) os).heap[b]? = some (.cells (putCells encStr 0 (sortS xs).toArray (strs xs ++ rest).toArray) e fr) := heap_sorted _ hb
   have hrow : (putCells encStr 0 (sortS xs).toArray (strs xs ++ rest).toArray) = (strs (sortS xs) ++ rest).toArray := by
    apply Array.ext_getElem?
    intro j
    simp only [putCells, Array.getElem?_mapIdx, List.getElem?_toArray, Nat.zero_le, true_and, Nat.zero_add, Nat.sub_zero, List.size_toArray]
    by_cases hj : j < xs.length
    ·rw [List.getElem?_append_left (by simpa using hj), List.getElem?_append_left (by simpa [hsz] using hj)]
     simp [hj, hsz]
    ·rw [List.getElem?_append_right (by simp; omega), List.getElem?_append_right (by simp [hsz]; omega)]
     simp [hj, hsz]
   refine ⟨fun c => if c = b then some (.cells (strs (sortS xs) ++ rest).toArray e fr) else none, h2, fun c => ?_, fun c o e => ?_, fun c o hc => ?_, ?_, hF⟩
   ·by_cases e : c = b
    ·exact .inr (e ▸ h2b)
    ·exact .inl (if_neg e)
   ·by_cases hc : c = b
    ·subst hc; simp at e; subst e; rw [← hrow]; exact hnew
    ·simp [hc] at e
   ·have hcb : c ≠ b := by rintro rfl; rw [h2b] at hc; cases hc
    have hold := a2 _ _ hc
    have hclt : c < w.heap.size := by
     rcases Nat.lt_or_ge c w.heap.size with h | h
     ·exact h
     ·simp [Array.getElem?_eq_none h] at hold
    have := (grownBy_sorted (w := w) (g := b) (n := k) (os := os) (sortS xs).toArray).block c hclt (fun e => hcb (by simpa using e))
    show (grow (putRow encStr (Sort.ahead w k) b 0 (sortS xs).toArray) os).heap[c]? = _
    rw [this]; exact hold
   ·exact .inr ⟨b, cap, rest, fr, rfl, if_pos rfl, by simp [hsz], by simpa [hsz] using p3, p4, by simpa using p5⟩
  ·refine ⟨rfl, rfl, rfl, ?_⟩
   show w.heap.size ≤ ((putRow encStr (Sort.ahead w k) b 0 _).heap ++ os).size
   simp [putRow, mapBlock, Sort.ahead]
def rangeR {α : Type} (f : α → Value × Value) (it r : Nat) (m s : List α) : HP := fun h => ∃ (zs ss rest : List (MapEntry × α)) (clock : Nat),
 h r = some (.map (zs.map (·.1)).toArray clock) ∧ h it = some (.mapIter (some r) clock (ss.map (·.1.born)).toArray clock) ∧ r ≠ it ∧ zs.map (·.2) = m ∧
 (∀ z ∈ zs, z.1.born < clock ∧ (z.1.key, z.1.val) = f z.2) ∧ (zs.map (·.1.born)).Nodup ∧ zs.Perm (ss ++ rest) ∧ ss.map (·.2) = s
theorem rangeR_map {α : Type} {f : α → Value × Value} {it r : Nat} {m s : List α} {h : Hp} (hr : rangeR f it r m s h) : mapR r (m.map f) h := by
 obtain ⟨zs, ss, rest, clock, h1, h2, h3, h4, h5, h6, h7, h8⟩ := hr
 refine ⟨zs.map (·.1), clock, h1, ?_, ?_, by rw [List.map_map]; exact h6⟩
 ·subst h4
  rw [List.map_map, List.map_map]
  exact List.map_congr_left fun z hz => (h5 z hz).2
 ·intro e he
  obtain ⟨z, hz, rfl⟩ := List.mem_map.1 he
  exact (h5 z hz).1
theorem getElem_erase_perm {α : Type} : ∀ {l : List α} {j : Nat} (hj : j < l.length), l.Perm (l[j] :: l.eraseIdx j) := by
 intro l
 induction l with
 | nil => intro j hj; simp at hj
 | cons a l ih =>
  intro j hj
  cases j with
  | zero => simp
  | succ j =>
   simp only [List.getElem_cons_succ, List.eraseIdx_cons_succ]
   exact (List.Perm.cons a (ih (by simpa using hj))).trans (List.Perm.swap _ _ _)
section
variable {P : Program} {E : Env} {L R : List HP} {ty : TypeId} {w : World}
theorem OpSpec.range {α : Type} {f : α → Value × Value} {m : List α} {t kt et : TypeId} {x : Operand} {r : Nat} {ents : List (Value × Value)} (hx : ev E x = some (.map (some r))) (ht : P.underlying t = some (.map kt et)) (he : ents = m.map f) :
  OpSpec P ⟨none, .range t x, ty, "", #[], none⟩ E [mapR r ents] fun v L' => ∃ it, v = vptr it ∧ L' = [rangeR f it r m []] := by
 intro ρ w F ha hs
 subst he
 obtain ⟨h1, a1, es, c, hb, hes, hbo, hnd⟩ := sep_head hs
 have hb' := a1 _ _ hb
 have hlt : r < w.heap.size := by
  rcases Nat.lt_or_ge r w.heap.size with h | h
  ·exact h
  ·simp [Array.getElem?_eq_none h] at hb'
 have hrun : (execOp ρ ⟨none, .range t x, ty, "", #[], none⟩).run P w = .ok (.value (vptr w.heap.size)) { w with heap := w.heap.push (.mapIter (some r) c #[] c) } := by
  refine run_v ?_
  show (Instr.range t (ρ x)).run P w = _
  rw [ha x _ hx]; exact Go.run_range_map w t kt et r _ _ ht hb'
 unfold Runs; rw [hrun]
 refine ⟨_, ⟨_, rfl, rfl⟩, ?_, Keeps.new _ _⟩
 have hn := St.new hs (.mapIter (some r) c #[] c)
 obtain ⟨g1, g2, gd, b1, b2, gp, k1, k2, kd, c1, c2, kp, kF⟩ := hn
 have kr : k1 r = some (.map es.toArray c) := by
  obtain ⟨es', c', q1, -⟩ := kp
  have q2 := b2 _ _ (c1 _ _ q1)
  have q3 : (w.heap.push (.mapIter (some r) c #[] c))[r]? = some (.map es.toArray c) := by
   rw [Array.getElem?_push_lt hlt]; rw [Array.getElem?_eq_getElem hlt] at hb'; exact hb'
  have q2' : (w.heap.push (.mapIter (some r) c #[] c))[r]? = some (.map es'.toArray c') := q2
  rw [q3] at q2'
  rw [q1, ← q2']
 refine ⟨hunion g1 k1, k2, fun b => ?_, fun b o e => ?_, fun b o e => b2 _ _ (c2 _ _ e), ?_, kF⟩
 ·cases e : k2 b with
  | none => exact .inr rfl
  | some o =>
   refine .inl ?_
   have e1 : g1 b = none := (gd b).resolve_right (by rw [c2 _ _ e]; simp)
   have e2 : k1 b = none := (kd b).resolve_right (by rw [e]; simp)
   simp [hunion, e1, e2]
 ·rcases hunion_some e with e | e
  ·exact b1 _ _ e
  ·exact b2 _ _ (c1 _ _ e)
 ·have hne : r ≠ w.heap.size := by omega
  have hgr : g1 r = none := (gd r).resolve_right (by rw [c1 _ _ kr]; simp)
  have hl : es.length = m.length := by have := congrArg List.length hes; simpa using this
  refine ⟨es.zip m, [], es.zip m, c, ?_, hunion_left gp, hne, ?_, ?_, ?_, by simp, rfl⟩
  ·rw [List.map_fst_zip (by omega)]
   simp [hunion, hgr, kr]
  ·rw [List.map_snd_zip (by omega)]
  ·intro z hz
   refine ⟨hbo _ (List.of_mem_zip hz).1, ?_⟩
   obtain ⟨i, hi, rfl⟩ := List.mem_iff_getElem.1 hz
   simp only [List.length_zip] at hi
   have := congrArg (fun l => l[i]?) hes
   simp [show i < es.length by omega, show i < m.length by omega] at this
   simpa using this
  ·have : (es.zip m).map (fun z => z.1.born) = ((es.zip m).map (·.1)).map (·.born) := by rw [List.map_map]; rfl
   rw [this, List.map_fst_zip (by omega)]; exact hnd
theorem perm_left {α : Type} {zs ss rest : List (MapEntry × α)} (hp : zs.Perm (ss ++ rest)) (hn : (zs.map (·.1.born)).Nodup) : (zs.map (·.1)).filter (fun e => !((ss.map (·.1.born)).toArray.contains e.born)) = (zs.filter fun z => !((ss.map (·.1.born)).contains z.1.born)).map (·.1) ∧
  (zs.filter fun z => !((ss.map (·.1.born)).contains z.1.born)).Perm rest := by
 constructor
 ·rw [List.filter_map]
  congr 1
  refine List.filter_congr fun z _ => ?_
  simp
 ·refine (hp.filter _).trans ?_
  rw [List.filter_append]
  have hn' : ((ss ++ rest).map (·.1.born)).Nodup := (hp.map _).nodup_iff.1 hn
  rw [List.map_append] at hn'
  obtain ⟨n1, n2, n3⟩ := List.nodup_append.1 hn'
  have e1 : ss.filter (fun z => !((ss.map (·.1.born)).contains z.1.born)) = [] := by
   rw [List.filter_eq_nil_iff]
   intro z hz
   have : (ss.map (·.1.born)).contains z.1.born = true := by rw [List.contains_eq_mem]; exact decide_eq_true (List.mem_map.2 ⟨z, hz, rfl⟩)
   rw [this]; simp
  have e2 : rest.filter (fun z => !((ss.map (·.1.born)).contains z.1.born)) = rest := by
   rw [List.filter_eq_self]
   intro z hz
   simp only [Bool.not_eq_true', List.contains_eq_mem, decide_eq_false_iff_not]
   intro hm
   exact n3 _ hm _ (List.mem_map.2 ⟨z, hz, rfl⟩) rfl
  rw [e1, e2, List.nil_append]
theorem OpSpec.next {α : Type} {f : α → Value × Value} {m s : List α} {x : Operand} {it r : Nat} (hx : ev E x = some (vptr it)) :
  OpSpec P ⟨none, .next x false, ty, "", #[], none⟩ E [rangeR f it r m s] fun v L' => (v = .tuple #[.bool false] ∧ m.Perm s ∧ L' = [rangeR f it r m s]) ∨
   ∃ y rest, v = .tuple #[.bool true, (f y).1, (f y).2] ∧ m.Perm (s ++ y :: rest) ∧ L' = [rangeR f it r m (s ++ [y])] := by
 intro ρ w F ha hs
 obtain ⟨h1, h2, hd, a1, a2, ⟨zs, ss, rest, clock, q1, q2, q3, q4, q5, q6, q7, q8⟩, hF⟩ := hs
 have hr := a1 _ _ q1
 have hi := a1 _ _ q2
 have hgr : ∀ {w' : World}, w'.heap[r]? = some (.map (zs.map (·.1)).toArray clock) → (getObj r).run P w' = .ok (.map (zs.map (·.1)).toArray clock) w' := fun h => run_getMap h
 have hgi : (getObj it).run P w = .ok (.mapIter (some r) clock (ss.map (·.1.born)).toArray clock) w := by
  simp only [getObj, Sem.run, hi]
 have hold : ∀ e ∈ (zs.map (·.1)).toArray.toList, e.born < clock := by
  intro e he
  simp only [List.mem_map] at he
  obtain ⟨z, hz, rfl⟩ := he
  exact (q5 z hz).1
 have htest := Go.next_test_false (ss.map (·.1.born)).toArray (zs.map (·.1)).toArray clock clock hold (Nat.le_refl _)
 obtain ⟨p1, p2⟩ := perm_left q7 q6
 have hleft : (zs.map (·.1)).toArray.filter (fun e => !(ss.map (·.1.born)).toArray.contains e.born) = ((zs.filter fun z => !((ss.map (·.1.born)).contains z.1.born)).map (·.1)).toArray := by
  rw [← p1, List.filter_toArray]
 generalize (zs.filter fun z => !((ss.map (·.1.born)).contains z.1.born)) = lft at p2 hleft
 have hmem : ∀ z ∈ lft, z ∈ zs := fun z hz => q7.mem_iff.2 (List.mem_append_right _ (p2.mem_iff.1 hz))
 have e1 : ((lft.map (·.1)).toArray).filter (fun x => decide (x.born < clock)) = (lft.map (·.1)).toArray := by
  apply Array.filter_eq_self.2
  intro e he
  simp only [List.mem_toArray, List.mem_map] at he
  obtain ⟨z, hz, rfl⟩ := he
  simpa using (q5 z (hmem z hz)).1
 have e2 : ((lft.map (·.1)).toArray).filter (fun x => decide (x.born ≥ clock)) = #[] := by
  rw [Array.filter_eq_empty_iff]
  intro e he
  simp only [List.mem_toArray, List.mem_map] at he
  obtain ⟨z, hz, rfl⟩ := he
  have := (q5 z (hmem z hz)).1
  simp; omega
 have hstart : (execOp ρ ⟨none, .next x false, ty, "", #[], none⟩).run P w = (do pure (Next.value (← Instr.next (vptr it) false ty)) : Sem Next).run P w := by
  show (do pure (Next.value (← Instr.next (ρ x) false ty)) : Sem Next).run P w = _
  rw [ha x _ hx]
 by_cases h0 : lft = []
 ·subst h0
  have hrun : (Instr.next (vptr it) false ty).run P w = .ok (.tuple #[.bool false]) w := by
   simp only [Instr.next, Sem.run_bind, hgi, Result.andThen, hgr hr, htest, Bool.false_eq_true, if_false, hleft, e1, e2]
   simp [choose, Sem.run, Question.forced]
  unfold Runs
  rw [hstart, run_v hrun]
  refine ⟨_, .inl ⟨rfl, ?_, rfl⟩, ⟨h1, h2, hd, a1, a2, ⟨zs, ss, rest, clock, q1, q2, q3, q4, q5, q6, q7, q8⟩, hF⟩, .refl _⟩
  have : rest = [] := p2.nil_eq.symm
  subst this
  rw [← q4, ← q8]
  simpa using q7.map (·.2)
 ·have hne : ((lft.map (·.1)).toArray).isEmpty = false := by
   cases lft with
   | nil => exact absurd rfl h0
   | cons a l => simp
  have hch : ∃ (j : Nat) (k : Nat), j < lft.length ∧ (choose (Question.mapNext lft.length)).run P w = .ok j { w with drawn := w.drawn + k } := by
   have h0' : 0 < lft.length := List.length_pos_iff.2 h0
   by_cases hf : lft.length ≤ 1
   ·exact ⟨0, 0, by omega, by simp [choose, Sem.run, Question.forced, hf]⟩
   ·exact ⟨_, 1, Nat.mod_lt _ (by omega), by
     simp only [choose, Sem.run, Question.forced, decide_eq_true_eq, hf, if_false, Question.cut]
     rfl⟩
  obtain ⟨j, k, hj, hrunc⟩ := hch
  have hitlt : it < w.heap.size := by
   rcases Nat.lt_or_ge it w.heap.size with h | h
   ·exact h
   ·simp [Array.getElem?_eq_none h] at hi
  have hrun : (Instr.next (vptr it) false ty).run P w = .ok (.tuple #[.bool true, lft[j].1.key, lft[j].1.val]) { w with drawn := w.drawn + k, heap := w.heap.setIfInBounds it (.mapIter (some r) clock ((ss.map (·.1.born)).toArray.push lft[j].1.born) clock) } := by
   simp only [Instr.next, Sem.run_bind, hgi, Result.andThen, hgr hr, htest, Bool.false_eq_true, if_false, hleft, e1, e2]
   simp only [Array.append_empty, hne, Bool.false_eq_true, if_false, Array.empty_append, Array.size_map, List.size_toArray, List.length_map, hrunc]
   simp only [Array.getElem?_map, List.getElem?_toArray, List.getElem?_map, List.getElem?_eq_getElem hj, Option.map_some]
   simp only [Sem.run_bind, setObj, Sem.run, hi, Result.andThen]
   rfl
  unfold Runs
  rw [hstart, run_v hrun]
  have hz : lft[j] ∈ lft := List.getElem_mem hj
  have hzz := q5 _ (hmem _ hz)
  have hkv : (f lft[j].2) = (lft[j].1.key, lft[j].1.val) := hzz.2.symm
  have hp3 : zs.Perm ((ss ++ [lft[j]]) ++ lft.eraseIdx j) := by
   refine q7.trans ?_
   rw [List.append_assoc]
   refine List.Perm.append_left _ (p2.symm.trans ?_)
   have : lft.Perm (lft[j] :: lft.eraseIdx j) := getElem_erase_perm hj
   exact this
  refine ⟨[rangeR f it r m (s ++ [lft[j].2])], .inr ⟨lft[j].2, (lft.eraseIdx j).map (·.2), by rw [hkv], ?_, rfl⟩, ?_, ⟨rfl, rfl, rfl, by simp⟩⟩
  ·rw [← q4, ← q8]
   have := hp3.map (·.2)
   simpa using this
  ·have h2it : h2 it = none := (hd it).resolve_left (by rw [q2]; simp)
   refine ⟨fun c => if c = it then some (.mapIter (some r) clock ((ss.map (·.1.born)).toArray.push lft[j].1.born) clock) else h1 c, h2, fun c => ?_, fun c o e => ?_, fun c o e => ?_, ?_, hF⟩
   ·by_cases e : c = it
    ·exact .inr (e ▸ h2it)
    ·simp only [e, if_false]; exact hd c
   ·by_cases hc : c = it
    ·subst hc; simp at e; subst e; simp [hitlt]
    ·simp only [hc, if_false] at e
     simp only [Array.getElem?_setIfInBounds, Ne.symm hc, if_false]
     exact a1 _ _ e
   ·have hc : c ≠ it := by rintro rfl; rw [h2it] at e; cases e
    simp only [Array.getElem?_setIfInBounds, Ne.symm hc, if_false]
    exact a2 _ _ e
   ·refine ⟨zs, ss ++ [lft[j]], lft.eraseIdx j, clock, by simp only [q3, if_false]; exact q1, by simp, q3, q4, q5, q6, hp3, by simp [q8]⟩
theorem Quiet.entry {α : Type} {f : α → Value × Value} {m s : List α} {x : Operand} {it r : Nat} {y : α} (hx : ev E x = some (vptr it)) (hL : Pick (rangeR f it r m (s ++ [y])) L R) :
  Quiet P ⟨none, .entry x, ty, "", #[], none⟩ E L (.tuple #[(f y).1, (f y).2]) := by
 intro ρ w ha hs
 obtain ⟨h1, a1, zs, ss, rest, clock, q1, q2, q3, q4, q5, q6, q7, q8⟩ := sep_head (hs.pick hL)
 have hr := a1 _ _ q1
 have hi := a1 _ _ q2
 refine run_v ?_
 show (Instr.entry (ρ x)).run P w = _
 rw [ha x _ hx]
 obtain ⟨ss', z, rfl, h8⟩ : ∃ ss' z, ss = ss' ++ [z] ∧ z.2 = y := by
  rcases List.eq_nil_or_concat ss with rfl | ⟨ss', z, rfl⟩
  ·simp at q8
  ·refine ⟨ss', z, by simp, ?_⟩
   simp at q8
   exact q8.2
 have hz : z ∈ zs := q7.mem_iff.2 (by simp)
 have hkv := (q5 z hz).2
 rw [h8] at hkv
 have hgi : (getObj it).run P w = .ok (.mapIter (some r) clock ((ss' ++ [z]).map (·.1.born)).toArray clock) w := by
  simp only [getObj, Sem.run, hi]
 have hback : ((ss' ++ [z]).map (·.1.born)).toArray.back? = some z.1.born := by simp
 have hf : (zs.map (·.1)).toArray.find? (·.born == z.1.born) = some z.1 := by
  rw [← Array.find?_toList]
  exact Go.find_born z.1 _ (by rw [List.map_map]; exact q6) (List.mem_map.2 ⟨z, hz, rfl⟩)
 simp only [Instr.entry, Sem.run_bind, hgi, Result.andThen, hback, run_getMap hr, bne_self_eq_false, Bool.false_eq_true, if_false, hf, ← hkv]
 rfl
theorem Quiet.entryE {α : Type} {f : α → Value × Value} {m s : List α} {x : Operand} {it r : Nat} {y : α} {v : Value} (hx : ev E x = some (vptr it)) (hL : Pick (rangeR f it r m (s ++ [y])) L R) (hv : Value.tuple #[(f y).1, (f y).2] = v) :
  Quiet P ⟨none, .entry x, ty, "", #[], none⟩ E L v := hv ▸ Quiet.entry hx hL
theorem G.rangeDone {W : World} {n : Nat} {ds : List Deferred} {X : Act → World → Prop} {α : Type} {f : α → Value × Value} {m s : List α} {it r : Nat} (hL : Pick (rangeR f it r m s) L R) (h : G W n ds E (mapR r (m.map f) :: R) X) : G W n ds E L X :=
 fun a w he hk hs => h a w he hk (sep_imp (fun _ hp => rangeR_map hp) (hs.pick hL))
end
structure Nd where
 data : Bs
 acl : List Ac
 st : Stt
instance : DecidableEq Nd := fun a b => decidable_of_iff (a.data = b.data ∧ a.acl = b.acl ∧ a.st = b.st) ⟨fun ⟨h1, h2, h3⟩ => by cases a; cases b; cases h1; cases h2; cases h3; rfl, fun h => by rw [h]; exact ⟨rfl, rfl, rfl⟩⟩
structure Tr where
 nodes : List (Bs × Nd)
 sess : List (Int × (Int × Bs))
 zx : Int
theorem Tr.ext' {a b : Tr} (h1 : a.nodes = b.nodes) (h2 : a.sess = b.sess) (h3 : a.zx = b.zx) : a = b := by
 cases a; cases b; cases h1; cases h2; cases h3; rfl
def ableZ (p : Bs) : Prop := p ≠ [47] ∧ checkZ p = 0
instance (p : Bs) : Decidable (ableZ p) := inferInstanceAs (Decidable (_ ∧ _))
def thereT (τ : Tr) (p : Bs) : Prop := (alook τ.nodes p).isSome = true
instance (τ : Tr) (p : Bs) : Decidable (thereT τ p) := inferInstanceAs (Decidable (_ = _))
def kidN (num zx : Int) (n : Nd) : Nd := { n with st := { n.st with cver := num, pz := zx } }
def setN (d : Bs) (num zx : Int) (n : Nd) : Nd := { n with data := d, st := { n.st with ver := num, mz := zx } }
def aclN (acl : List Ac) (num : Int) (n : Nd) : Nd := { n with acl := acl, st := { n.st with av := num } }
def newN (x : Pt) (zx : Int) : Nd := ⟨x.data, x.acl, { st0 with cz := zx, mz := zx, pz := zx, own := x.own }⟩
def kidT (τ : Tr) (p : Bs) (num zx : Int) : Tr := { τ with nodes := amod τ.nodes p (kidN num zx) }
def createZ (τ : Tr) (x : Pt) (zx : Int) : Tr × List Ev :=
 if ableZ x.path ∧ thereT τ (parentZ x.path) then
  (kidT { τ with nodes := sset τ.nodes x.path (newN x zx) } (parentZ x.path) x.num zx, [(if thereT τ x.path then 3 else 1, (x.path, zx)), (4, (parentZ x.path, zx))])
 else (τ, [])
def hitT (x p : Bs) : Bool := decide (x = p) || decide (underZ x p)
def cutT (τ : Tr) (p : Bs) : Tr := { τ with nodes := τ.nodes.filter fun y => !hitT y.1 p }
def eraseZ (τ : Tr) (x : Pt) (zx : Int) : Tr × List Ev :=
 if ableZ x.path then
  (kidT (cutT τ x.path) (parentZ x.path) x.num zx, if thereT τ x.path then (2, (x.path, zx)) :: (if thereT (cutT τ x.path) (parentZ x.path) then [(4, (parentZ x.path, zx))] else []) else [])
 else (τ, [])
def partZ (τ : Tr) (x : Pt) (zx : Int) : Tr × List Ev :=
 if x.kind = 1 then createZ τ x zx
 else if x.kind = 2 then eraseZ τ x zx
 else if x.kind = 3 ∧ thereT τ x.path then ({ τ with nodes := amod τ.nodes x.path (setN x.data x.num zx) }, [(3, (x.path, zx))])
 else if x.kind = 4 ∧ thereT τ x.path then ({ τ with nodes := amod τ.nodes x.path (aclN x.acl x.num) }, [])
 else (τ, [])
def partsZ (τ : Tr) (zx : Int) (l : List Pt) : Tr × List Ev := l.foldl (fun r x => ((partZ r.1 x zx).1, r.2 ++ (partZ r.1 x zx).2)) (τ, [])
theorem parts_snoc (τ : Tr) (zx : Int) (l : List Pt) (x : Pt) : partsZ τ zx (l ++ [x]) = ((partZ (partsZ τ zx l).1 x zx).1, (partsZ τ zx l).2 ++ (partZ (partsZ τ zx l).1 x zx).2) := by
 unfold partsZ; rw [List.foldl_append]; rfl
def isDel (x : Pt) : Bool := decide (x.kind = 2)
def dropS (τ : Tr) (id : Int) : Tr := { τ with sess := τ.sess.filter fun y => !decide (y.1 = id) }
def openS (τ : Tr) (id n : Int) (s : Bs) : Tr := { τ with sess := sset τ.sess id (n, s) }
def zxT (τ : Tr) (zx : Int) : Tr := { τ with zx := zx }
def applyZ (τ0 : Tr) (zx : Int) (x : Pt) (subs : List Pt) : Tr × (List Ev × Int) :=
 let τ := zxT τ0 zx
 if x.kind = 5 then (if 0 < x.own then openS τ x.own x.num x.data else τ, ([], 0))
 else if x.kind = 6 then (dropS (partsZ τ zx (subs.filter isDel)).1 x.own, ((partsZ τ zx (subs.filter isDel)).2, 0))
 else if x.kind = 7 then ((partsZ τ zx subs).1, ((partsZ τ zx subs).2, 0))
 else if x.kind = 8 then (τ, ([], x.err))
 else ((partZ τ x zx).1, ((partZ τ x zx).2, 0))
def kidsZ (τ : Tr) (p : Bs) : List Bs := (τ.nodes.filter fun y => !decide (y.1 = [47]) && decide (parentZ y.1 = p)).map fun y => baseZ y.1
def statZ (τ : Tr) (p : Bs) : Option Stt := (alook τ.nodes p).map fun n => { n.st with len := n.data.length, kids := (kidsZ τ p).length }
def pathsZ (τ : Tr) : List Bs := τ.nodes.map (·.1)
def ownedZ (τ : Tr) (s : Int) : List Bs := (τ.nodes.filter fun y => !decide (s = 0) && decide (y.2.st.own = s)).map (·.1)
def newT : Tr := ⟨[([47], ⟨[], [(31, [119, 111, 114, 108, 100])], st0⟩)], [], 0⟩
/-! ### What is always so -/
structure Tr.Ok (τ : Tr) (N : Nat) : Prop where
 sorted : SortedK τ.nodes
 ssorted : SortedK τ.sess
 few : τ.nodes.length ≤ N
 able : ∀ x ∈ τ.nodes, x.1 = [47] ∨ ableZ x.1
 ids : ∀ x ∈ τ.sess, 1 ≤ x.1
 acls : ∀ x ∈ τ.nodes, x.2.acl.length ≤ 1048576
 sfew : τ.sess.length ≤ N
theorem able_len {p : Bs} (h : p = [47] ∨ ableZ p) : p.length ≤ 60 := by
 rcases h with rfl | ⟨h1, h2⟩
 ·decide
 ·unfold checkZ at h2
  rw [if_neg h1] at h2
  split at h2
  ·cases h2
  ·split at h2
   ·cases h2
   ·omega
theorem Tr.Ok.more {τ : Tr} {N M : Nat} (h : τ.Ok N) (hm : N ≤ M) : τ.Ok M := { h with few := Nat.le_trans h.few hm, sfew := Nat.le_trans h.sfew hm }
theorem newT_ok : newT.Ok 1 := ⟨by unfold SortedK newT; simp, by unfold SortedK newT; simp, by simp [newT], by simp [newT], by simp [newT], by simp [newT], by simp [newT]⟩
theorem Tr.Ok.zx {τ : Tr} {N : Nat} (h : τ.Ok N) (z : Int) : (zxT τ z).Ok N := ⟨h.sorted, h.ssorted, h.few, h.able, h.ids, h.acls, h.sfew⟩
theorem amod_mem {K β : Type} [DecidableEq K] {l : List (K × β)} {k : K} {f : β → β} {x : K × β} (h : x ∈ amod l k f) : ∃ y ∈ l, y.1 = x.1 ∧ (x.2 = y.2 ∨ (y.1 = k ∧ x.2 = f y.2)) := by
 obtain ⟨y, hy, rfl⟩ := List.mem_map.1 h
 refine ⟨y, hy, ?_⟩
 split
 ·rename_i e; exact ⟨rfl, .inr ⟨e, rfl⟩⟩
 ·exact ⟨rfl, .inl rfl⟩
theorem sset_mem {K β : Type} [LT K] [DecidableEq K] [DecidableLT K] {l : List (K × β)} {k : K} {v : β} {x : K × β} (h : x ∈ sset l k v) : x = (k, v) ∨ x ∈ l := by
 induction l with
 | nil => simpa [sset] using h
 | cons y l ih =>
  unfold sset at h
  split at h
  ·rcases List.mem_cons.1 h with rfl | h
   ·exact .inl rfl
   ·exact .inr (List.mem_cons_of_mem _ h)
  ·split at h
   ·rcases List.mem_cons.1 h with rfl | h
    ·exact .inl rfl
    ·exact .inr h
   ·rcases List.mem_cons.1 h with rfl | h
    ·exact .inr List.mem_cons_self
    ·exact (ih h).imp id (List.mem_cons_of_mem _)
theorem Tr.Ok.mod {τ : Tr} {N : Nat} (h : τ.Ok N) (p : Bs) (f : Nd → Nd) (hf : ∀ n, (f n).acl.length ≤ 1048576 ∨ (f n).acl = n.acl) : ({ τ with nodes := amod τ.nodes p f } : Tr).Ok N := by
 refine ⟨h.sorted.amod p f, h.ssorted, by show (amod τ.nodes p f).length ≤ N; rw [amod_len]; exact h.few, fun x hx => ?_, h.ids, fun x hx => ?_, h.sfew⟩
 ·obtain ⟨y, hy, e, -⟩ := amod_mem hx
  rw [← e]; exact h.able y hy
 ·obtain ⟨y, hy, -, e | ⟨-, e⟩⟩ := amod_mem hx
  ·rw [e]; exact h.acls y hy
  ·rw [e]
   rcases hf y.2 with g | g
   ·exact g
   ·rw [g]; exact h.acls y hy
theorem Tr.Ok.kid {τ : Tr} {N : Nat} (h : τ.Ok N) (p : Bs) (num zx : Int) : (kidT τ p num zx).Ok N := h.mod p _ fun _ => .inr rfl
theorem Tr.Ok.lay {τ : Tr} {N : Nat} (h : τ.Ok N) {p : Bs} (hp : p = [47] ∨ ableZ p) (n : Nd) (hn : n.acl.length ≤ 1048576) : ({ τ with nodes := sset τ.nodes p n } : Tr).Ok (N + 1) := by
 refine ⟨h.sorted.sset linB p n, h.ssorted, ?_, fun x hx => ?_, h.ids, fun x hx => ?_, Nat.le_succ_of_le h.sfew⟩
 ·have := (sset_len τ.nodes p n).1
  have := h.few
  show (sset τ.nodes p n).length ≤ N + 1
  omega
 ·rcases sset_mem hx with rfl | hx
  ·exact hp
  ·exact h.able x hx
 ·rcases sset_mem hx with rfl | hx
  ·exact hn
  ·exact h.acls x hx
theorem Tr.Ok.cut {τ : Tr} {N : Nat} (h : τ.Ok N) (p : Bs) : (cutT τ p).Ok N :=
 ⟨h.sorted.filter _, h.ssorted, Nat.le_trans (List.length_filter_le _ _) h.few, fun x hx => h.able x (List.mem_filter.1 hx).1, h.ids, fun x hx => h.acls x (List.mem_filter.1 hx).1, h.sfew⟩
theorem Tr.Ok.part {τ : Tr} {N : Nat} (h : τ.Ok N) (x : Pt) (zx : Int) (hx : x.acl.length ≤ 1048576) : (partZ τ x zx).1.Ok (N + 1) := by
 unfold partZ
 split
 ·unfold createZ
  split
  ·rename_i g; exact (h.lay (.inr g.1) (newN x zx) hx).kid _ _ _
  ·exact h.more (Nat.le_add_right N 1)
 split
 ·unfold eraseZ
  split
  ·exact ((h.cut _).kid _ _ _).more (Nat.le_add_right N 1)
  ·exact h.more (Nat.le_add_right N 1)
 split
 ·exact (h.mod x.path (setN x.data x.num zx) fun _ => .inr rfl).more (Nat.le_add_right N 1)
 split
 ·exact (h.mod x.path (aclN x.acl x.num) fun _ => .inl hx).more (Nat.le_add_right N 1)
 ·exact h.more (Nat.le_add_right N 1)
theorem Tr.Ok.parts {τ : Tr} {N : Nat} (h : τ.Ok N) (zx : Int) (l : List Pt) (hl : ∀ x ∈ l, x.acl.length ≤ 1048576) : (partsZ τ zx l).1.Ok (N + l.length) := by
 have key : ∀ (l : List Pt) (r : Tr × List Ev) (N : Nat), r.1.Ok N → (∀ x ∈ l, x.acl.length ≤ 1048576) → (l.foldl (fun r x => ((partZ r.1 x zx).1, r.2 ++ (partZ r.1 x zx).2)) r).1.Ok (N + l.length) := by
  intro l
  induction l with
  | nil => intro r N h _; exact h
  | cons x l ih =>
   intro r N h hl
   rw [List.foldl_cons]
   refine (ih ((partZ r.1 x zx).1, r.2 ++ (partZ r.1 x zx).2) (N + 1) (h.part x zx (hl x (by simp))) (fun y hy => hl y (by simp [hy]))).more ?_
   rw [List.length_cons]; omega
 exact key l _ N h hl
theorem Tr.Ok.dropS {τ : Tr} {N : Nat} (h : τ.Ok N) (id : Int) : (dropS τ id).Ok N :=
 ⟨h.sorted, h.ssorted.filter _, h.few, h.able, fun x hx => h.ids x (List.mem_filter.1 hx).1, h.acls, Nat.le_trans (List.length_filter_le _ _) h.sfew⟩
theorem Tr.Ok.openS {τ : Tr} {N : Nat} (h : τ.Ok N) {id : Int} (hi : 0 < id) (n : Int) (s : Bs) : (openS τ id n s).Ok (N + 1) := by
 refine ⟨h.sorted, h.ssorted.sset linI _ _, Nat.le_succ_of_le h.few, h.able, fun x hx => ?_, h.acls, Nat.le_trans (sset_len τ.sess id (n, s)).1 (Nat.succ_le_succ h.sfew)⟩
 rcases sset_mem hx with rfl | hx
 ·dsimp only; omega
 ·exact h.ids x hx
theorem Tr.Ok.apply {τ : Tr} {N : Nat} (h : τ.Ok N) (zx : Int) (x : Pt) (subs : List Pt) (hx : x.acl.length ≤ 1048576) (hs : ∀ y ∈ subs, y.acl.length ≤ 1048576) : (applyZ τ zx x subs).1.Ok (N + 1 + subs.length) := by
 have h0 := h.zx zx
 unfold applyZ
 dsimp only
 split
 ·split
  ·rename_i g; exact (h0.openS g _ _).more (by omega)
  ·exact h0.more (by omega)
 split
 ·refine ((h0.parts zx (subs.filter isDel) fun y hy => hs y (List.mem_filter.1 hy).1).dropS _).more ?_
  have := List.length_filter_le isDel subs
  omega
 split
 ·exact (h0.parts zx subs hs).more (by omega)
 split
 ·exact h0.more (by omega)
 ·exact (h0.part x zx hx).more (by omega)
abbrev Nm := Nat × (Value × Nd)
abbrev NmM := List (Bs × Nm)
abbrev SsM := List (Int × (Int × Bs))
def ndC (v : Value) (n : Nd) : List Value := [vstr n.data, v, vint n.st.cz, vint n.st.mz, vint n.st.pz, vint n.st.ver, vint n.st.cver, vint n.st.av, vint n.st.own, vint n.st.len, vint n.st.kids]
def ndV (x : Nm) : Value := vptr x.1
def ssV (x : Int × Bs) : Value := .agg #[vint x.1, vstr x.2]
def ndE (m : NmM) : List (Value × Value) := m.map fun x => (vstr x.1, ndV x.2)
def ssE (s : SsM) : List (Value × Value) := s.map fun x => (vint x.1, ssV x.2)
def inN (x : Bs × Nm) : HP := fun h => ∃ _ : Unit, sep [ptc x.2.1 (ndC x.2.2.1 x.2.2.2) 109, rdO 2 x.2.2.1 x.2.2.2.acl.length (x.2.2.2.acl.flatMap acC)] h
structure TrI (τ : Tr) (m : NmM) (s : SsM) : Prop where
 keys : (m.map (·.1)).Nodup
 look : ∀ p, (alook m p).map (fun x : Nm => x.2.2) = alook τ.nodes p
 skeys : (s.map (·.1)).Nodup
 slook : ∀ i, alook s i = alook τ.sess i
def treeR (t : Nat) (τ : Tr) : HP := fun h => ∃ x : (Nat × Nat) × (NmM × SsM), TrI τ x.2.1 x.2.2 ∧ sep [ptc t [.map (some x.1.1), .map (some x.1.2), vint τ.zx] 113, mapR x.1.1 (ndE x.2.1), mapR x.1.2 (ssE x.2.2), bigR inN x.2.1] h
section
variable {W : World} {n : Nat} {ds : List Deferred} {E : Env} {L R : List HP} {X : Act → World → Prop}
theorem G.trOpen {t : Nat} {τ : Tr} (hL : Pick (treeR t τ) L R) (h : ∀ rn rs m s, TrI τ m s → G W n ds E (ptc t [.map (some rn), .map (some rs), vint τ.zx] 113 :: mapR rn (ndE m) :: mapR rs (ssE s) :: bigR inN m :: R) X) : G W n ds E L X :=
 G.focus hL (G.open (q := fun x : (Nat × Nat) × (NmM × SsM) => [ptc t [.map (some x.1.1), .map (some x.1.2), vint τ.zx] 113, mapR x.1.1 (ndE x.2.1), mapR x.1.2 (ssE x.2.2), bigR inN x.2.1]) (φ := fun x : (Nat × Nat) × (NmM × SsM) => TrI τ x.2.1 x.2.2) (fun _ hp => hp) fun x hx => h x.1.1 x.1.2 x.2.1 x.2.2 hx)
theorem G.trFold {t rn rs : Nat} {τ : Tr} {m : NmM} {s : SsM} {l : List Value} {e1 e2 : List (Value × Value)} (hI : TrI τ m s) (hL : Picks [ptc t l 113, mapR rn e1, mapR rs e2, bigR inN m] L R) (hl : l = [.map (some rn), .map (some rs), vint τ.zx]) (h1 : e1 = ndE m) (h2 : e2 = ssE s)
  (h : G W n ds E (treeR t τ :: R) X) : G W n ds E L X := by
 subst hl; subst h1; subst h2
 exact G.fold hL (fun _ hp => ⟨((rn, rs), (m, s)), hI, hp⟩) h
theorem G.trCast {t : Nat} {τ τ' : Tr} (hL : Pick (treeR t τ) L R) (hw : τ' = τ) (h : G W n ds E (treeR t τ' :: R) X) : G W n ds E L X := by
 subst hw; exact G.focus hL h
theorem G.ndOpen {x : Bs × Nm} (hL : Pick (inN x) L R) (h : G W n ds E (ptc x.2.1 (ndC x.2.2.1 x.2.2.2) 109 :: rdO 2 x.2.2.1 x.2.2.2.acl.length (x.2.2.2.acl.flatMap acC) :: R) X) : G W n ds E L X :=
 G.focus hL (G.open (q := fun _ : Unit => [ptc x.2.1 (ndC x.2.2.1 x.2.2.2) 109, rdO 2 x.2.2.1 x.2.2.2.acl.length (x.2.2.2.acl.flatMap acC)]) (φ := fun _ => True) (fun _ hp => let ⟨u, hs⟩ := hp; ⟨u, trivial, hs⟩) fun _ _ => h)
theorem G.ndFold {x : Bs × Nm} {l : List Value} {k : Nat} {v : Value} {ys : List Value} (hL : Picks [ptc x.2.1 l 109, rdO 2 v k ys] L R) (hl : l = ndC x.2.2.1 x.2.2.2) (hv : v = x.2.2.1) (hk : k = x.2.2.2.acl.length) (hy : ys = x.2.2.2.acl.flatMap acC)
  (h : G W n ds E (inN x :: R) X) : G W n ds E L X := by
 subst hl; subst hv; subst hk; subst hy
 exact G.fold hL (fun _ hp => ⟨(), hp⟩) h
end
/-! ### Who keeps it -/
theorem TrI.at {τ : Tr} {m : NmM} {s : SsM} (h : TrI τ m s) {p : Bs} {x : Nm} (hx : alook m p = some x) : alook τ.nodes p = some x.2.2 := by rw [← h.look, hx]; rfl
theorem TrI.none_iff {τ : Tr} {m : NmM} {s : SsM} (h : TrI τ m s) {p : Bs} : alook m p = none ↔ ¬ thereT τ p := by
 unfold thereT; rw [← h.look]; cases alook m p <;> simp
theorem TrI.some_iff {τ : Tr} {m : NmM} {s : SsM} (h : TrI τ m s) {p : Bs} {x : Nm} (hx : alook m p = some x) : thereT τ p := by
 unfold thereT; rw [← h.look, hx]; rfl
theorem TrI.zx {τ : Tr} {m : NmM} {s : SsM} (h : TrI τ m s) (z : Int) : TrI (zxT τ z) m s := ⟨h.keys, h.look, h.skeys, h.slook⟩
theorem TrI.mod {τ : Tr} {m : NmM} {s : SsM} (h : TrI τ m s) {p : Bs} {x y : Nm} (hx : alook m p = some x) (f : Nd → Nd) (hy : y.2.2 = f x.2.2) : TrI { τ with nodes := amod τ.nodes p f } (aset m p y) s := by
 refine ⟨nodup_aset h.keys _ _, fun q => ?_, h.skeys, h.slook⟩
 show _ = alook (amod τ.nodes p f) q
 rw [al_aset, al_amod, ← h.look q]
 by_cases e : q = p
 ·subst e; rw [if_pos rfl, if_pos rfl, hx]; simp [hy]
 ·rw [if_neg e, if_neg e]
theorem amod_none {K β : Type} [DecidableEq K] {l : List (K × β)} {k : K} (h : alook l k = none) (f : β → β) : amod l k f = l := by
 have hk := al_none.1 h
 unfold amod
 conv => rhs; rw [← List.map_id l]
 refine List.map_congr_left fun x hx => ?_
 rw [if_neg (fun e => hk (List.mem_map.2 ⟨x, hx, e⟩))]; rfl
theorem TrI.kidN {τ : Tr} {m : NmM} {s : SsM} (h : TrI τ m s) {p : Bs} (hx : alook m p = none) (f : Nd → Nd) : ({ τ with nodes := amod τ.nodes p f } : Tr) = τ := by
 have : alook τ.nodes p = none := by rw [← h.look, hx]; rfl
 rw [amod_none this]
theorem TrI.lay {τ : Tr} {m : NmM} {s : SsM} (h : TrI τ m s) (p : Bs) (x : Nm) : TrI { τ with nodes := sset τ.nodes p x.2.2 } (aset m p x) s := by
 refine ⟨nodup_aset h.keys _ _, fun q => ?_, h.skeys, h.slook⟩
 show _ = alook (sset τ.nodes p x.2.2) q
 rw [al_aset, al_sset, ← h.look q]
 by_cases e : q = p
 ·subst e; rw [if_pos rfl, if_pos rfl]; rfl
 ·rw [if_neg e, if_neg e]
theorem TrI.open {τ : Tr} {m : NmM} {s : SsM} (h : TrI τ m s) (id n : Int) (c : Bs) : TrI (openS τ id n c) m (aset s id (n, c)) := by
 refine ⟨h.keys, h.look, nodup_aset h.skeys _ _, fun i => ?_⟩
 show _ = alook (sset τ.sess id (n, c)) i
 rw [al_aset, al_sset, h.slook]
theorem TrI.drop {τ : Tr} {m : NmM} {s : SsM} (h : TrI τ m s) (id : Int) : TrI (dropS τ id) m (adel s id) := by
 refine ⟨h.keys, h.look, nodup_adel h.skeys _, fun i => ?_⟩
 show _ = alook (τ.sess.filter fun y => !decide (y.1 = id)) i
 rw [al_adel h.skeys, al_filter (fun k => !decide (k = id)), h.slook]
 by_cases e : i = id
 ·subst e; simp
 ·simp [e]
theorem TrI.perm {τ : Tr} {m : NmM} {s : SsM} (h : TrI τ m s) {N : Nat} (ho : τ.Ok N) : (m.map (·.1)).Perm (pathsZ τ) := by
 refine (List.perm_ext_iff_of_nodup h.keys (ho.sorted.nodup linB)).2 fun p => ?_
 rw [← al_isSome, ← al_isSome, ← h.look]; simp
theorem TrI.len {τ : Tr} {m : NmM} {s : SsM} (h : TrI τ m s) {N : Nat} (ho : τ.Ok N) : m.length = τ.nodes.length := by
 have := (h.perm ho).length_eq
 simpa [pathsZ] using this
theorem TrI.sperm {τ : Tr} {m : NmM} {s : SsM} (h : TrI τ m s) {N : Nat} (ho : τ.Ok N) : s.Perm τ.sess :=
 al_ext_perm h.skeys (ho.ssorted.nodup linI) h.slook
theorem sortS_id {l : List Bs} (h : l.Pairwise (· < ·)) : sortS l = l := by
 unfold sortS
 refine List.mergeSort_of_pairwise (h.imp fun hab => ?_)
 simp only [leS, decide_eq_true_eq]; exact List.le_of_lt hab
theorem sortS_of_perm {l l' : List Bs} (h : l.Perm l') : sortS l = sortS l' := mergeSort_of_perm h
theorem TrI.paths {τ : Tr} {m : NmM} {s : SsM} (h : TrI τ m s) {N : Nat} (ho : τ.Ok N) : sortS (m.map (·.1)) = pathsZ τ := by
 rw [sortS_of_perm (h.perm ho)]; exact sortS_id ho.sorted
theorem TrI.plen {τ : Tr} {m : NmM} {s : SsM} (h : TrI τ m s) {N : Nat} (ho : τ.Ok N) : ∀ x ∈ m, x.1.length ≤ 60 := fun x hx => by
 have h1 : alook τ.nodes x.1 = some x.2.2.2 := h.at (al_of_mem h.keys hx)
 exact able_len (ho.able _ (al_mem h1))
theorem TrI.acl {τ : Tr} {m : NmM} {s : SsM} (h : TrI τ m s) {N : Nat} (ho : τ.Ok N) {p : Bs} {x : Nm} (hx : alook m p = some x) : x.2.2.acl.length ≤ 1048576 := ho.acls _ (al_mem (h.at hx))
theorem ndE_set {m : NmM} {p : Bs} {x y : Nm} (h : alook m p = some x) (hp : y.1 = x.1) : ndE (aset m p y) = ndE m := aset_map h (by simp [ndV, hp])
theorem hit_del {τ : Tr} {m : NmM} {s : SsM} (h : TrI τ m s) {q p : Bs} : TrI { τ with nodes := τ.nodes.filter fun y => !decide (y.1 = q) } (adel m q) s ∧ p = p := by
 refine ⟨⟨nodup_adel h.keys _, fun r => ?_, h.skeys, h.slook⟩, rfl⟩
 show _ = alook (τ.nodes.filter fun y => !decide (y.1 = q)) r
 rw [al_adel h.keys, al_filter (fun k => !decide (k = q)), ← h.look r]
 by_cases e : r = q
 ·subst e; simp
 ·simp [e]
def cutL (τ : Tr) (p : Bs) (l : List Bs) : Tr := { τ with nodes := τ.nodes.filter fun y => !(decide (y.1 ∈ l) && hitT y.1 p) }
theorem cutL_nil (τ : Tr) (p : Bs) : cutL τ p [] = τ := Tr.ext' (List.filter_eq_self.2 fun _ _ => by simp) rfl rfl
theorem cutL_all (τ : Tr) (p : Bs) : cutL τ p (pathsZ τ) = cutT τ p := by
 refine Tr.ext' ?_ rfl rfl
 show τ.nodes.filter _ = τ.nodes.filter _
 refine List.filter_congr fun y hy => ?_
 have : y.1 ∈ pathsZ τ := List.mem_map_of_mem hy
 simp [this]
theorem cutL_skip (τ : Tr) {p q : Bs} (l : List Bs) (h : hitT q p = false) : cutL τ p (l ++ [q]) = cutL τ p l := by
 refine Tr.ext' ?_ rfl rfl
 show τ.nodes.filter _ = τ.nodes.filter _
 refine List.filter_congr fun y _ => ?_
 by_cases e : y.1 = q
 ·rw [e, h]; simp
 ·simp [e]
theorem cutL_hit (τ : Tr) {p q : Bs} (l : List Bs) (h : hitT q p = true) : cutL τ p (l ++ [q]) = { cutL τ p l with nodes := (cutL τ p l).nodes.filter fun y => !decide (y.1 = q) } := by
 refine Tr.ext' ?_ rfl rfl
 show τ.nodes.filter _ = (τ.nodes.filter _).filter _
 rw [List.filter_filter]
 refine List.filter_congr fun y _ => ?_
 by_cases e : y.1 = q
 ·rw [e, h]; simp
 ·simp [e]
theorem TrI.del {τ : Tr} {m : NmM} {s : SsM} (h : TrI τ m s) (q : Bs) : TrI { τ with nodes := τ.nodes.filter fun y => !decide (y.1 = q) } (adel m q) s := (hit_del (p := q) h).1
/-! ### Kids -/
theorem lt_cut : ∀ (c : Bs) {x y : Bs}, c ++ x < c ++ y ↔ x < y
 | [], _, _ => Iff.rfl
 | a :: c, x, y => by
  rw [List.cons_append, List.cons_append, List.cons_lt_cons_iff]
  constructor
  ·rintro (h | ⟨-, h⟩)
   ·exact absurd h (UInt8.lt_irrefl a)
   ·exact (lt_cut c).1 h
  ·intro h; exact .inr ⟨rfl, (lt_cut c).2 h⟩
def preZ (p : Bs) : Bs := p.take (lidxZ p).toNat
theorem split_cons (c : UInt8) (r : Bs) : splitZ (c :: r) = if c = 47 then [] :: splitZ r else match splitZ r with
  | h :: t => (c :: h) :: t
  | [] => [[c]] := rfl
theorem able_cut {p : Bs} (h : ableZ p) : 0 ≤ lidxZ p ∧ preZ p ≠ [47] ∧ p = preZ p ++ 47 :: baseZ p ∧ isNameZ (baseZ p) = true := by
 obtain ⟨h1, h2⟩ := h
 unfold checkZ at h2
 rw [if_neg h1] at h2
 have h3 : ¬ ((splitZ p).head? ≠ some [] ∨ (splitZ p).length = 1 ∨ (splitZ p).tail.all isNameZ = false) := by
  intro g; rw [if_pos g] at h2; cases h2
 have hlen : (splitZ p).length ≠ 1 := fun e => h3 (.inr (.inl e))
 have hall : (splitZ p).tail.all isNameZ = true := by
  cases e : (splitZ p).tail.all isNameZ with
  | true => rfl
  | false => exact absurd (.inr (.inr e)) h3
 have hmem : (47 : UInt8) ∈ p := by
  apply Decidable.byContradiction
  intro g
  exact hlen (by rw [split_none g]; rfl)
 have h0 : 0 ≤ lidxZ p := by
  apply Decidable.byContradiction
  intro g
  obtain ⟨i, hi, e⟩ := List.mem_iff_getElem.1 hmem
  have key : ∀ n, n ≤ p.length → lidxTo p n < 0 → ∀ j, j < n → p.getD j 0 ≠ 47 := by
   intro n
   induction n with
   | zero => intro _ _ j hj; omega
   | succ n ih =>
    intro hn hl j hj
    unfold lidxTo at hl
    split at hl
    ·omega
    ·rename_i hne
     by_cases hjn : j = n
     ·subst hjn; exact hne
     ·exact ih (by omega) hl j (by omega)
  refine key p.length (Nat.le_refl _) (by show lidxZ p < 0; omega) i hi ?_
  rw [List.getD_eq_getElem?_getD, List.getElem?_eq_getElem hi, Option.getD_some]; exact e
 obtain ⟨c1, c2⟩ := cut_last h0
 have hb : baseZ p = p.drop ((lidxZ p).toNat + 1) := by unfold baseZ; rw [show (lidxZ p + 1).toNat = (lidxZ p).toNat + 1 by omega]
 have c3 : p = preZ p ++ 47 :: baseZ p := by rw [hb]; exact c1
 have hsn : ∀ (a b : Bs), (47 : UInt8) ∉ b → splitZ (a ++ 47 :: b) = splitZ a ++ [b] := by
  intro a b hb
  induction a with
  | nil => rw [List.nil_append, split_cons, if_pos rfl, split_none hb]; rfl
  | cons c a ih =>
   rw [List.cons_append, split_cons, split_cons]
   by_cases hc : c = 47
   ·rw [if_pos hc, if_pos hc, ih]; rfl
   ·rw [if_neg hc, if_neg hc, ih]
    rcases e : splitZ a with _ | ⟨u, v⟩
    ·exact absurd e (splitZ_ne a)
    ·rfl
 have hspl := hsn (preZ p) (baseZ p) (by rw [hb]; exact c2)
 rw [← c3] at hspl
 refine ⟨h0, fun e => ?_, c3, ?_⟩
 ·rw [e] at hspl
  rw [hspl] at hall
  have : splitZ [47] = [[], []] := by decide
  rw [this] at hall
  simp [isNameZ] at hall
 ·rw [hspl] at hall
  rcases e : splitZ (preZ p) with _ | ⟨u, v⟩
  ·exact absurd e (splitZ_ne _)
  ·rw [e] at hall
   simp at hall
   exact hall.2
theorem able_parent {p : Bs} (h : ableZ p) : parentZ p = if preZ p = [] then [47] else preZ p := by
 obtain ⟨h0, -, h2, -⟩ := able_cut h
 unfold parentZ
 rw [if_neg (by rintro (g | g); omega; exact h.1 g)]
 have hr := lidx_range p
 by_cases hz : lidxZ p = 0
 ·rw [if_pos hz, if_pos (by unfold preZ; rw [hz]; rfl)]
 ·rw [if_neg hz, if_neg]
  ·rfl
  ·intro e
   have := congrArg List.length e
   unfold preZ at this
   rw [List.length_take] at this
   simp only [List.length_nil] at this
   omega
theorem kid_lt {a b : Bs} (ha : ableZ a) (hb : ableZ b) (hp : parentZ a = parentZ b) : a < b ↔ baseZ a < baseZ b := by
 obtain ⟨-, a1, a2, -⟩ := able_cut ha
 obtain ⟨-, b1, b2, -⟩ := able_cut hb
 have e : preZ a = preZ b := by
  rw [able_parent ha, able_parent hb] at hp
  by_cases x : preZ a = []
  ·rw [if_pos x] at hp
   by_cases y : preZ b = []
   ·rw [x, y]
   ·rw [if_neg y] at hp; exact absurd hp.symm b1
  ·rw [if_neg x] at hp
   by_cases y : preZ b = []
   ·rw [if_pos y] at hp; exact absurd hp a1
   ·rw [if_neg y] at hp; exact hp
 constructor
 ·intro h
  rw [a2, b2, e, lt_cut, List.cons_lt_cons_iff] at h
  rcases h with h | ⟨-, h⟩
  ·exact absurd h (UInt8.lt_irrefl _)
  ·exact h
 ·intro h
  rw [a2, b2, e, lt_cut, List.cons_lt_cons_iff]
  exact .inr ⟨rfl, h⟩
theorem kids_sorted {τ : Tr} {N : Nat} (ho : τ.Ok N) (p : Bs) : (kidsZ τ p).Pairwise (· < ·) := by
 unfold kidsZ
 rw [List.pairwise_map]
 have hs : (τ.nodes.filter fun y => !decide (y.1 = [47]) && decide (parentZ y.1 = p)).Pairwise (fun x y => x.1 < y.1) := List.pairwise_map.1 (ho.sorted.filter _)
 refine List.Pairwise.imp_of_mem ?_ hs
 intro x y hx hy hlt
 obtain ⟨x1, x2⟩ := List.mem_filter.1 hx
 obtain ⟨y1, y2⟩ := List.mem_filter.1 hy
 simp at x2 y2
 exact (kid_lt ((ho.able x x1).resolve_left x2.1) ((ho.able y y1).resolve_left y2.1) (by rw [x2.2, y2.2])).1 hlt
def kidsM (m : NmM) (p : Bs) : List Bs := (m.filter fun y => !decide (y.1 = [47]) && decide (parentZ y.1 = p)).map fun y => baseZ y.1
theorem kids_of_keys {β : Type} (l : List (Bs × β)) (p : Bs) : (l.filter fun y => !decide (y.1 = [47]) && decide (parentZ y.1 = p)).map (fun y => baseZ y.1) = ((l.map (·.1)).filter fun q => !decide (q = [47]) && decide (parentZ q = p)).map baseZ := by
 rw [List.filter_map, List.map_map]; rfl
theorem TrI.kids {τ : Tr} {m : NmM} {s : SsM} (h : TrI τ m s) {N : Nat} (ho : τ.Ok N) (p : Bs) : sortS (kidsM m p) = kidsZ τ p := by
 have hp : (kidsM m p).Perm (kidsZ τ p) := by
  unfold kidsM kidsZ
  rw [kids_of_keys, kids_of_keys]
  exact ((h.perm ho).filter _).map _
 rw [sortS_of_perm hp]; exact sortS_id (kids_sorted ho p)
theorem kidsM_len (m : NmM) (p : Bs) : (kidsM m p).length ≤ m.length := by
 unfold kidsM; rw [List.length_map]; exact List.length_filter_le _ _
theorem big_del {K β : Type} [DecidableEq K] {f : K × β → HP} {m : List (K × β)} (k : K) {h : Hp} (hs : bigR f m h) : bigR f (adel m k) h := by
 rcases e : alook m k with _ | b
 ·rw [adel_none e]; exact hs
 ·obtain ⟨h1, h2, -, -, a2, -, hp⟩ := big_take e hs
  obtain ⟨g1, g2, -, b1, -, hq, -⟩ := hp
  exact sep_mono hq fun c o hc => a2 _ _ (b1 _ _ hc)
theorem G.bigDel {W : World} {n : Nat} {ds : List Deferred} {E : Env} {L R : List HP} {X : Act → World → Prop} {K β : Type} [DecidableEq K] {f : K × β → HP} {m : List (K × β)} (k : K) (hL : Pick (bigR f m) L R) (h : G W n ds E (bigR f (adel m k) :: R) X) : G W n ds E L X :=
 fun a w he hk hs => h a w he hk (sep_imp (fun _ hp => big_del k hp) (hs.pick hL))
theorem kid_there {τ : Tr} {p q : Bs} {num zx : Int} : thereT (kidT τ p num zx) q ↔ thereT τ q := by
 unfold thereT kidT
 dsimp only
 rw [al_amod]
 split
 ·cases alook τ.nodes q <;> simp
 ·exact Iff.rfl
theorem part_ev (τ : Tr) (x : Pt) (zx : Int) : (partZ τ x zx).2.length ≤ 2 := by
 unfold partZ createZ eraseZ
 repeat' split
 all_goals simp
theorem parts_ev (τ : Tr) (zx : Int) (l : List Pt) : (partsZ τ zx l).2.length ≤ 2 * l.length := by
 have key : ∀ (l : List Pt) (r : Tr × List Ev), (l.foldl (fun r x => ((partZ r.1 x zx).1, r.2 ++ (partZ r.1 x zx).2)) r).2.length ≤ r.2.length + 2 * l.length := by
  intro l
  induction l with
  | nil => intro r; simp
  | cons x l ih =>
   intro r
   rw [List.foldl_cons]
   refine Nat.le_trans (ih _) ?_
   have := part_ev r.1 x zx
   dsimp only
   rw [List.length_append, List.length_cons]
   omega
 have := key l (τ, [])
 simpa [partsZ] using this
theorem filter_take_yes {f : Pt → Bool} {l : List Pt} {i : Nat} (hi : i < l.length) (h : f l[i] = true) : (l.take (i + 1)).filter f = (l.take i).filter f ++ [l[i]] := by
 rw [List.take_succ_eq_append_getElem hi, List.filter_append]; simp [h]
theorem filter_take_no {f : Pt → Bool} {l : List Pt} {i : Nat} (hi : i < l.length) (h : f l[i] = false) : (l.take (i + 1)).filter f = (l.take i).filter f := by
 rw [List.take_succ_eq_append_getElem hi, List.filter_append]; simp [h]
/-! ### Two trees the same -/
instance : DecidableEq Tr := fun a b => decidable_of_iff (a.nodes = b.nodes ∧ a.sess = b.sess ∧ a.zx = b.zx) ⟨fun ⟨h1, h2, h3⟩ => Tr.ext' h1 h2 h3, fun h => by rw [h]; exact ⟨rfl, rfl, rfl⟩⟩
def statD (τ : Tr) (p : Bs) : Stt := (statZ τ p).getD st0
def dataD (τ : Tr) (p : Bs) : Bs := ((alook τ.nodes p).map (·.data)).getD []
theorem TrI.stat {τ : Tr} {m : NmM} {s : SsM} (h : TrI τ m s) {p : Bs} {x : Nm} (hx : alook m p = some x) : statD τ p = { x.2.2.st with len := x.2.2.data.length, kids := (kidsZ τ p).length } := by
 unfold statD statZ; rw [h.at hx]; rfl
theorem TrI.stat0 {τ : Tr} {m : NmM} {s : SsM} (h : TrI τ m s) {p : Bs} (hx : alook m p = none) : statD τ p = st0 := by
 unfold statD statZ; rw [← h.look, hx]; rfl
section
variable {P : Program} {W : World} {n : Nat} {ds : List Deferred} {E : Env} {L R : List HP} {Q : Exit → Act → World → Prop}
theorem agree_list {ρ : Operand → Value} (ha : Agrees E ρ) : ∀ (l : List Operand) (us : List Value), l.map (ev E) = us.map some → l.map ρ = us := by
  intro l
  induction l with
  | nil => intro us h; cases us with
    | nil => rfl
    | cons u us => simp at h
  | cons x l ih => intro us h; cases us with
    | nil => simp at h
    | cons u us =>
      simp only [List.map_cons, List.cons.injEq] at h ⊢
      exact ⟨ha _ _ h.1, ih us h.2⟩
theorem OpSpec.callV {f : FuncId} {fn : Func} {c : Code} {x : Operand} {xs : Array Operand} {ts : Array TypeId} {ty : TypeId} {us vs ws : List Value} {pre : List HP} {post : Value → List HP → Prop}
  (hf : P.funcs[f]? = some fn) (hb : fn.body = some c) (hnm : (fn.name == "runtime.NumGoroutine") = false) (hv : ev E x = some (.func (.func f) us.toArray ws.toArray)) (hx : xs.toList.map (ev E) = vs.map some) (h : Fn P f (us ++ vs ++ ws).toArray pre post) :
  OpSpec P ⟨none, .call { callee := .value x, args := xs, argTypes := ts }, ty, "", #[], none⟩ E pre post := by
 intro ρ w F ha hs
 have hvs : xs.map ρ = vs.toArray := by
  apply Array.ext'
  rw [Array.toList_map]
  exact agree_list ha _ _ hx
 have hfn : ρ x = .func (.func f) us.toArray ws.toArray := ha x _ hv
 unfold Runs
 have : (execOp ρ ⟨none, .call { callee := .value x, args := xs, argTypes := ts }, ty, "", #[], none⟩).run P w = .ok (.enter f (us ++ vs ++ ws).toArray) w := by
  have hnm' : ¬ fn.name = "runtime.NumGoroutine" := by simpa using hnm
  simp [execOp, resolve, hfn, Deferred.ofValue, invoke, callFunc, program, Bind.bind, Sem.bind, Pure.pure, Sem.run, hf, hb, hnm', hvs]
 rw [this]
 refine (h F w hs).mono ?_
 rintro e w' ⟨v, L, hv', he, hs', hk⟩
 exact ⟨v, he, L, hv', hs', hk⟩
/-! ### Results -/
def resRun (tmps : Array Value) : ResultVar → Sem Value
 | .tmp t => pure (tmps.getD t undef)
 | .cell a t => do loadVar t (← asAddr (tmps.getD a undef))
def ResR (P : Program) (E : Env) (L : List HP) (r : ResultVar) (v : Value) : Prop := ∀ (tmps : Array Value) (w : World), (∀ t v, look E t = some v → tmps[t]? = some v) → St L w → (resRun tmps r).run P w = .ok v w
theorem getD_of {tmps : Array Value} {t : Nat} {v : Value} (h : tmps[t]? = some v) : tmps.getD t undef = v := by simp [h]
theorem ResR.tmp {t : Nat} {v : Value} (h : look E t = some v) : ResR P E L (.tmp t) v := fun tmps w ht _ => by
 show (pure (tmps.getD t undef) : Sem Value).run P w = _
 rw [getD_of (ht _ _ h)]; rfl
theorem ResR.cellA {a t : Nat} {b off k : Nat} {l vs : List Value} {T : TypeId} {fr : Nat × Nat} (h : look E a = some (.pointer (some ⟨b, off, none⟩))) (hp : aggOf P t = some (some k)) (hL : Pick (pt b (.cells l.toArray T fr)) L R) (hc : off + k ≤ l.length) (hv : (l.drop off).take k = vs) :
  ResR P E L (.cell a t) (.agg vs.toArray) := fun tmps w ht hs => by
 show (do loadVar t (← asAddr (tmps.getD a undef)) : Sem Value).run P w = _
 rw [getD_of (ht _ _ h)]
 show (loadVar t ⟨b, off, none⟩).run P w = _
 rw [← hv]; exact run_loadVarA hp (hs.pick hL).pt hc
theorem results_eq (fn : Func) (tmps : Array Value) : results fn tmps = (do let vs ← fn.results.mapM (resRun tmps); pure (if h : vs.size = 1 then vs[0] else .tuple vs) : Sem Value) := by
 unfold results
 have e : (fun r : ResultVar => (match r with | .tmp t => pure (tmps.getD t undef) | .cell a t => do loadVar t (← asAddr (tmps.getD a undef)) : Sem Value)) = resRun tmps := by
  funext r; cases r <;> rfl
 rw [← e]
 rfl
theorem results_1 {fn : Func} {r : ResultVar} {tmps : Array Value} {w : World} {v : Value} (hl : fn.results = #[r]) (h : (resRun tmps r).run P w = .ok v w) : (results fn tmps).run P w = .ok v w := by
 simp [results_eq, hl, Sem.run_bind, Result.andThen, h]
theorem results_2 {fn : Func} {r s : ResultVar} {tmps : Array Value} {w : World} {v u : Value} (hl : fn.results = #[r, s]) (h : (resRun tmps r).run P w = .ok v w) (h' : (resRun tmps s).run P w = .ok u w) : (results fn tmps).run P w = .ok (.tuple #[v, u]) w := by
 simp [results_eq, hl, Sem.run_bind, Result.andThen, h, h']
theorem results_3 {fn : Func} {r s q : ResultVar} {tmps : Array Value} {w : World} {v u z : Value} (hl : fn.results = #[r, s, q]) (h : (resRun tmps r).run P w = .ok v w) (h' : (resRun tmps s).run P w = .ok u w) (h'' : (resRun tmps q).run P w = .ok z w) : (results fn tmps).run P w = .ok (.tuple #[v, u, z]) w := by
 simp [results_eq, hl, Sem.run_bind, Result.andThen, h, h', h'']
theorem G.done1 {fn : Func} {post : Value → List HP → Prop} {F : List HP} {L' : List HP} {r : ResultVar} {v : Value} (hl : fn.results = #[r]) (hr : ResR P E L r v) (hp : post v L') (hL : Picks L' L R) (hF : Suff F R) : G W n [] E L (FnQ P fn post F W .ret) := by
 intro a w he hk hs
 exact ⟨he.defers, v, results_1 hl (hr _ _ he.slots hs), v, L', hp, rfl, hF.st (hs.picks hL), hk⟩
theorem G.done2 {fn : Func} {post : Value → List HP → Prop} {F : List HP} {L' : List HP} {r s : ResultVar} {v u : Value} (hl : fn.results = #[r, s]) (hr : ResR P E L r v) (hr' : ResR P E L s u) (hp : post (.tuple #[v, u]) L') (hL : Picks L' L R) (hF : Suff F R) : G W n [] E L (FnQ P fn post F W .ret) := by
 intro a w he hk hs
 exact ⟨he.defers, _, results_2 hl (hr _ _ he.slots hs) (hr' _ _ he.slots hs), _, L', hp, rfl, hF.st (hs.picks hL), hk⟩
theorem G.done3 {fn : Func} {post : Value → List HP → Prop} {F : List HP} {L' : List HP} {r s q : ResultVar} {v u z : Value} (hl : fn.results = #[r, s, q]) (hr : ResR P E L r v) (hr' : ResR P E L s u) (hr'' : ResR P E L q z) (hp : post (.tuple #[v, u, z]) L') (hL : Picks L' L R) (hF : Suff F R) : G W n [] E L (FnQ P fn post F W .ret) := by
 intro a w he hk hs
 exact ⟨he.defers, _, results_3 hl (hr _ _ he.slots hs) (hr' _ _ he.slots hs) (hr'' _ _ he.slots hs), _, L', hp, rfl, hF.st (hs.picks hL), hk⟩
/-! ### Deferred calls -/
end
section
variable {P : Program} {W : World} {n : Nat} {ds : List Deferred} {E : Env} {L R : List HP} {Q : Exit → Act → World → Prop} {next : Act → World → Prop}
theorem G.d1 {fn : Func} {post : Value → List HP → Prop} {F : List HP} {L' : List HP} {r : ResultVar} {v : Value} (hl : fn.results = #[r]) (hr : ResR P E L r v) (hp : post v L') (hL : Picks L' L R := by repeat' constructor) (hF : Suff F R := by repeat' constructor) : G W n [] E L (FnQ P fn post F W .ret) := G.done1 hl hr hp hL hF
theorem G.d2 {fn : Func} {post : Value → List HP → Prop} {F : List HP} {L' : List HP} {r s : ResultVar} {v u : Value} (hl : fn.results = #[r, s]) (hr : ResR P E L r v) (hr' : ResR P E L s u) (hp : post (.tuple #[v, u]) L') (hL : Picks L' L R := by repeat' constructor) (hF : Suff F R := by repeat' constructor) : G W n [] E L (FnQ P fn post F W .ret) := G.done2 hl hr hr' hp hL hF
end
section
variable {P : Program} {E : Env} {L R : List HP} {ty : TypeId} {w : World}
abbrev runeR (it : Nat) (s : List UInt8) (pos : Nat) : HP := pt it (.stringIter (bs s) pos)
theorem OpSpec.rangeS {t : TypeId} {x : Operand} {s : List UInt8} (hx : ev E x = some (vstr s)) (ht : P.underlying t = some .string) :
  OpSpec P ⟨none, .range t x, ty, "", #[], none⟩ E [] fun v L' => ∃ it, v = vptr it ∧ L' = [runeR it s 0] := by
 intro ρ w F ha hs
 have hrun : (execOp ρ ⟨none, .range t x, ty, "", #[], none⟩).run P w = .ok (.value (vptr w.heap.size)) { w with heap := w.heap.push (.stringIter (bs s) 0) } := by
  refine run_v ?_
  show (Instr.range t (ρ x)).run P w = _
  rw [ha x _ hx]; exact run_range_string w t _ ht
 unfold Runs; rw [hrun]
 exact ⟨_, ⟨_, rfl, rfl⟩, St.new hs _, Keeps.new _ _⟩
theorem OpSpec.nextS {x : Operand} {it pos : Nat} {s : List UInt8} (hx : ev E x = some (vptr it)) :
  OpSpec P ⟨none, .next x true, ty, "", #[], none⟩ E [runeR it s pos] fun v L' => (v = .tuple #[.bool false] ∧ ¬ pos < s.length ∧ L' = [runeR it s pos]) ∨
   (pos < s.length ∧ v = .tuple #[.bool true, vint pos, .int .i32 (Utf8.decode (bs s) pos).1] ∧ L' = [runeR it s (pos + (Utf8.decode (bs s) pos).2)]) := by
 intro ρ w F ha hs
 have hk : w.heap[it]? = some (.stringIter (bs s) pos) := St.pt (L := F) hs
 by_cases h : pos < s.length
 ·have hrun : (execOp ρ ⟨none, .next x true, ty, "", #[], none⟩).run P w = .ok (.value (.tuple #[.bool true, vint pos, .int .i32 (Utf8.decode (bs s) pos).1])) (upd w it (.stringIter (bs s) (pos + (Utf8.decode (bs s) pos).2))) := by
   refine run_v ?_
   show (Instr.next (ρ x) true ty).run P w = _
   rw [ha x _ hx]; exact Go.Lib.run_next_any_at w it (bs s) pos ty hk (by rw [bs_size]; exact h)
  unfold Runs; rw [hrun]
  exact ⟨_, .inr ⟨h, rfl, rfl⟩, St.upd (L := F) hs, Keeps.upd _ _ _⟩
 ·have hrun : (execOp ρ ⟨none, .next x true, ty, "", #[], none⟩).run P w = .ok (.value (.tuple #[.bool false])) w := by
   refine run_v ?_
   show (Instr.next (ρ x) true ty).run P w = _
   rw [ha x _ hx]; exact Go.Lib.run_next_end_at w it (bs s) pos ty hk (by rw [bs_size]; exact h)
  unfold Runs; rw [hrun]
  exact ⟨_, .inl ⟨rfl, h, rfl⟩, hs, Keeps.refl _⟩
theorem decode_low {s : List UInt8} {pos : Nat} (h : pos < s.length) (hc : (s[pos]).toNat < 128) : Utf8.decode (bs s) pos = ((s[pos]).toNat, 1) :=
 decode_ascii (bs s) pos (by rw [bs_size]; exact h) hc
theorem bs_get {s : List UInt8} {pos : Nat} (h : pos < s.length) : (bs s).get! (pos + 0) = s[pos] := by
 show (bs s).get! pos = _
 show s.toArray[pos]! = _
 rw [getElem!_pos s.toArray pos (by simpa using h)]
 simp
theorem decode_high {s : List UInt8} {pos : Nat} (h : pos < s.length) (hc : ¬ (s[pos]).toNat < 128) : 128 ≤ (Utf8.decode (bs s) pos).1 ∧ 1 ≤ (Utf8.decode (bs s) pos).2 := by
 have e := bs_get h
 simp only [Utf8.decode, e]
 rw [if_neg hc]
 repeat' split
 all_goals first | (simp_all [Utf8.runeError]; done) | (refine ⟨?_, ?_⟩ <;> simp_all [Utf8.runeError] <;> omega)
theorem Quiet.lookupNil {K : Type} [DecidableEq K] {kv : K → Value} {kt et : TypeId} (hl : KeyLaw P kt kv) {t : TypeId} {x y : Operand} {k : K} {z : Value} (hx : ev E x = some (.map none)) (hy : ev E y = some (kv k)) (ht : P.underlying t = some (.map kt et)) (hz : zeroOf P et = some z) :
  Quiet P ⟨none, .lookup t x y false, ty, "", #[], none⟩ E L z := by
 intro ρ w ha hs
 refine run_v ?_
 show (Instr.lookup t (ρ x) (ρ y) false).run P w = _
 rw [ha x _ hx, ha y _ hy]
 unfold Instr.lookup
 rw [run_bind (run_underlying ht)]
 dsimp only
 rw [run_bind run_pure, run_bind (hl.check k _ w), run_bind (hl.find k [] [] w rfl)]
 simp only [posK, Option.bind_none]
 rw [run_bind (run_zero hz), run_bind run_pure]
 rfl
abbrev nilR (it : Nat) : HP := pt it (.mapIter none 0 #[] 0)
theorem OpSpec.rangeNil {t kt et : TypeId} {x : Operand} (hx : ev E x = some (.map none)) (ht : P.underlying t = some (.map kt et)) :
  OpSpec P ⟨none, .range t x, ty, "", #[], none⟩ E [] fun v L' => ∃ it, v = vptr it ∧ L' = [nilR it] := by
 intro ρ w F ha hs
 have hrun : (execOp ρ ⟨none, .range t x, ty, "", #[], none⟩).run P w = .ok (.value (vptr w.heap.size)) { w with heap := w.heap.push (.mapIter none 0 #[] 0) } := by
  refine run_v ?_
  show (Instr.range t (ρ x)).run P w = _
  rw [ha x _ hx]; exact run_range_nilMap w t kt et ht
 unfold Runs; rw [hrun]
 exact ⟨_, ⟨_, rfl, rfl⟩, St.new hs _, Keeps.new _ _⟩
theorem OpSpec.nextNil {x : Operand} {it : Nat} (hx : ev E x = some (vptr it)) :
  OpSpec P ⟨none, .next x false, ty, "", #[], none⟩ E [nilR it] fun v L' => v = .tuple #[.bool false] ∧ L' = [nilR it] := by
 intro ρ w F ha hs
 have hk : w.heap[it]? = some (.mapIter none 0 #[] 0) := St.pt (L := F) hs
 have hrun : (execOp ρ ⟨none, .next x false, ty, "", #[], none⟩).run P w = .ok (.value (.tuple #[.bool false])) w := by
  refine run_v ?_
  show (Instr.next (ρ x) false ty).run P w = _
  rw [ha x _ hx]
  simp only [Instr.next, getObj, Sem.run_bind, Sem.run, hk, Result.andThen]
  rfl
 unfold Runs; rw [hrun]
 exact ⟨_, ⟨rfl, rfl⟩, hs, Keeps.refl _⟩
theorem Quiet.extern {f : FuncId} {fn : Func} {e : Array Value → Sem Value} {xs : Array Operand} {ts : Array TypeId} {vs : List Value} {v : Value} (hf : P.funcs[f]? = some fn) (hnm : (fn.name == "runtime.NumGoroutine") = false) (hb : fn.body.isNone = true) (hn : Extern.findNext fn = none) (he : Extern.find fn = some e)
  (hx : xs.toList.map (ev E) = vs.map some) (hr : ∀ w, (e vs.toArray).run P w = .ok v w) : Quiet P ⟨none, .call { callee := .value (.func f), args := xs, argTypes := ts }, ty, "", #[], none⟩ E L v := by
 intro ρ w ha _
 have hv : xs.map ρ = vs.toArray := by
  apply Array.ext'
  rw [Array.toList_map]
  exact agree_list ha _ _ hx
 have hfn : ρ (.func f) = .func (.func f) #[] #[] := ha (.func f) _ rfl
 have e1 : (execOp ρ ⟨none, .call { callee := .value (.func f), args := xs, argTypes := ts }, ty, "", #[], none⟩).run P w = (callFunc f vs.toArray).run P w := by
  simp [execOp, resolve, hfn, Deferred.ofValue, invoke, program, Bind.bind, Sem.bind, Pure.pure, Sem.run, hv]
 rw [e1, run_callFunc_extern hf hnm hb hn he, hr]
 rfl
theorem count_run (s : List UInt8) (w : World) : (Extern.BytealgCount.count #[vstr s, .int .u8 47]).run P w = .ok (vint (s.count 47 : Nat)) w := by
 rw [show vstr s = .string (bs s) from rfl, Go.Lib.run_countString]; rfl
def idxZ : List UInt8 → Int
 | [] => -1
 | b :: l => if b = 47 then 0 else if idxZ l = -1 then -1 else idxZ l + 1
theorem idx_eq (s : List UInt8) : Go.Lib.indexByte s 47 = idxZ s := by
 induction s with
 | nil => rfl
 | cons b l ih =>
  unfold Go.Lib.indexByte idxZ
  rw [ih]
  simp
theorem index_run (s : List UInt8) (w : World) : (Extern.BytealgIndexByte.indexByte #[vstr s, .int .u8 47]).run P w = .ok (vint (idxZ s)) w := by
 rw [show vstr s = .string (bs s) from rfl, Go.Lib.run_indexByteString]
 rw [show (bs s).data.toList = s from rfl, show (47 : Int).toNat.toUInt8 = 47 from rfl, idx_eq]
theorem idxZ_at {s : List UInt8} (h : (47 : UInt8) ∈ s) : ∃ k : Nat, idxZ s = k ∧ k < s.length ∧ s = s.take k ++ 47 :: s.drop (k + 1) ∧ (47 : UInt8) ∉ s.take k := by
 induction s with
 | nil => cases h
 | cons b l ih =>
  unfold idxZ
  by_cases hb : b = 47
  ·subst hb
   exact ⟨0, by rw [if_pos rfl]; rfl, by simp, by simp, by simp⟩
  ·have hl : (47 : UInt8) ∈ l := by
    rcases List.mem_cons.1 h with h | h
    ·exact absurd h.symm hb
    ·exact h
   obtain ⟨k, e1, e2, e3, e4⟩ := ih hl
   refine ⟨k + 1, ?_, by simp; omega, ?_, ?_⟩
   ·rw [if_neg hb, e1, if_neg (by omega)]; omega
   ·simp only [List.take_succ_cons, List.drop_succ_cons, List.cons_append]
    rw [← e3]
   ·simp only [List.take_succ_cons, List.mem_cons, not_or]
    exact ⟨fun e => hb e.symm, e4⟩
end
theorem sindexbyte_spec (s : Bs) : Fn Tryz.prog 291 #[vstr s, .int .u8 47] [] fun v L => v = vint (idxZ s) ∧ L = [] := by
 refine Fn.intro Tryz.func291 rfl rfl fun F W => ?_
 refine .sr (.an rfl (.sm rfl (.m rfl (.q (.extern (e := Extern.BytealgIndexByte.indexByte) (vs := [_, .int .u8 47]) Tryz.func297 (by kernel_rfl) (by kernel_rfl) (by kernel_rfl) (by kernel_rfl) rfl (fun w => index_run s w)) rfl (.an rfl (.ret ?_))))))
 exact .vv
theorem sindex_spec (s : Bs) : Fn Tryz.prog 281 #[vstr s, vstr [47]] [] fun v L => v = vint (idxZ s) ∧ L = [] := by
 refine Fn.intro Tryz.func281 rfl rfl fun F W => ?_
 refine .sr (.an rfl (.sm rfl (.q (.strlen rfl Tryz.underlying9 rfl) rfl (.an rfl (.seq (.block (.sm rfl (.q (.as (v' := .bool false) (by rfl) (.int rfl rfl rfl)) rfl (.m rfl (.grun (t := 19) rfl rfl rfl (.m rfl (.grun (t := 19) rfl rfl rfl (.m rfl (.grun (t := 19) rfl rfl rfl (.u (.streq rfl rfl) (.u (.pickF rfl rfl) (.an rfl (.condD rfl (fun h16 => ?_) (fun h16 => ?_)))))))))))))))))))
 ·refine .sr (.an rfl (.ret (.blk_r (.then_r ?_))))
  exact .dn rfl rfl ⟨by have e : s = [47] := (by first | exact h16.symm | exact (by simpa using h16.symm)); subst e; rfl, rfl⟩
 refine .sm rfl (.q (.as (v' := .bool true) (by rfl) (.int rfl rfl rfl)) rfl (.an rfl (.condT rfl (.sm rfl (.m rfl (.q (.strIndex (c := 47) rfl rfl Tryz.underlying9 (by simp) (by simp)) rfl (.cv Tryz.func291 [_, _] (sindexbyte_spec _) ?_)))))))
 refine .an rfl (.ret (.blk_r (.then_r ?_)))
 exact .vv
theorem index_spec (s : Bs) : Fn Tryz.prog 254 #[vstr s, vstr [47]] [] fun v L => v = vint (idxZ s) ∧ L = [] := by
 refine Fn.intro Tryz.func254 rfl rfl fun F W => ?_
 refine .sr (.an rfl (.sm rfl (.m rfl (.cv Tryz.func281 [_, _] (sindex_spec _) ?_))))
 refine .an rfl (.ret ?_)
 exact .vv
theorem count_spec (s : Bs) : Fn Tryz.prog 253 #[vstr s, vstr [47]] [] fun v L => v = vint (s.count 47 : Nat) ∧ L = [] := by
 refine Fn.intro Tryz.func253 rfl rfl fun F W => ?_
 refine .sr (.an rfl (.seq (.sm rfl (.q (.strlen rfl Tryz.underlying9 rfl) rfl (.q (.as (v' := .bool false) (by rfl) (.int rfl rfl rfl)) rfl (.nt (.condF rfl (.sk (.seq (.sm rfl (.q (.strlen rfl Tryz.underlying9 rfl) rfl (.q (.as (v' := .bool true) (by rfl) (.int rfl rfl rfl)) rfl (.nt (.condT rfl (.sm rfl (.m rfl (.q (.strIndex (c := 47) rfl rfl Tryz.underlying9 (by simp) (by simp)) rfl (.q (.extern (e := Extern.BytealgCount.count) (vs := [_, .int .u8 47]) Tryz.func280 (by kernel_rfl) (by kernel_rfl) (by kernel_rfl) (by kernel_rfl) rfl (fun w => count_run s w)) rfl (.an rfl (.rt ?_))))))))))))))))))))
 exact .vv
theorem count_cut {s : Bs} {k : Nat} (h : s = s.take k ++ 47 :: s.drop (k + 1)) (hk : (47 : UInt8) ∉ s.take k) : s.count 47 = (s.drop (k + 1)).count 47 + 1 := by
 have := congrArg (List.count 47) h
 rw [List.count_append, List.count_eq_zero.2 hk, List.count_cons_self] at this
 omega
theorem spl_done {dn : List Bs} {i n : Nat} {s : Bs} (hd : dn.length = i) (hi : i < n) : (strs dn ++ List.replicate (n - i) (vstr [])).set i (vstr s) = strs (dn ++ [s]) ++ List.replicate (n - (i + 1)) (vstr []) := by
 obtain ⟨k, rfl⟩ : ∃ k, n = i + (k + 1) := ⟨n - i - 1, by omega⟩
 rw [List.set_append_right _ _ (by simp [hd]), show i - (strs dn).length = 0 by simp [hd], show i + (k + 1) - i = k + 1 by omega, show i + (k + 1) - (i + 1) = k by omega, List.replicate_succ, List.set_cons_zero]
 simp [strs]
theorem take_done {dn : List Bs} {i n : Nat} {s : Bs} (hd : dn.length = i) (hi : i = n) : (strs (dn ++ [s]) ++ List.replicate (n + 1 - (i + 1)) (vstr [])).take (n + 1) = strs (dn ++ [s]) := by
 subst hi
 rw [Nat.sub_self, List.replicate_zero, List.append_nil, List.take_of_length_le (by simp [hd])]
theorem gensplit_spec (s : Bs) (hs : s.length ≤ 1048576) : Fn Tryz.prog 221 #[vstr s, vstr [47], vint 0, vint (-1)] [] fun v L => ∃ b, v = .slice (some ⟨b, 0, none⟩) (splitZ s).length (splitZ s).length ∧ L = [slR 9 1 v (splitZ s).length (strs (splitZ s))] := by
 refine Fn.intro Tryz.func221 rfl rfl fun F W => ?_
 have hcl : s.count 47 ≤ s.length := List.count_le_length
 have hsp := split_len s
 refine .sr (.an rfl (.seq (.sm rfl (.q (.as (v' := .bool false) (by rfl) (.int rfl rfl rfl)) rfl (.nt (.condF rfl (.sk (.seq (.sm rfl (.q (.as (v' := .bool false) (by rfl) (.streq rfl rfl)) rfl (.nt (.condF rfl (.sk (.seq (.sm rfl (.q (.as (v' := .bool true) (by rfl) (.int rfl rfl rfl)) rfl (.nt (.condT rfl (.region (.m rfl (.m rfl (.cv Tryz.func253 [_, _] (count_spec _) ?_))))))))))))))))))))))
 refine .q (.add rfl rfl (by omega)) rfl (.an rfl (.sm rfl (.m rfl (.q (.strlen rfl Tryz.underlying9 rfl) rfl (.q (.add rfl rfl (by omega)) rfl (.q (.to (v' := vint (((s.count 47) : Nat) + 1)) (.min2 rfl rfl) (by congr 1; omega)) rfl (.an rfl (.sm rfl (.oq (.make rfl rfl el_38 ze_9 rfl ⟨by simp, by simp; rfl⟩ ?hc17) ?_)))))))))
 case hc17 => omega
 rintro v L' ⟨ba, rfl, rfl⟩; rw [show (((s.count 47) : Nat) + 1 : Int).toNat = (s.count 47) + 1 by omega]
 refine .a rfl (.nil (.ptCast (b := ba) (l' := strs [] ++ List.replicate ((s.count 47) + 1 - 0) (vstr [])) (by repeat' constructor) (by simp) ?_))
 refine .then_n (.sm rfl (.q (.to (v' := vint ((s.count 47) : Nat)) (.sub rfl rfl (by omega)) (by congr 1; omega)) rfl (.an rfl (.sr (.an rfl (.seq (.block (.loopK (ι := Nat × Bs × (List Bs)) (fun q E => (10, vint q.1) :: (0, vstr q.2.1) :: E) (fun q => [ptc ba (strs q.2.2 ++ List.replicate ((s.count 47) + 1 - q.1) (vstr [])) 9]) (fun q => q.1 ≤ (s.count 47) ∧ q.2.2.length = q.1 ∧ q.2.1.count 47 + q.1 = (s.count 47) ∧ splitZ s = q.2.2 ++ splitZ q.2.1 ∧ q.2.1.length ≤ s.length) (fun q => (s.count 47) - q.1) (0, s, []) (ts := [1, 2, 3, 8, 9]) (.cons rfl (.cons rfl (.cons rfl (.cons rfl (.cons rfl (.nil)))))) (⟨Nat.zero_le _, rfl, by dsimp only; omega, rfl, Nat.le_refl _⟩) ⟨rfl, rfl, rfl, rfl, rfl, rfl, rfl, trivial⟩ (by repeat' constructor) ?_))))))))
 rintro ⟨i, cur, dn⟩ ⟨hi, hdl, hct, hsplit, hcul⟩
 dsimp only
 dsimp only at hi hdl hct hsplit hcul
 refine .seq (.sm rfl (.m rfl (.ui rfl rfl rfl (.nt (.condD rfl (fun h36 => ?_) (fun h36 => ?_))))))
 ·have hmem : (47 : UInt8) ∈ cur := List.count_pos_iff.1 (by omega)
  obtain ⟨k, hk1, hk2, hk4, hk3⟩ := idxZ_at hmem
  have hcat : cur = cur.take k ++ 47 :: cur.drop (k + 1) := hk4
  have hcc := count_cut hcat hk3
  refine .sk (.block (.sm rfl (.m rfl (.oq (.c Tryz.func254 [_, _] (index_spec cur)) ?_))))
  rintro v L' ⟨rfl, rfl⟩; rw [hk1]
  refine .an rfl (.seq (.sm rfl (.q (.as (v' := .bool false) (by first | (simp; done) | (simp; omega)) (.int rfl rfl rfl)) rfl (.nt (.condF rfl (.sk (.sm rfl (.m rfl (.m rfl (.m rfl (.m rfl (.q (.add rfl rfl (by omega)) rfl (.q (.to (v' := vstr (cur.take k)) (.strTo (j := (k : Int) + 0) rfl rfl Tryz.underlying9 (by omega)) (by rw [show ((k : Int) + 0).toNat = k by omega])) rfl (.q (.indexAddr rfl rfl el_38 (by omega)) rfl (.oq (.store rfl rfl rfl sz_9 ?c37 (nfz0 _ _)) ?_)))))))))))))))
  case c37 => first | (simp; done) | (simp; omega)
  rintro v L' rfl
  refine .nt (.sm rfl (.m rfl (.m rfl (.q (.as (v' := vint 1) (by rfl) (.strlen rfl Tryz.underlying9 rfl)) rfl (.q (.add rfl rfl (by omega)) rfl (.q (.to (v' := vstr (cur.drop (k + 1))) (.strFrom (i := (k : Int) + 1) rfl rfl Tryz.underlying9 (by omega)) (by rw [show ((k : Int) + 1).toNat = k + 1 by omega])) rfl (.an rfl (.region (.m rfl (.q (.add rfl rfl (by omega)) rfl (.a rfl (.nil (.blk_n (.then_n ?_))))))))))))))
  rw [show 0 + (i : Int).toNat * 1 = i by omega, spl_done hdl (by omega)]
  exact .rk ((i + 1, cur.drop (k + 1), dn ++ [cur.take k])) (⟨by dsimp only; omega, by dsimp only; simp [hdl], by dsimp only; omega, by dsimp only; rw [hsplit, hcat, split_at hk3, ← hcat, List.append_assoc]; rfl, by dsimp only; rw [List.length_drop]; omega⟩) (by dsimp only; omega) ⟨rfl, rfl, rfl, rfl, rfl, rfl, rfl, trivial⟩
 have hii : i = (s.count 47) := by omega
 have hlast : splitZ cur = [cur] := split_none (List.count_eq_zero.1 (by omega))
 rw [hlast] at hsplit
 refine .exit (.then_e (.then_e (.blk_e (.then_n (.sm rfl (.m rfl (.m rfl (.q (.indexAddr rfl rfl el_38 (by omega)) rfl (.oq (.store rfl rfl rfl sz_9 ?c51 (nfz0 _ _)) ?_)))))))))
 case c51 => first | (simp; done) | (simp; omega)
 rintro v L' rfl
 refine .nt (.sm rfl (.m rfl (.q (.add rfl rfl (by omega)) rfl (.q (.to (v' := .slice (some ⟨ba, 0, none⟩) (splitZ s).length (splitZ s).length) (.slTo (j := (i : Int) + 1) rfl el_38 rfl (by omega) (.inr ⟨_, _, rfl⟩)) (by rw [hsp, hii]; congr 1)) rfl (.a rfl (.nil (.slMake (b := ba) (n := (splitZ s).length) (c := (splitZ s).length) (xs := strs (splitZ s)) (by repeat' constructor) (Nat.le_refl _) (by rw [hsp]; simp; omega) (by rw [show 0 + (i : Int).toNat * 1 = i by omega, spl_done hdl (by omega), hsp, hsplit]; exact take_done hdl hii) (.then_n (.ret ?_)))))))))
 exact .dn rfl rfl ⟨ba, rfl, rfl⟩
theorem split_spec (s : Bs) (hs : s.length ≤ 1048576) : Fn Tryz.prog 168 #[vstr s, vstr [47]] [] fun v L => ∃ b, v = .slice (some ⟨b, 0, none⟩) (splitZ s).length (splitZ s).length ∧ L = [slR 9 1 v (splitZ s).length (strs (splitZ s))] := by
 refine Fn.intro Tryz.func168 rfl rfl fun F W => ?_
 refine .sr (.an rfl (.sm rfl (.m rfl (.oq (.c Tryz.func221 [_, _, _, _] (gensplit_spec _ ?hs4)) ?_))))
 case hs4 => assumption
 rintro v L' ⟨bb, rfl, rfl⟩
 refine .an rfl (.ret ?_)
 exact .dn rfl rfl ⟨bb, rfl, rfl⟩
theorem isname_spec (s : Bs) : Fn Tryz.prog 169 #[vstr s] [] fun v L => v = .bool (isNameZ s) ∧ L = [] := by
 refine Fn.intro Tryz.func169 rfl rfl fun F W => ?_
 refine .sr (.an rfl (.seq (.sm rfl (.oq (.rangeS rfl Tryz.underlying9) ?_))))
 rintro v L' ⟨it, rfl, rfl⟩
 refine .nt (.block (.loopK (ι := Nat) (fun q E => E) (fun q => [runeR it s q]) (fun q => q ≤ s.length ∧ (s.take q).all letterB = true) (fun q => s.length - q) (0) (ts := [0, 6]) (.cons rfl (.cons rfl (.nil))) (⟨Nat.zero_le _, rfl⟩) ⟨rfl, rfl, trivial⟩ (by repeat' constructor) ?_))
 rintro pos ⟨hp, hall⟩
 refine .sr (.oq (.nextS rfl) ?_)
 rintro v L' (⟨rfl, hpos, rfl⟩ | ⟨hpos, rfl, rfl⟩)
 ·refine .u (.extract rfl rfl) (.nt (.seq (.condF rfl (.exit (.then_e (.then_e (.blk_e (.then_n (.sm rfl (.u (.strne rfl rfl) (.m rfl (.ndec (t := 37) rfl (fun h11_37 => ?_) (fun h11_37 => ?_)))))))))))))
  ·refine .kNT (t := 36) rfl h11_37 (.grun (t := 37) rfl rfl rfl (.m rfl (.grun (t := 37) rfl rfl rfl (.u (.strne rfl rfl) (.u (.pickT rfl rfl) (.m rfl (.ndec (t := 41) rfl (fun h11_41 => ?_) (fun h11_41 => ?_))))))))
   ·refine .kNT (t := 39) rfl h11_41 (.kNT (t := 40) rfl h11_41 (.grun (t := 41) rfl rfl rfl (.m rfl (.grun (t := 41) rfl rfl rfl (.u (.strne rfl rfl) (.u (.pickT rfl rfl) (.an rfl (.ret ?_))))))))
    have hz : isNameZ s = (!decide (s = []) && !decide (s = [46]) && !decide (s = [46, 46])) := by unfold isNameZ; rw [List.take_of_length_le (by omega)] at hall; rw [hall, Bool.and_true]
    rw [hz]
    exact .dn rfl rfl ⟨by simp_all, rfl⟩
   refine .kNF (t := 39) rfl h11_41 (.kNF (t := 40) rfl h11_41 (.gk (.gk (.u (.pickF rfl rfl) (.an rfl (.ret ?_))))))
   have hz : isNameZ s = (!decide (s = []) && !decide (s = [46]) && !decide (s = [46, 46])) := by unfold isNameZ; rw [List.take_of_length_le (by omega)] at hall; rw [hall, Bool.and_true]
   rw [hz]
   exact .dn rfl rfl ⟨by simp_all, rfl⟩
  refine .kNF (t := 36) rfl h11_37 (.gk (.gk (.u (.pickF rfl rfl) (.m rfl (.gk (.gk (.u (.pickF rfl rfl) (.an rfl (.ret ?_)))))))))
  have hz : isNameZ s = (!decide (s = []) && !decide (s = [46]) && !decide (s = [46, 46])) := by unfold isNameZ; rw [List.take_of_length_le (by omega)] at hall; rw [hall, Bool.and_true]
  rw [hz]
  exact .dn rfl rfl ⟨by simp_all, rfl⟩
 refine .u (.extract rfl rfl) (.nt (.seq (.condT rfl (.sk (.block (.sr ?_))))))
 rcases Nat.lt_or_ge (s[pos]).toNat 128 with hlo | hhi
 ·rw [decode_low hpos hlo]
  dsimp only
  refine .u (.extract rfl rfl) (.an rfl (.block (.seq (.sm rfl (.ui rfl rfl rfl (.m rfl (.dec (t := 13) rfl (fun h5_13 => ?_) (fun h5_13 => ?_))))))))
  ·refine .kDT (t := 12) rfl h5_13 (.grun (t := 13) rfl rfl rfl (.m rfl (.grun (t := 13) rfl rfl rfl (.ui rfl rfl rfl (.u (.pickT rfl rfl) (.an rfl (.dec (t := 10) rfl (fun h10 => ?_) (fun h10 => ?_))))))))
   ·refine .condT rfl (.sk (.condT rfl (.skip (.blk_n (.blk_n (.then_n ?_))))))
    exact .rk (pos + 1) (⟨by omega, all_next hpos hall (letter_of (by omega))⟩) (by omega) ⟨rfl, rfl, trivial⟩
   refine .condF rfl (.sm rfl (.ui rfl rfl rfl (.m rfl (.dec (t := 19) rfl (fun h6_19 => ?_) (fun h6_19 => ?_)))))
   ·refine .kDT (t := 18) rfl h6_19 (.grun (t := 19) rfl rfl rfl (.m rfl (.grun (t := 19) rfl rfl rfl (.ui rfl rfl rfl (.u (.pickT rfl rfl) (.an rfl (.dec (t := 10) rfl (fun h10 => ?_) (fun h10 => ?_))))))))
    ·refine .condT rfl (.sk (.condT rfl (.skip (.blk_n (.blk_n (.then_n ?_))))))
     exact .rk (pos + 1) (⟨by omega, all_next hpos hall (letter_of (by omega))⟩) (by omega) ⟨rfl, rfl, trivial⟩
    refine .condF rfl (.sm rfl (.ui rfl rfl rfl (.m rfl (.dec (t := 25) rfl (fun h7_25 => ?_) (fun h7_25 => ?_)))))
    ·refine .kDT (t := 24) rfl h7_25 (.grun (t := 25) rfl rfl rfl (.m rfl (.grun (t := 25) rfl rfl rfl (.ui rfl rfl rfl (.u (.pickT rfl rfl) (.an rfl (.dec (t := 10) rfl (fun h10 => ?_) (fun h10 => ?_))))))))
     ·refine .condT rfl (.sk (.condT rfl (.skip (.blk_n (.blk_n (.then_n ?_))))))
      exact .rk (pos + 1) (⟨by omega, all_next hpos hall (letter_of (by omega))⟩) (by omega) ⟨rfl, rfl, trivial⟩
     refine .condF rfl (.sm rfl (.ui rfl rfl rfl (.an rfl (.dec (t := 10) rfl (fun h10 => ?_) (fun h10 => ?_)))))
     ·refine .condT rfl (.sk (.condT rfl (.skip (.blk_n (.blk_n (.then_n ?_))))))
      exact .rk (pos + 1) (⟨by omega, all_next hpos hall (letter_of (by omega))⟩) (by omega) ⟨rfl, rfl, trivial⟩
     refine .condF rfl (.sm rfl (.ui rfl rfl rfl (.an rfl (.dec (t := 10) rfl (fun h10 => ?_) (fun h10 => ?_)))))
     ·refine .condT rfl (.sk (.condT rfl (.skip (.blk_n (.blk_n (.then_n ?_))))))
      exact .rk (pos + 1) (⟨by omega, all_next hpos hall (letter_of (by omega))⟩) (by omega) ⟨rfl, rfl, trivial⟩
     refine .condF rfl (.region (.m rfl (.ui rfl rfl rfl (.an rfl (.dec (t := 10) rfl (fun h10 => ?_) (fun h10 => ?_))))))
     ·refine .condT rfl (.skip (.blk_n (.blk_n (.then_n ?_))))
      exact .rk (pos + 1) (⟨by omega, all_next hpos hall (letter_of (by omega))⟩) (by omega) ⟨rfl, rfl, trivial⟩
     refine .condF rfl (.sr (.an rfl (.ret (.blk_r (.blk_r (.then_r (.blk_r (.then_r ?_))))))))
     have hz : isNameZ s = false := name_bad hpos (letter_not (by omega))
     rw [hz]
     exact .vv
    refine .kDF (t := 24) rfl h7_25 (.gk (.gk (.u (.pickF rfl rfl) (.an rfl (.condF rfl (.sm rfl (.ui rfl rfl rfl (.an rfl (.dec (t := 10) rfl (fun h10 => ?_) (fun h10 => ?_))))))))))
    ·refine .condT rfl (.sk (.condT rfl (.skip (.blk_n (.blk_n (.then_n ?_))))))
     exact .rk (pos + 1) (⟨by omega, all_next hpos hall (letter_of (by omega))⟩) (by omega) ⟨rfl, rfl, trivial⟩
    refine .condF rfl (.sm rfl (.ui rfl rfl rfl (.an rfl (.dec (t := 10) rfl (fun h10 => ?_) (fun h10 => ?_)))))
    ·refine .condT rfl (.sk (.condT rfl (.skip (.blk_n (.blk_n (.then_n ?_))))))
     exact .rk (pos + 1) (⟨by omega, all_next hpos hall (letter_of (by omega))⟩) (by omega) ⟨rfl, rfl, trivial⟩
    refine .condF rfl (.region (.m rfl (.ui rfl rfl rfl (.an rfl (.dec (t := 10) rfl (fun h10 => ?_) (fun h10 => ?_))))))
    ·refine .condT rfl (.skip (.blk_n (.blk_n (.then_n ?_))))
     exact .rk (pos + 1) (⟨by omega, all_next hpos hall (letter_of (by omega))⟩) (by omega) ⟨rfl, rfl, trivial⟩
    refine .condF rfl (.sr (.an rfl (.ret (.blk_r (.blk_r (.then_r (.blk_r (.then_r ?_))))))))
    have hz : isNameZ s = false := name_bad hpos (letter_not (by omega))
    rw [hz]
    exact .vv
   refine .kDF (t := 18) rfl h6_19 (.gk (.gk (.u (.pickF rfl rfl) (.an rfl (.condF rfl (.sm rfl (.ui rfl rfl rfl (.m rfl (.dec (t := 25) rfl (fun h7_25 => ?_) (fun h7_25 => ?_))))))))))
   ·refine .kDT (t := 24) rfl h7_25 (.grun (t := 25) rfl rfl rfl (.m rfl (.grun (t := 25) rfl rfl rfl (.ui rfl rfl rfl (.u (.pickT rfl rfl) (.an rfl (.dec (t := 10) rfl (fun h10 => ?_) (fun h10 => ?_))))))))
    ·refine .condT rfl (.sk (.condT rfl (.skip (.blk_n (.blk_n (.then_n ?_))))))
     exact .rk (pos + 1) (⟨by omega, all_next hpos hall (letter_of (by omega))⟩) (by omega) ⟨rfl, rfl, trivial⟩
    refine .condF rfl (.sm rfl (.ui rfl rfl rfl (.an rfl (.dec (t := 10) rfl (fun h10 => ?_) (fun h10 => ?_)))))
    ·refine .condT rfl (.sk (.condT rfl (.skip (.blk_n (.blk_n (.then_n ?_))))))
     exact .rk (pos + 1) (⟨by omega, all_next hpos hall (letter_of (by omega))⟩) (by omega) ⟨rfl, rfl, trivial⟩
    refine .condF rfl (.sm rfl (.ui rfl rfl rfl (.an rfl (.dec (t := 10) rfl (fun h10 => ?_) (fun h10 => ?_)))))
    ·refine .condT rfl (.sk (.condT rfl (.skip (.blk_n (.blk_n (.then_n ?_))))))
     exact .rk (pos + 1) (⟨by omega, all_next hpos hall (letter_of (by omega))⟩) (by omega) ⟨rfl, rfl, trivial⟩
    refine .condF rfl (.region (.m rfl (.ui rfl rfl rfl (.an rfl (.dec (t := 10) rfl (fun h10 => ?_) (fun h10 => ?_))))))
    ·refine .condT rfl (.skip (.blk_n (.blk_n (.then_n ?_))))
     exact .rk (pos + 1) (⟨by omega, all_next hpos hall (letter_of (by omega))⟩) (by omega) ⟨rfl, rfl, trivial⟩
    refine .condF rfl (.sr (.an rfl (.ret (.blk_r (.blk_r (.then_r (.blk_r (.then_r ?_))))))))
    have hz : isNameZ s = false := name_bad hpos (letter_not (by omega))
    rw [hz]
    exact .vv
   refine .kDF (t := 24) rfl h7_25 (.gk (.gk (.u (.pickF rfl rfl) (.an rfl (.condF rfl (.sm rfl (.ui rfl rfl rfl (.an rfl (.dec (t := 10) rfl (fun h10 => ?_) (fun h10 => ?_))))))))))
   ·refine .condT rfl (.sk (.condT rfl (.skip (.blk_n (.blk_n (.then_n ?_))))))
    exact .rk (pos + 1) (⟨by omega, all_next hpos hall (letter_of (by omega))⟩) (by omega) ⟨rfl, rfl, trivial⟩
   refine .condF rfl (.sm rfl (.ui rfl rfl rfl (.an rfl (.dec (t := 10) rfl (fun h10 => ?_) (fun h10 => ?_)))))
   ·refine .condT rfl (.sk (.condT rfl (.skip (.blk_n (.blk_n (.then_n ?_))))))
    exact .rk (pos + 1) (⟨by omega, all_next hpos hall (letter_of (by omega))⟩) (by omega) ⟨rfl, rfl, trivial⟩
   refine .condF rfl (.region (.m rfl (.ui rfl rfl rfl (.an rfl (.dec (t := 10) rfl (fun h10 => ?_) (fun h10 => ?_))))))
   ·refine .condT rfl (.skip (.blk_n (.blk_n (.then_n ?_))))
    exact .rk (pos + 1) (⟨by omega, all_next hpos hall (letter_of (by omega))⟩) (by omega) ⟨rfl, rfl, trivial⟩
   refine .condF rfl (.sr (.an rfl (.ret (.blk_r (.blk_r (.then_r (.blk_r (.then_r ?_))))))))
   have hz : isNameZ s = false := name_bad hpos (letter_not (by omega))
   rw [hz]
   exact .vv
  refine .kDF (t := 12) rfl h5_13 (.gk (.gk (.u (.pickF rfl rfl) (.an rfl (.condF rfl (.sm rfl (.ui rfl rfl rfl (.m rfl (.dec (t := 19) rfl (fun h6_19 => ?_) (fun h6_19 => ?_))))))))))
  ·refine .kDT (t := 18) rfl h6_19 (.grun (t := 19) rfl rfl rfl (.m rfl (.grun (t := 19) rfl rfl rfl (.ui rfl rfl rfl (.u (.pickT rfl rfl) (.an rfl (.dec (t := 10) rfl (fun h10 => ?_) (fun h10 => ?_))))))))
   ·refine .condT rfl (.sk (.condT rfl (.skip (.blk_n (.blk_n (.then_n ?_))))))
    exact .rk (pos + 1) (⟨by omega, all_next hpos hall (letter_of (by omega))⟩) (by omega) ⟨rfl, rfl, trivial⟩
   refine .condF rfl (.sm rfl (.ui rfl rfl rfl (.m rfl (.dec (t := 25) rfl (fun h7_25 => ?_) (fun h7_25 => ?_)))))
   ·refine .kDT (t := 24) rfl h7_25 (.grun (t := 25) rfl rfl rfl (.m rfl (.grun (t := 25) rfl rfl rfl (.ui rfl rfl rfl (.u (.pickT rfl rfl) (.an rfl (.dec (t := 10) rfl (fun h10 => ?_) (fun h10 => ?_))))))))
    ·refine .condT rfl (.sk (.condT rfl (.skip (.blk_n (.blk_n (.then_n ?_))))))
     exact .rk (pos + 1) (⟨by omega, all_next hpos hall (letter_of (by omega))⟩) (by omega) ⟨rfl, rfl, trivial⟩
    refine .condF rfl (.sm rfl (.ui rfl rfl rfl (.an rfl (.dec (t := 10) rfl (fun h10 => ?_) (fun h10 => ?_)))))
    ·refine .condT rfl (.sk (.condT rfl (.skip (.blk_n (.blk_n (.then_n ?_))))))
     exact .rk (pos + 1) (⟨by omega, all_next hpos hall (letter_of (by omega))⟩) (by omega) ⟨rfl, rfl, trivial⟩
    refine .condF rfl (.sm rfl (.ui rfl rfl rfl (.an rfl (.dec (t := 10) rfl (fun h10 => ?_) (fun h10 => ?_)))))
    ·refine .condT rfl (.sk (.condT rfl (.skip (.blk_n (.blk_n (.then_n ?_))))))
     exact .rk (pos + 1) (⟨by omega, all_next hpos hall (letter_of (by omega))⟩) (by omega) ⟨rfl, rfl, trivial⟩
    refine .condF rfl (.region (.m rfl (.ui rfl rfl rfl (.an rfl (.dec (t := 10) rfl (fun h10 => ?_) (fun h10 => ?_))))))
    ·refine .condT rfl (.skip (.blk_n (.blk_n (.then_n ?_))))
     exact .rk (pos + 1) (⟨by omega, all_next hpos hall (letter_of (by omega))⟩) (by omega) ⟨rfl, rfl, trivial⟩
    refine .condF rfl (.sr (.an rfl (.ret (.blk_r (.blk_r (.then_r (.blk_r (.then_r ?_))))))))
    have hz : isNameZ s = false := name_bad hpos (letter_not (by omega))
    rw [hz]
    exact .vv
   refine .kDF (t := 24) rfl h7_25 (.gk (.gk (.u (.pickF rfl rfl) (.an rfl (.condF rfl (.sm rfl (.ui rfl rfl rfl (.an rfl (.dec (t := 10) rfl (fun h10 => ?_) (fun h10 => ?_))))))))))
   ·refine .condT rfl (.sk (.condT rfl (.skip (.blk_n (.blk_n (.then_n ?_))))))
    exact .rk (pos + 1) (⟨by omega, all_next hpos hall (letter_of (by omega))⟩) (by omega) ⟨rfl, rfl, trivial⟩
   refine .condF rfl (.sm rfl (.ui rfl rfl rfl (.an rfl (.dec (t := 10) rfl (fun h10 => ?_) (fun h10 => ?_)))))
   ·refine .condT rfl (.sk (.condT rfl (.skip (.blk_n (.blk_n (.then_n ?_))))))
    exact .rk (pos + 1) (⟨by omega, all_next hpos hall (letter_of (by omega))⟩) (by omega) ⟨rfl, rfl, trivial⟩
   refine .condF rfl (.region (.m rfl (.ui rfl rfl rfl (.an rfl (.dec (t := 10) rfl (fun h10 => ?_) (fun h10 => ?_))))))
   ·refine .condT rfl (.skip (.blk_n (.blk_n (.then_n ?_))))
    exact .rk (pos + 1) (⟨by omega, all_next hpos hall (letter_of (by omega))⟩) (by omega) ⟨rfl, rfl, trivial⟩
   refine .condF rfl (.sr (.an rfl (.ret (.blk_r (.blk_r (.then_r (.blk_r (.then_r ?_))))))))
   have hz : isNameZ s = false := name_bad hpos (letter_not (by omega))
   rw [hz]
   exact .vv
  refine .kDF (t := 18) rfl h6_19 (.gk (.gk (.u (.pickF rfl rfl) (.an rfl (.condF rfl (.sm rfl (.ui rfl rfl rfl (.m rfl (.dec (t := 25) rfl (fun h7_25 => ?_) (fun h7_25 => ?_))))))))))
  ·refine .kDT (t := 24) rfl h7_25 (.grun (t := 25) rfl rfl rfl (.m rfl (.grun (t := 25) rfl rfl rfl (.ui rfl rfl rfl (.u (.pickT rfl rfl) (.an rfl (.dec (t := 10) rfl (fun h10 => ?_) (fun h10 => ?_))))))))
   ·refine .condT rfl (.sk (.condT rfl (.skip (.blk_n (.blk_n (.then_n ?_))))))
    exact .rk (pos + 1) (⟨by omega, all_next hpos hall (letter_of (by omega))⟩) (by omega) ⟨rfl, rfl, trivial⟩
   refine .condF rfl (.sm rfl (.ui rfl rfl rfl (.an rfl (.dec (t := 10) rfl (fun h10 => ?_) (fun h10 => ?_)))))
   ·refine .condT rfl (.sk (.condT rfl (.skip (.blk_n (.blk_n (.then_n ?_))))))
    exact .rk (pos + 1) (⟨by omega, all_next hpos hall (letter_of (by omega))⟩) (by omega) ⟨rfl, rfl, trivial⟩
   refine .condF rfl (.sm rfl (.ui rfl rfl rfl (.an rfl (.dec (t := 10) rfl (fun h10 => ?_) (fun h10 => ?_)))))
   ·refine .condT rfl (.sk (.condT rfl (.skip (.blk_n (.blk_n (.then_n ?_))))))
    exact .rk (pos + 1) (⟨by omega, all_next hpos hall (letter_of (by omega))⟩) (by omega) ⟨rfl, rfl, trivial⟩
   refine .condF rfl (.region (.m rfl (.ui rfl rfl rfl (.an rfl (.dec (t := 10) rfl (fun h10 => ?_) (fun h10 => ?_))))))
   ·refine .condT rfl (.skip (.blk_n (.blk_n (.then_n ?_))))
    exact .rk (pos + 1) (⟨by omega, all_next hpos hall (letter_of (by omega))⟩) (by omega) ⟨rfl, rfl, trivial⟩
   refine .condF rfl (.sr (.an rfl (.ret (.blk_r (.blk_r (.then_r (.blk_r (.then_r ?_))))))))
   have hz : isNameZ s = false := name_bad hpos (letter_not (by omega))
   rw [hz]
   exact .vv
  refine .kDF (t := 24) rfl h7_25 (.gk (.gk (.u (.pickF rfl rfl) (.an rfl (.condF rfl (.sm rfl (.ui rfl rfl rfl (.an rfl (.dec (t := 10) rfl (fun h10 => ?_) (fun h10 => ?_))))))))))
  ·refine .condT rfl (.sk (.condT rfl (.skip (.blk_n (.blk_n (.then_n ?_))))))
   exact .rk (pos + 1) (⟨by omega, all_next hpos hall (letter_of (by omega))⟩) (by omega) ⟨rfl, rfl, trivial⟩
  refine .condF rfl (.sm rfl (.ui rfl rfl rfl (.an rfl (.dec (t := 10) rfl (fun h10 => ?_) (fun h10 => ?_)))))
  ·refine .condT rfl (.sk (.condT rfl (.skip (.blk_n (.blk_n (.then_n ?_))))))
   exact .rk (pos + 1) (⟨by omega, all_next hpos hall (letter_of (by omega))⟩) (by omega) ⟨rfl, rfl, trivial⟩
  refine .condF rfl (.region (.m rfl (.ui rfl rfl rfl (.an rfl (.dec (t := 10) rfl (fun h10 => ?_) (fun h10 => ?_))))))
  ·refine .condT rfl (.skip (.blk_n (.blk_n (.then_n ?_))))
   exact .rk (pos + 1) (⟨by omega, all_next hpos hall (letter_of (by omega))⟩) (by omega) ⟨rfl, rfl, trivial⟩
  refine .condF rfl (.sr (.an rfl (.ret (.blk_r (.blk_r (.then_r (.blk_r (.then_r ?_))))))))
  have hz : isNameZ s = false := name_bad hpos (letter_not (by omega))
  rw [hz]
  exact .vv
 obtain ⟨hd1, hd2⟩ := decode_high hpos (by omega)
 generalize Utf8.decode (bs s) pos = dc at *
 refine .u (.extract rfl rfl) (.an rfl (.block (.seq (.sm rfl (.ui rfl rfl rfl (.m rfl (.dec (t := 13) rfl (fun h5_13 => ?_) (fun h5_13 => ?_))))))))
 ·refine .kDT (t := 12) rfl h5_13 (.grun (t := 13) rfl rfl rfl (.m rfl (.grun (t := 13) rfl rfl rfl (.ui rfl rfl rfl (.u (.pickT rfl rfl) (.an rfl (.dec (t := 10) rfl (fun h10 => ?_) (fun h10 => ?_))))))))
  ·exfalso; omega
  refine .condF rfl (.sm rfl (.ui rfl rfl rfl (.m rfl (.dec (t := 19) rfl (fun h6_19 => ?_) (fun h6_19 => ?_)))))
  ·refine .kDT (t := 18) rfl h6_19 (.grun (t := 19) rfl rfl rfl (.m rfl (.grun (t := 19) rfl rfl rfl (.ui rfl rfl rfl (.u (.pickT rfl rfl) (.an rfl (.dec (t := 10) rfl (fun h10 => ?_) (fun h10 => ?_))))))))
   ·exfalso; omega
   refine .condF rfl (.sm rfl (.ui rfl rfl rfl (.m rfl (.dec (t := 25) rfl (fun h7_25 => ?_) (fun h7_25 => ?_)))))
   ·refine .kDT (t := 24) rfl h7_25 (.grun (t := 25) rfl rfl rfl (.m rfl (.grun (t := 25) rfl rfl rfl (.ui rfl rfl rfl (.u (.pickT rfl rfl) (.an rfl (.dec (t := 10) rfl (fun h10 => ?_) (fun h10 => ?_))))))))
    ·exfalso; omega
    refine .condF rfl (.sm rfl (.ui rfl rfl rfl (.an rfl (.dec (t := 10) rfl (fun h10 => ?_) (fun h10 => ?_)))))
    ·exfalso; omega
    refine .condF rfl (.sm rfl (.ui rfl rfl rfl (.an rfl (.dec (t := 10) rfl (fun h10 => ?_) (fun h10 => ?_)))))
    ·exfalso; omega
    refine .condF rfl (.region (.m rfl (.ui rfl rfl rfl (.an rfl (.dec (t := 10) rfl (fun h10 => ?_) (fun h10 => ?_))))))
    ·exfalso; omega
    refine .condF rfl (.sr (.an rfl (.ret (.blk_r (.blk_r (.then_r (.blk_r (.then_r ?_))))))))
    have hz : isNameZ s = false := name_bad hpos (letter_not (by omega))
    rw [hz]
    exact .vv
   refine .kDF (t := 24) rfl h7_25 (.gk (.gk (.u (.pickF rfl rfl) (.an rfl (.condF rfl (.sm rfl (.ui rfl rfl rfl (.an rfl (.dec (t := 10) rfl (fun h10 => ?_) (fun h10 => ?_))))))))))
   ·exfalso; omega
   refine .condF rfl (.sm rfl (.ui rfl rfl rfl (.an rfl (.dec (t := 10) rfl (fun h10 => ?_) (fun h10 => ?_)))))
   ·exfalso; omega
   refine .condF rfl (.region (.m rfl (.ui rfl rfl rfl (.an rfl (.dec (t := 10) rfl (fun h10 => ?_) (fun h10 => ?_))))))
   ·exfalso; omega
   refine .condF rfl (.sr (.an rfl (.ret (.blk_r (.blk_r (.then_r (.blk_r (.then_r ?_))))))))
   have hz : isNameZ s = false := name_bad hpos (letter_not (by omega))
   rw [hz]
   exact .vv
  refine .kDF (t := 18) rfl h6_19 (.gk (.gk (.u (.pickF rfl rfl) (.an rfl (.condF rfl (.sm rfl (.ui rfl rfl rfl (.m rfl (.dec (t := 25) rfl (fun h7_25 => ?_) (fun h7_25 => ?_))))))))))
  ·refine .kDT (t := 24) rfl h7_25 (.grun (t := 25) rfl rfl rfl (.m rfl (.grun (t := 25) rfl rfl rfl (.ui rfl rfl rfl (.u (.pickT rfl rfl) (.an rfl (.dec (t := 10) rfl (fun h10 => ?_) (fun h10 => ?_))))))))
   ·exfalso; omega
   refine .condF rfl (.sm rfl (.ui rfl rfl rfl (.an rfl (.dec (t := 10) rfl (fun h10 => ?_) (fun h10 => ?_)))))
   ·exfalso; omega
   refine .condF rfl (.sm rfl (.ui rfl rfl rfl (.an rfl (.dec (t := 10) rfl (fun h10 => ?_) (fun h10 => ?_)))))
   ·exfalso; omega
   refine .condF rfl (.region (.m rfl (.ui rfl rfl rfl (.an rfl (.dec (t := 10) rfl (fun h10 => ?_) (fun h10 => ?_))))))
   ·exfalso; omega
   refine .condF rfl (.sr (.an rfl (.ret (.blk_r (.blk_r (.then_r (.blk_r (.then_r ?_))))))))
   have hz : isNameZ s = false := name_bad hpos (letter_not (by omega))
   rw [hz]
   exact .vv
  refine .kDF (t := 24) rfl h7_25 (.gk (.gk (.u (.pickF rfl rfl) (.an rfl (.condF rfl (.sm rfl (.ui rfl rfl rfl (.an rfl (.dec (t := 10) rfl (fun h10 => ?_) (fun h10 => ?_))))))))))
  ·exfalso; omega
  refine .condF rfl (.sm rfl (.ui rfl rfl rfl (.an rfl (.dec (t := 10) rfl (fun h10 => ?_) (fun h10 => ?_)))))
  ·exfalso; omega
  refine .condF rfl (.region (.m rfl (.ui rfl rfl rfl (.an rfl (.dec (t := 10) rfl (fun h10 => ?_) (fun h10 => ?_))))))
  ·exfalso; omega
  refine .condF rfl (.sr (.an rfl (.ret (.blk_r (.blk_r (.then_r (.blk_r (.then_r ?_))))))))
  have hz : isNameZ s = false := name_bad hpos (letter_not (by omega))
  rw [hz]
  exact .vv
 refine .kDF (t := 12) rfl h5_13 (.gk (.gk (.u (.pickF rfl rfl) (.an rfl (.condF rfl (.sm rfl (.ui rfl rfl rfl (.m rfl (.dec (t := 19) rfl (fun h6_19 => ?_) (fun h6_19 => ?_))))))))))
 ·refine .kDT (t := 18) rfl h6_19 (.grun (t := 19) rfl rfl rfl (.m rfl (.grun (t := 19) rfl rfl rfl (.ui rfl rfl rfl (.u (.pickT rfl rfl) (.an rfl (.dec (t := 10) rfl (fun h10 => ?_) (fun h10 => ?_))))))))
  ·exfalso; omega
  refine .condF rfl (.sm rfl (.ui rfl rfl rfl (.m rfl (.dec (t := 25) rfl (fun h7_25 => ?_) (fun h7_25 => ?_)))))
  ·refine .kDT (t := 24) rfl h7_25 (.grun (t := 25) rfl rfl rfl (.m rfl (.grun (t := 25) rfl rfl rfl (.ui rfl rfl rfl (.u (.pickT rfl rfl) (.an rfl (.dec (t := 10) rfl (fun h10 => ?_) (fun h10 => ?_))))))))
   ·exfalso; omega
   refine .condF rfl (.sm rfl (.ui rfl rfl rfl (.an rfl (.dec (t := 10) rfl (fun h10 => ?_) (fun h10 => ?_)))))
   ·exfalso; omega
   refine .condF rfl (.sm rfl (.ui rfl rfl rfl (.an rfl (.dec (t := 10) rfl (fun h10 => ?_) (fun h10 => ?_)))))
   ·exfalso; omega
   refine .condF rfl (.region (.m rfl (.ui rfl rfl rfl (.an rfl (.dec (t := 10) rfl (fun h10 => ?_) (fun h10 => ?_))))))
   ·exfalso; omega
   refine .condF rfl (.sr (.an rfl (.ret (.blk_r (.blk_r (.then_r (.blk_r (.then_r ?_))))))))
   have hz : isNameZ s = false := name_bad hpos (letter_not (by omega))
   rw [hz]
   exact .vv
  refine .kDF (t := 24) rfl h7_25 (.gk (.gk (.u (.pickF rfl rfl) (.an rfl (.condF rfl (.sm rfl (.ui rfl rfl rfl (.an rfl (.dec (t := 10) rfl (fun h10 => ?_) (fun h10 => ?_))))))))))
  ·exfalso; omega
  refine .condF rfl (.sm rfl (.ui rfl rfl rfl (.an rfl (.dec (t := 10) rfl (fun h10 => ?_) (fun h10 => ?_)))))
  ·exfalso; omega
  refine .condF rfl (.region (.m rfl (.ui rfl rfl rfl (.an rfl (.dec (t := 10) rfl (fun h10 => ?_) (fun h10 => ?_))))))
  ·exfalso; omega
  refine .condF rfl (.sr (.an rfl (.ret (.blk_r (.blk_r (.then_r (.blk_r (.then_r ?_))))))))
  have hz : isNameZ s = false := name_bad hpos (letter_not (by omega))
  rw [hz]
  exact .vv
 refine .kDF (t := 18) rfl h6_19 (.gk (.gk (.u (.pickF rfl rfl) (.an rfl (.condF rfl (.sm rfl (.ui rfl rfl rfl (.m rfl (.dec (t := 25) rfl (fun h7_25 => ?_) (fun h7_25 => ?_))))))))))
 ·refine .kDT (t := 24) rfl h7_25 (.grun (t := 25) rfl rfl rfl (.m rfl (.grun (t := 25) rfl rfl rfl (.ui rfl rfl rfl (.u (.pickT rfl rfl) (.an rfl (.dec (t := 10) rfl (fun h10 => ?_) (fun h10 => ?_))))))))
  ·exfalso; omega
  refine .condF rfl (.sm rfl (.ui rfl rfl rfl (.an rfl (.dec (t := 10) rfl (fun h10 => ?_) (fun h10 => ?_)))))
  ·exfalso; omega
  refine .condF rfl (.sm rfl (.ui rfl rfl rfl (.an rfl (.dec (t := 10) rfl (fun h10 => ?_) (fun h10 => ?_)))))
  ·exfalso; omega
  refine .condF rfl (.region (.m rfl (.ui rfl rfl rfl (.an rfl (.dec (t := 10) rfl (fun h10 => ?_) (fun h10 => ?_))))))
  ·exfalso; omega
  refine .condF rfl (.sr (.an rfl (.ret (.blk_r (.blk_r (.then_r (.blk_r (.then_r ?_))))))))
  have hz : isNameZ s = false := name_bad hpos (letter_not (by omega))
  rw [hz]
  exact .vv
 refine .kDF (t := 24) rfl h7_25 (.gk (.gk (.u (.pickF rfl rfl) (.an rfl (.condF rfl (.sm rfl (.ui rfl rfl rfl (.an rfl (.dec (t := 10) rfl (fun h10 => ?_) (fun h10 => ?_))))))))))
 ·exfalso; omega
 refine .condF rfl (.sm rfl (.ui rfl rfl rfl (.an rfl (.dec (t := 10) rfl (fun h10 => ?_) (fun h10 => ?_)))))
 ·exfalso; omega
 refine .condF rfl (.region (.m rfl (.ui rfl rfl rfl (.an rfl (.dec (t := 10) rfl (fun h10 => ?_) (fun h10 => ?_))))))
 ·exfalso; omega
 refine .condF rfl (.sr (.an rfl (.ret (.blk_r (.blk_r (.then_r (.blk_r (.then_r ?_))))))))
 have hz : isNameZ s = false := name_bad hpos (letter_not (by omega))
 rw [hz]
 exact .vv
theorem split_head {s : Bs} : ∃ h t, splitZ s = h :: t := by
 rcases h : splitZ s with _ | ⟨a, t⟩
 ·exact absurd h (splitZ_ne s)
 ·exact ⟨a, t, rfl⟩
theorem check_spec (s : Bs) (hs : s.length ≤ 1048576) : Fn Tryz.prog 87 #[vstr s] [] fun v L => v = vint (checkZ s) ∧ L = [] := by
 refine Fn.intro Tryz.func87 rfl rfl fun F W => ?_
 obtain ⟨hd, tl, hspl⟩ := split_head (s := s)
 have hspn := split_len s
 have hcl : s.count 47 ≤ s.length := List.count_le_length
 have hln : (splitZ s).length = tl.length + 1 := by rw [hspl]; rfl
 refine .sr (.an rfl (.seq (.sm rfl (.u (.streq rfl rfl) (.nt (.condD rfl (fun h7 => ?_) (fun h7 => ?_)))))))
 ·refine .sr (.an rfl (.rt ?_))
  have e : checkZ s = 0 := by unfold checkZ; rw [if_pos h7]
  rw [e]
  exact .vv
 refine .sk (.sm rfl (.oq (.c Tryz.func168 [_, _] (split_spec _ ?hs6)) ?_))
 case hs6 => assumption
 rintro v L' ⟨bb, rfl, rfl⟩
 refine .an rfl (.seq (.sm rfl (.q (.indexAddr rfl rfl el_38 (by omega)) rfl (.q (.loadSl (v := vstr hd) (i := 0) rfl ag_9 (by repeat' constructor) (by rw [hspl]; rfl)) rfl (.u (.strne rfl rfl) (.m rfl (.ndec (t := 14) rfl (fun h4_14 => ?_) (fun h4_14 => ?_))))))))
 ·refine .kNT (t := 13) rfl h4_14 (.gk (.gk (.gk (.u (.pickT rfl rfl) (.nt (.condT rfl (.sr (.an rfl (.rt ?_)))))))))
  have e : checkZ s = 40 := by unfold checkZ; rw [if_neg h7, if_pos (by rw [hspl]; first | exact .inl (by simpa using h4_14) | exact .inr (.inl (by rw [← hspl]; omega)))]
  rw [e]
  exact .vv
 refine .kNF (t := 13) rfl h4_14 (.grun (t := 14) rfl rfl rfl (.m rfl (.grun (t := 14) rfl rfl rfl (.q (.slen rfl Tryz.underlying38 rfl) rfl (.grun (t := 14) rfl rfl rfl (.ui rfl rfl rfl (.u (.pickF rfl rfl) (.nt (.condD rfl (fun h18 => ?_) (fun h18 => ?_))))))))))
 ·refine .sr (.an rfl (.rt ?_))
  have e : checkZ s = 40 := by unfold checkZ; rw [if_neg h7, if_pos (by rw [hspl]; first | exact .inl (by simpa using h4_14) | exact .inr (.inl (by rw [← hspl]; omega)))]
  rw [e]
  exact .vv
 refine .sk (.seq (.seq ?_))
 have hh0 : hd = [] := by simpa using h4_14
 have hn1 : (splitZ s).length ≠ 1 := by omega
 refine .region (.m rfl (.q (.to (v' := .slice (some ⟨bb, 1, none⟩) tl.length tl.length) (.slSlice (i := 1) (j := ((splitZ s).length : Int)) rfl el_38 rfl rfl (by omega)) (by rw [hln, if_neg (show ¬ tl.length + 1 = (1 : Int).toNat by rw [show (1 : Int).toNat = 1 from rfl]; omega)]; simp)) rfl (.q (.slen rfl Tryz.underlying38 rfl) rfl (.m rfl (.nt (.block (.loopK (ι := Nat) (fun q E => (22, vint q) :: E) (fun q => []) (fun q => q ≤ tl.length ∧ (tl.take q).all isNameZ = true) (fun q => tl.length - q) (0) (ts := [0, 3, 20, 21]) (.cons rfl (.cons rfl (.cons rfl (.cons rfl (.nil))))) (⟨Nat.zero_le _, rfl⟩) ⟨rfl, rfl, rfl, rfl, rfl, trivial⟩ (by repeat' constructor) ?_)))))))
 rintro i ⟨hi, hall⟩
 refine .sr (.ui rfl rfl rfl (.nt (.seq (.condD rfl (fun h23 => ?_) (fun h23 => ?_)))))
 ·have hi2 : i < tl.length := by omega
  have hname0 := rfl (a := isNameZ tl[i])
  refine .sk (.seq (.block (.sr (.q (.indexAddr rfl rfl el_38 (by omega)) rfl (.q (.loadRd (sz := 1) (j := i + 1) (p := slR 9 1 (.slice (some ⟨bb, 0, none⟩) (splitZ s).length (splitZ s).length) (splitZ s).length (strs (splitZ s))) (v := vstr tl[i]) rfl ag_9 (by repeat' constructor) (fun h hp => slR_rd hp) (by simp; omega) (by rw [hspl]; simp [hi2])) rfl (.an rfl (.sm rfl (.cv Tryz.func169 [_] (isname_spec _) ?_))))))))
  refine .u (.not rfl) (.nt (.condB rfl (fun h28 => ?_) (fun h28 => ?_)))
  ·have hname : isNameZ tl[i] = false := by simpa using h28
   refine .sr (.an rfl (.ret (.blk_r (.then_r (.then_r (.blk_r (.then_r ?_)))))))
   have e : checkZ s = 40 := by unfold checkZ; rw [if_neg h7, if_pos (.inr (.inr (by rw [hspl, List.tail_cons, ← Bool.not_eq_true]; intro g; have := List.all_eq_true.1 g _ (List.getElem_mem hi2); rw [hname] at this; cases this)))]
   rw [e]
   exact .vv
  have hname : isNameZ tl[i] = true := by simpa using h28
  refine .skip (.blk_n (.then_n (.region (.q (.add rfl rfl (by omega)) rfl (.m rfl (.nt ?_))))))
  exact .rk (i + 1) (⟨by omega, by rw [List.take_succ_eq_append_getElem hi2, List.all_append, hall]; simp [hname]⟩) (by omega) ⟨rfl, rfl, rfl, rfl, rfl, trivial⟩
 have hii : i = tl.length := by omega
 rw [hii, List.take_length] at hall
 refine .exit (.then_e (.then_e (.blk_e (.then_n (.seq (.sm rfl (.q (.strlen rfl Tryz.underlying9 rfl) rfl (.ui rfl rfl rfl (.m rfl (.dec (t := 33) rfl (fun h12_33 => ?_) (fun h12_33 => ?_)))))))))))
 ·refine .kDT (t := 32) rfl h12_33 (.gk (.gk (.gk (.gk (.u (.pickT rfl rfl) (.nt (.condT rfl (.sr (.an rfl (.rt ?_))))))))))
  have e : checkZ s = 41 := by unfold checkZ; rw [if_neg h7, if_neg (by rw [hspl, List.head?_cons, List.tail_cons, hall, hh0]; rintro (h | h | h); exact h rfl; rw [← hh0, ← hspl] at h; exact hn1 h; cases h), if_pos (by first | exact .inl (by omega) | exact .inr (by omega))]
  rw [e]
  exact .vv
 refine .kDF (t := 32) rfl h12_33 (.grun (t := 33) rfl rfl rfl (.m rfl (.grun (t := 33) rfl rfl rfl (.q (.slen rfl Tryz.underlying38 rfl) rfl (.grun (t := 33) rfl rfl rfl (.q (.sub rfl rfl (by omega)) rfl (.grun (t := 33) rfl rfl rfl (.ui rfl rfl rfl (.u (.pickF rfl rfl) (.nt (.condD rfl (fun h38 => ?_) (fun h38 => ?_))))))))))))
 ·refine .sr (.an rfl (.rt ?_))
  have e : checkZ s = 41 := by unfold checkZ; rw [if_neg h7, if_neg (by rw [hspl, List.head?_cons, List.tail_cons, hall, hh0]; rintro (h | h | h); exact h rfl; rw [← hh0, ← hspl] at h; exact hn1 h; cases h), if_pos (by first | exact .inl (by omega) | exact .inr (by omega))]
  rw [e]
  exact .vv
 refine .sk (.sr (.an rfl (.ret ?_)))
 have e : checkZ s = 0 := by unfold checkZ; rw [if_neg h7, if_neg (by rw [hspl, List.head?_cons, List.tail_cons, hall, hh0]; rintro (h | h | h); exact h rfl; rw [← hh0, ← hspl] at h; exact hn1 h; cases h), if_neg (by rintro (h | h) <;> omega)]
 rw [e]
 exact .vv
theorem lastidx0_spec (s : Bs) (hs : s.length ≤ 1099511627776) : Fn Tryz.prog 216 #[vstr s, .int .u8 47] [] fun v L => v = vint (lidxZ s) ∧ L = [] := by
 refine Fn.intro Tryz.func216 rfl rfl fun F W => ?_
 have hbs := bs_size s
 refine .sr (.an rfl (.seq (.sm rfl (.q (.strlen rfl Tryz.underlying9 rfl) rfl (.q (.sub rfl rfl (by omega)) rfl (.an rfl (.block (.loopK (ι := Nat) (fun q E => (5, vint (dnL s.length q)) :: E) (fun q => []) (fun q => q ≤ s.length ∧ lidxTo s (s.length - q) = lidxZ s) (fun q => s.length - q) (0) (ts := [0, 1]) (.cons rfl (.cons rfl (.nil))) (⟨Nat.zero_le _, rfl⟩) ⟨rfl, rfl, rfl, trivial⟩ (by repeat' constructor) ?_))))))))
 rintro k ⟨hk, hl⟩
 have hdn := dnL_eq s.length k
 refine .seq (.sm rfl (.ui rfl rfl rfl (.nt (.condD rfl (fun h10 => ?_) (fun h10 => ?_)))))
 ·have hk2 : k < s.length := by omega
  have hat : s[s.length - (k + 1)] = s.getD (s.length - (k + 1)) 0 := by rw [List.getD_eq_getElem?_getD, List.getElem?_eq_getElem (by omega), Option.getD_some]
  refine .sk (.seq (.block (.sm rfl (.m rfl (.q (.strIndex (c := s[s.length - (k + 1)]) rfl rfl Tryz.underlying9 (by omega) (by rw [show (dnL s.length k).toNat = s.length - (k + 1) by omega]; simp [show s.length - (k + 1) < s.length by omega])) rfl (.m rfl (.ui rfl rfl rfl (.nt (.condD rfl (fun h17 => ?_) (fun h17 => ?_))))))))))
  ·have he : s.getD (s.length - (k + 1)) 0 = 47 := by rw [← hat]; exact byte_eq h17
   refine .sm rfl (.an rfl (.ret (.blk_r (.then_r (.then_r (.blk_r (.then_r ?_)))))))
   exact .dn rfl rfl ⟨by rw [← hl, show s.length - k = (s.length - (k + 1)) + 1 by omega, lidxTo, if_pos he, hdn]; congr 1; omega, rfl⟩
  have hne : ¬ s.getD (s.length - (k + 1)) 0 = 47 := by rw [← hat]; exact fun e => h17 (by rw [e]; rfl)
  refine .skip (.blk_n (.then_n (.region (.m rfl (.q (.sub rfl rfl (by omega)) rfl (.an rfl ?_))))))
  exact .rk (k + 1) (⟨by omega, by rw [← hl, show s.length - k = (s.length - (k + 1)) + 1 by omega, lidxTo, if_neg hne]⟩) (by omega) ⟨rfl, rfl, rfl, trivial⟩
 refine .exit (.then_e (.then_e (.blk_e (.then_n (.sr (.an rfl (.ret ?_)))))))
 exact .dn rfl rfl ⟨by rw [← hl, show s.length - k = 0 by omega]; rfl, rfl⟩
theorem lastidx_spec (s : Bs) (hs : s.length ≤ 1099511627776) : Fn Tryz.prog 141 #[vstr s, .int .u8 47] [] fun v L => v = vint (lidxZ s) ∧ L = [] := by
 refine Fn.intro Tryz.func141 rfl rfl fun F W => ?_
 refine .sr (.an rfl (.sm rfl (.m rfl (.oq (.c Tryz.func216 [_, _] (lastidx0_spec _ ?hs4)) ?_))))
 case hs4 => assumption
 rintro v L' ⟨rfl, rfl⟩
 refine .an rfl (.ret ?_)
 exact .vv
theorem parent_spec (s : Bs) (hs : s.length ≤ 1099511627776) : Fn Tryz.prog 81 #[vstr s] [] fun v L => v = vstr (parentZ s) ∧ L = [] := by
 refine Fn.intro Tryz.func81 rfl rfl fun F W => ?_
 have hr := lidx_range s
 refine .sr (.an rfl (.sm rfl (.oq (.c Tryz.func141 [_, _] (lastidx_spec _ ?hs3)) ?_)))
 case hs3 => assumption
 rintro v L' ⟨rfl, rfl⟩
 refine .an rfl (.block (.sm rfl (.ui rfl rfl rfl (.m rfl (.dec (t := 12) rfl (fun h3_12 => ?_) (fun h3_12 => ?_))))))
 ·refine .kDT (t := 11) rfl h3_12 (.gk (.gk (.u (.pickT rfl rfl) (.an rfl (.condT rfl (.sr (.an rfl (.ret (.blk_r ?_)))))))))
  exact .dn rfl rfl ⟨by unfold parentZ; rw [if_pos (by first | exact .inl (by omega) | exact .inr (by assumption))], rfl⟩
 refine .kDF (t := 11) rfl h3_12 (.grun (t := 12) rfl rfl rfl (.m rfl (.grun (t := 12) rfl rfl rfl (.u (.streq rfl rfl) (.u (.pickF rfl rfl) (.an rfl (.dec (t := 9) rfl (fun h9 => ?_) (fun h9 => ?_))))))))
 ·refine .condT rfl (.sr (.an rfl (.ret (.blk_r ?_))))
  exact .dn rfl rfl ⟨by unfold parentZ; rw [if_pos (by first | exact .inl (by omega) | exact .inr (by assumption))], rfl⟩
 refine .condF rfl (.sm rfl (.ui rfl rfl rfl (.an rfl (.condD rfl (fun h16 => ?_) (fun h16 => ?_)))))
 ·refine .sr (.an rfl (.ret (.blk_r ?_)))
  exact .dn rfl rfl ⟨by unfold parentZ; rw [if_neg (by rintro (g | g); omega; exact absurd g h9), if_pos h16], rfl⟩
 refine .sm rfl (.m rfl (.q (.strTo rfl rfl Tryz.underlying9 (by omega)) rfl (.an rfl (.ret (.blk_r ?_)))))
 exact .dn rfl rfl ⟨by unfold parentZ; rw [if_neg (by rintro (g | g); omega; exact absurd g h9), if_neg h16], rfl⟩
theorem base_spec (s : Bs) (hs : s.length ≤ 1099511627776) : Fn Tryz.prog 211 #[vstr s] [] fun v L => v = vstr (baseZ s) ∧ L = [] := by
 refine Fn.intro Tryz.func211 rfl rfl fun F W => ?_
 have hr := lidx_range s
 refine .sr (.an rfl (.sm rfl (.m rfl (.oq (.c Tryz.func141 [_, _] (lastidx_spec _ ?hs4)) ?_))))
 case hs4 => assumption
 rintro v L' ⟨rfl, rfl⟩
 refine .q (.add rfl rfl (by omega)) rfl (.q (.strFrom rfl rfl Tryz.underlying9 (by omega)) rfl (.an rfl (.ret ?_)))
 exact .vv
theorem hasprefix0_spec (s q : Bs) : Fn Tryz.prog 228 #[vstr s, vstr q] [] fun v L => v = .bool (decide (pfx q s)) ∧ L = [] := by
 refine Fn.intro Tryz.func228 rfl rfl fun F W => ?_
 have h1 := bs_size s
 have h2 := bs_size q
 refine .sr (.an rfl (.sm rfl (.q (.strlen rfl Tryz.underlying9 rfl) rfl (.m rfl (.q (.strlen rfl Tryz.underlying9 rfl) rfl (.ui rfl rfl rfl (.m rfl (.dec (t := 10) rfl (fun h1_10 => ?_) (fun h1_10 => ?_)))))))))
 ·refine .kDT (t := 9) rfl h1_10 (.grun (t := 10) rfl rfl rfl (.m rfl (.grun (t := 10) rfl rfl rfl (.m rfl (.grun (t := 10) rfl rfl rfl (.q (.strlen rfl Tryz.underlying9 rfl) rfl (.grun (t := 10) rfl rfl rfl (.q (.to (v' := vstr (s.take q.length)) (.strTo rfl rfl Tryz.underlying9 (by omega)) (by rw [Int.toNat_natCast])) rfl (.grun (t := 10) rfl rfl rfl (.m rfl (.grun (t := 10) rfl rfl rfl (.u (.streq rfl rfl) (.u (.pickT rfl rfl) (.an rfl (.ret ?_)))))))))))))))
  exact .vv
 refine .kDF (t := 9) rfl h1_10 (.gk (.gk (.gk (.gk (.gk (.gk (.u (.pickF rfl rfl) (.an rfl (.ret ?_)))))))))
 exact .dn rfl rfl ⟨by rw [decide_eq_false (fun e => by unfold pfx at e; have := congrArg List.length e; rw [List.length_take] at this; omega)], rfl⟩
theorem hasprefix_spec (s q : Bs) : Fn Tryz.prog 175 #[vstr s, vstr q] [] fun v L => v = .bool (decide (pfx q s)) ∧ L = [] := by
 refine Fn.intro Tryz.func175 rfl rfl fun F W => ?_
 refine .sr (.an rfl (.sm rfl (.m rfl (.cv Tryz.func228 [_, _] (hasprefix0_spec _ _) ?_))))
 refine .an rfl (.ret ?_)
 exact .vv
theorem hassuffix0_spec (s q : Bs) (hs : s.length ≤ 1099511627776) (hq : q.length ≤ 1099511627776) : Fn Tryz.prog 295 #[vstr s, vstr q] [] fun v L => v = .bool (decide (sfx q s)) ∧ L = [] := by
 refine Fn.intro Tryz.func295 rfl rfl fun F W => ?_
 have h1 := bs_size s
 have h2 := bs_size q
 refine .sr (.an rfl (.sm rfl (.q (.strlen rfl Tryz.underlying9 rfl) rfl (.m rfl (.q (.strlen rfl Tryz.underlying9 rfl) rfl (.ui rfl rfl rfl (.m rfl (.dec (t := 10) rfl (fun h1_10 => ?_) (fun h1_10 => ?_)))))))))
 ·refine .kDT (t := 9) rfl h1_10 (.grun (t := 10) rfl rfl rfl (.m rfl (.grun (t := 10) rfl rfl rfl (.m rfl (.grun (t := 10) rfl rfl rfl (.q (.strlen rfl Tryz.underlying9 rfl) rfl (.grun (t := 10) rfl rfl rfl (.m rfl (.grun (t := 10) rfl rfl rfl (.q (.strlen rfl Tryz.underlying9 rfl) rfl (.grun (t := 10) rfl rfl rfl (.q (.sub rfl rfl (by omega)) rfl (.grun (t := 10) rfl rfl rfl (.q (.to (v' := vstr (s.drop (s.length - q.length))) (.strFrom rfl rfl Tryz.underlying9 (by omega)) (by rw [show ((s.length : Int) - (q.length : Int)).toNat = s.length - q.length by omega])) rfl (.grun (t := 10) rfl rfl rfl (.m rfl (.grun (t := 10) rfl rfl rfl (.u (.streq rfl rfl) (.u (.pickT rfl rfl) (.an rfl (.ret ?_)))))))))))))))))))))
  exact .dn rfl rfl ⟨by congr 1; exact decide_eq_decide.2 ⟨fun e => ⟨by omega, e⟩, fun e => e.2⟩, rfl⟩
 refine .kDF (t := 9) rfl h1_10 (.gk (.gk (.gk (.gk (.gk (.gk (.gk (.gk (.gk (.u (.pickF rfl rfl) (.an rfl (.ret ?_))))))))))))
 exact .dn rfl rfl ⟨by rw [decide_eq_false (fun e => by have := e.1; omega)], rfl⟩
theorem trimsuffix0_spec (s q : Bs) (hs : s.length ≤ 1099511627776) (hq : q.length ≤ 1099511627776) : Fn Tryz.prog 285 #[vstr s, vstr q] [] fun v L => v = vstr (trimZ s q) ∧ L = [] := by
 refine Fn.intro Tryz.func285 rfl rfl fun F W => ?_
 have h1 := bs_size s
 have h2 := bs_size q
 refine .sr (.an rfl (.seq (.sm rfl (.m rfl (.oq (.c Tryz.func295 [_, _] (hassuffix0_spec _ _ ?hs4 ?hq5)) ?_)))))
 case hs4 => assumption
 case hq5 => assumption
 rintro v L' ⟨rfl, rfl⟩
 refine .nt (.condD rfl (fun h7 => ?_) (fun h7 => ?_))
 ·have hsf := h7.1
  refine .sm rfl (.m rfl (.q (.strlen rfl Tryz.underlying9 rfl) rfl (.m rfl (.q (.strlen rfl Tryz.underlying9 rfl) rfl (.q (.sub rfl rfl (by omega)) rfl (.q (.to (v' := vstr (trimZ s q)) (.strTo rfl rfl Tryz.underlying9 (by omega)) (by unfold trimZ; rw [if_pos h7, show ((s.length : Int) - (q.length : Int)).toNat = s.length - q.length by omega])) rfl (.an rfl (.rt ?_))))))))
  exact .vv
 refine .sk (.sm rfl (.an rfl (.ret ?_)))
 exact .dn rfl rfl ⟨by unfold trimZ; rw [if_neg h7], rfl⟩
theorem trimsuffix_spec (s q : Bs) (hs : s.length ≤ 1099511627776) (hq : q.length ≤ 1099511627776) : Fn Tryz.prog 264 #[vstr s, vstr q] [] fun v L => v = vstr (trimZ s q) ∧ L = [] := by
 refine Fn.intro Tryz.func264 rfl rfl fun F W => ?_
 refine .sr (.an rfl (.sm rfl (.m rfl (.oq (.c Tryz.func285 [_, _] (trimsuffix0_spec _ _ ?hs4 ?hq5)) ?_))))
 case hs4 => assumption
 case hq5 => assumption
 rintro v L' ⟨rfl, rfl⟩
 refine .an rfl (.ret ?_)
 exact .vv
theorem slashof_spec (s : Bs) : Fn Tryz.prog 265 #[vstr s] [] fun v L => v = vstr (if s = [47] then [47] else []) ∧ L = [] := by
 refine Fn.intro Tryz.func265 rfl rfl fun F W => ?_
 refine .sr (.an rfl (.seq (.sm rfl (.u (.streq rfl rfl) (.nt (.condD rfl (fun h4 => ?_) (fun h4 => ?_)))))))
 ·refine .sr (.an rfl (.rt ?_))
  exact .dn rfl rfl ⟨by rw [if_pos h4], rfl⟩
 refine .sk (.sr (.an rfl (.ret ?_)))
 exact .dn rfl rfl ⟨by rw [if_neg h4], rfl⟩
theorem kid_spec (s name : Bs) (hs : s.length ≤ 1099511627776) (hn : name.length ≤ 1099511627776) : Fn Tryz.prog 244 #[vstr s, vstr name] [] fun v L => v = vstr (kidZ s name) ∧ L = [] := by
 refine Fn.intro Tryz.func244 rfl rfl fun F W => ?_
 have htl : (trimZ s (if s = [47] then [47] else [])).length ≤ s.length := trim_len _ _
 refine .sr (.an rfl (.sm rfl (.m rfl (.cv Tryz.func265 [_] (slashof_spec _) ?_))))
 refine .oq (.c Tryz.func264 [_, _] (trimsuffix_spec _ _ ?hs6 ?hq7)) ?_
 case hs6 => assumption
 case hq7 => first | assumption | (split <;> simp) | simp
 rintro v L' ⟨rfl, rfl⟩
 refine .q (.concat rfl rfl (by simp; omega)) rfl (.m rfl (.q (.concat rfl rfl (by simp; omega)) rfl (.an rfl (.ret ?_))))
 exact .dn rfl rfl ⟨by rw [kid_trim], rfl⟩
theorem under_spec (s q : Bs) (hq : q.length ≤ 1099511627776) : Fn Tryz.prog 210 #[vstr s, vstr q] [] fun v L => v = .bool (decide (underZ s q)) ∧ L = [] := by
 refine Fn.intro Tryz.func210 rfl rfl fun F W => ?_
 refine .sr (.an rfl (.sm rfl (.oq (.c Tryz.func244 [_, _] (kid_spec _ _ ?hs3 ?hn4)) ?_)))
 case hs3 => first | assumption | omega
 case hn4 => first | assumption | omega | simp
 rintro v L' ⟨rfl, rfl⟩
 refine .an rfl (.sm rfl (.m rfl (.cv Tryz.func175 [_, _] (hasprefix_spec _ _) ?_)))
 refine .m rfl (.dec (t := 11) rfl (fun h2_11 => ?_) (fun h2_11 => ?_))
 ·refine .kDT (t := 10) rfl h2_11 (.grun (t := 11) rfl rfl rfl (.m rfl (.grun (t := 11) rfl rfl rfl (.m rfl (.grun (t := 11) rfl rfl rfl (.u (.strne rfl rfl) (.u (.pickT rfl rfl) (.an rfl (.ret ?_)))))))))
  exact .dn rfl rfl ⟨by rw [← decide_not]; congr 1; exact decide_eq_decide.2 ⟨fun e => ⟨h2_11, e⟩, fun e => e.2⟩, rfl⟩
 refine .kDF (t := 10) rfl h2_11 (.gk (.gk (.gk (.u (.pickF rfl rfl) (.an rfl (.ret ?_))))))
 exact .dn rfl rfl ⟨by rw [decide_eq_false (fun e => h2_11 e.1)], rfl⟩
end Go.Proofs.YtmbnebafdhpgpaaGreatDoor
/-
 DERIVED: THE SHELF's CONTRACTS AT THIS DUMP, IN PLAIN WORDS (tools/lay-plain.mjs out of 'YtmbnebafdhpgpaaGreatDoorLayS.lean', which tools/lay-shelf.mjs wrote): THE SAME DECLARATIONS UNDER THE SAME NAMES: 'import', 'namespace', 'open', 'def', 'theorem' AND NOTHING ELSE: no command of the shelf's: FOR A HAND-IN. Each laying: the table of numbers ('.._ren') and one theorem, a field a fact of the dump's own or the kernel's comparison; each contract: ONE APPLICATION.
-/
namespace Go.Proofs
open Go.Shelf
def Tryz.keysS_ren : Go.Shelf.Ren := ⟨fun | 7 => 215 | 10 => 247 | n => n, fun | 23 => 110 | 26 => 9 | 3 => 107 | 28 => 273 | 0 => 0 | 27 => 272 | 33 => 179 | 4 => 4 | n => n, fun | n => n⟩
theorem Tryz.keysS : Go.Proofs.SlLaysZ.n7 Tryz.prog Tryz.keysS_ren := {
 mixed := by kernel_rfl
 f7 := ⟨Tryz.f215.name, by decide, Tryz.func215.trans (congrArg some (by kernel_rfl))⟩
 f10 := ⟨Tryz.f247.name, by decide, Tryz.func247.trans (congrArg some (by kernel_rfl))⟩
 t0 := Tryz.underlying0
 a0 := Tryz.isAgg0
 z0 := Tryz.sizeOf0
 v0 := Tryz.zeroValue0
 t4 := Tryz.underlying4
 a4 := Tryz.isAgg4
 z4 := Tryz.sizeOf4
 v4 := Tryz.zeroValue4
 t23 := Tryz.underlying110
 a23 := Tryz.isAgg110
 z23 := Tryz.sizeOf110
 v23 := Tryz.zeroValue110
 t26 := Tryz.underlying9
 a26 := Tryz.isAgg9
 z26 := Tryz.sizeOf9
 v26 := Tryz.zeroValue9
 t27 := Tryz.underlying272
 a27 := Tryz.isAgg272
 z27 := Tryz.sizeOf272
 v27 := Tryz.zeroValue272
 t28 := Tryz.underlying273
 a28 := Tryz.isAgg273
 z28 := Tryz.sizeOf273
 v28 := Tryz.zeroValue273
 t33 := Tryz.underlying179
 a33 := Tryz.isAgg179
 z33 := Tryz.sizeOf179
 v33 := Tryz.zeroValue179 }
def Tryz.sortedS_ren : Go.Shelf.Ren := ⟨fun | 6 => 214 | 8 => 246 | 9 => 212 | 11 => 275 | 13 => 131 | 12 => 245 | 23 => 206 | 24 => 207 | 14 => 266 | 15 => 267 | 16 => 268 | 17 => 269 | 18 => 270 | 19 => 271 | 20 => 272 | 21 => 273 | 22 => 274 | 25 => 286 | 26 => 239 | 27 => 240 | 28 => 287 | 29 => 288 | 30 => 289 | 31 => 296 | n => n, fun | 26 => 9 | 28 => 273 | 24 => 38 | 0 => 0 | 3 => 3 | 37 => 160 | 48 => 219 | 50 => 180 | 4 => 4 | 40 => 259 | 39 => 258 | 45 => 264 | 5 => 5 | 9 => 9 | 51 => 293 | 55 => 204 | 57 => 311 | 58 => 312 | 33 => 179 | n => n, fun | n => n⟩
theorem Tryz.sortedS : Go.Proofs.SlLaysZ.n6 Tryz.prog Tryz.sortedS_ren := {
 mixed := by kernel_rfl
 f6 := ⟨Tryz.f214.name, by decide, Tryz.func214.trans (congrArg some (by kernel_rfl))⟩
 f8 := ⟨Tryz.f246.name, by decide, Tryz.func246.trans (congrArg some (by kernel_rfl))⟩
 f11 := ⟨Tryz.f275.name, by decide, Tryz.func275.trans (congrArg some (by kernel_rfl))⟩
 t0 := Tryz.underlying0
 a0 := Tryz.isAgg0
 z0 := Tryz.sizeOf0
 v0 := Tryz.zeroValue0
 t24 := Tryz.underlying38
 a24 := Tryz.isAgg38
 z24 := Tryz.sizeOf38
 v24 := Tryz.zeroValue38
 t26 := Tryz.underlying9
 a26 := Tryz.isAgg9
 z26 := Tryz.sizeOf9
 v26 := Tryz.zeroValue9
 t28 := Tryz.underlying273
 a28 := Tryz.isAgg273
 z28 := Tryz.sizeOf273
 v28 := Tryz.zeroValue273
 i26 := by kernel_rfl }
def Tryz.sortS_ren : Go.Shelf.Ren := ⟨fun | 6 => 212 | 8 => 131 | 9 => 245 | 19 => 206 | 20 => 207 | 21 => 266 | 22 => 267 | 23 => 268 | 24 => 269 | 25 => 270 | 26 => 271 | 27 => 272 | 28 => 273 | 29 => 274 | 36 => 286 | 31 => 239 | 32 => 240 | 37 => 287 | 38 => 288 | 39 => 289 | 41 => 296 | n => n, fun | 27 => 38 | 29 => 9 | 3 => 3 | 32 => 160 | 26 => 38 | 0 => 0 | 44 => 219 | 46 => 180 | 4 => 4 | 36 => 259 | 35 => 258 | 41 => 264 | 5 => 5 | 9 => 9 | 53 => 293 | 57 => 204 | 63 => 311 | 64 => 312 | n => n, fun | n => n⟩
theorem Tryz.sortS : Go.Proofs.SlLaysM.n6 Tryz.prog Tryz.sortS_ren := {
 mixed := by kernel_rfl
 f6 := ⟨Tryz.f212.name, by decide, Tryz.func212.trans (congrArg some (by kernel_rfl))⟩
 f8 := Tryz.func131.trans (congrArg some (by kernel_rfl))
 f9 := ⟨Tryz.f245.name, by decide, Tryz.func245.trans (congrArg some (by kernel_rfl))⟩
 f19 := Tryz.func206.trans (congrArg some (by kernel_rfl))
 f20 := Tryz.func207.trans (congrArg some (by kernel_rfl))
 f21 := ⟨Tryz.f266.name, by decide, Tryz.func266.trans (congrArg some (by kernel_rfl))⟩
 f22 := ⟨Tryz.f267.name, by decide, Tryz.func267.trans (congrArg some (by kernel_rfl))⟩
 f23 := ⟨Tryz.f268.name, by decide, Tryz.func268.trans (congrArg some (by kernel_rfl))⟩
 f24 := ⟨Tryz.f269.name, by decide, Tryz.func269.trans (congrArg some (by kernel_rfl))⟩
 f25 := ⟨Tryz.f270.name, by decide, Tryz.func270.trans (congrArg some (by kernel_rfl))⟩
 f26 := ⟨Tryz.f271.name, by decide, Tryz.func271.trans (congrArg some (by kernel_rfl))⟩
 f27 := ⟨Tryz.f272.name, by decide, Tryz.func272.trans (congrArg some (by kernel_rfl))⟩
 f28 := ⟨Tryz.f273.name, by decide, Tryz.func273.trans (congrArg some (by kernel_rfl))⟩
 f29 := ⟨Tryz.f274.name, by decide, Tryz.func274.trans (congrArg some (by kernel_rfl))⟩
 f31 := Tryz.func239.trans (congrArg some (by kernel_rfl))
 f32 := Tryz.func240.trans (congrArg some (by kernel_rfl))
 f36 := ⟨Tryz.f286.name, by decide, Tryz.func286.trans (congrArg some (by kernel_rfl))⟩
 f37 := ⟨Tryz.f287.name, by decide, Tryz.func287.trans (congrArg some (by kernel_rfl))⟩
 f38 := ⟨Tryz.f288.name, by decide, Tryz.func288.trans (congrArg some (by kernel_rfl))⟩
 f39 := ⟨Tryz.f289.name, by decide, Tryz.func289.trans (congrArg some (by kernel_rfl))⟩
 f41 := ⟨Tryz.f296.name, by decide, Tryz.func296.trans (congrArg some (by kernel_rfl))⟩
 t0 := Tryz.underlying0
 a0 := Tryz.isAgg0
 z0 := Tryz.sizeOf0
 v0 := Tryz.zeroValue0
 t3 := Tryz.underlying3
 a3 := Tryz.isAgg3
 z3 := Tryz.sizeOf3
 v3 := Tryz.zeroValue3
 t4 := Tryz.underlying4
 a4 := Tryz.isAgg4
 z4 := Tryz.sizeOf4
 v4 := Tryz.zeroValue4
 t5 := Tryz.underlying5
 a5 := Tryz.isAgg5
 z5 := Tryz.sizeOf5
 v5 := Tryz.zeroValue5
 t9 := Tryz.underlying9
 a9 := Tryz.isAgg9
 z9 := Tryz.sizeOf9
 v9 := Tryz.zeroValue9
 t26 := Tryz.underlying38
 a26 := Tryz.isAgg38
 z26 := Tryz.sizeOf38
 v26 := Tryz.zeroValue38
 t27 := Tryz.underlying38
 a27 := Tryz.isAgg38
 z27 := Tryz.sizeOf38
 v27 := Tryz.zeroValue38
 t29 := Tryz.underlying9
 a29 := Tryz.isAgg9
 z29 := Tryz.sizeOf9
 v29 := Tryz.zeroValue9
 t32 := Tryz.underlying160
 a32 := Tryz.isAgg160
 z32 := Tryz.sizeOf160
 v32 := Tryz.zeroValue160
 t35 := Tryz.underlying258
 a35 := Tryz.isAgg258
 z35 := Tryz.sizeOf258
 v35 := Tryz.zeroValue258
 t36 := Tryz.underlying259
 a36 := Tryz.isAgg259
 z36 := Tryz.sizeOf259
 v36 := Tryz.zeroValue259
 t41 := Tryz.underlying264
 a41 := Tryz.isAgg264
 z41 := Tryz.sizeOf264
 v41 := Tryz.zeroValue264
 t44 := Tryz.underlying219
 a44 := Tryz.isAgg219
 z44 := Tryz.sizeOf219
 v44 := Tryz.zeroValue219
 t46 := Tryz.underlying180
 a46 := Tryz.isAgg180
 z46 := Tryz.sizeOf180
 v46 := Tryz.zeroValue180
 t53 := Tryz.underlying293
 a53 := Tryz.isAgg293
 z53 := Tryz.sizeOf293
 v53 := Tryz.zeroValue293
 t57 := Tryz.underlying204
 a57 := Tryz.isAgg204
 z57 := Tryz.sizeOf204
 v57 := Tryz.zeroValue204
 t63 := Tryz.underlying311
 a63 := Tryz.isAgg311
 z63 := Tryz.sizeOf311
 v63 := Tryz.zeroValue311
 t64 := Tryz.underlying312
 a64 := Tryz.isAgg312
 z64 := Tryz.sizeOf312
 v64 := Tryz.zeroValue312 }
end Go.Proofs
namespace Go.Proofs.YtmbnebafdhpgpaaGreatDoor
open Go
section
variable {P : Program} {E : Env} {L R : List HP} {ty : TypeId} {w : World}
theorem Quiet.shl {t t' : TypeId} {x y : Operand} {k yk : IntKind} {a b : Int} (hx : ev E x = some (.int k a)) (hy : ev E y = some (.int yk b)) (hb : 0 ≤ b) :
  Quiet P ⟨none, .binOp .shl t x y t', ty, "", #[], none⟩ E L (.int k (k.wrap (a * 2 ^ min b.toNat k.bits))) := by
 intro ρ w ha _
 have hb' : ¬ b < 0 := by omega
 simp [execOp, ha x _ hx, ha y _ hy, eqGuard, binOp, Op.shift, Bind.bind, Sem.bind, Pure.pure, Sem.run, hb']
theorem Quiet.shr {t t' : TypeId} {x y : Operand} {k yk : IntKind} {a b : Int} (hx : ev E x = some (.int k a)) (hy : ev E y = some (.int yk b)) (hb : 0 ≤ b) :
  Quiet P ⟨none, .binOp .shr t x y t', ty, "", #[], none⟩ E L (.int k (a.fdiv (2 ^ min b.toNat k.bits))) := by
 intro ρ w ha _
 have hb' : ¬ b < 0 := by omega
 simp [execOp, ha x _ hx, ha y _ hy, eqGuard, binOp, Op.shift, Bind.bind, Sem.bind, Pure.pure, Sem.run, hb']
theorem Quiet.or {t t' : TypeId} {x y : Operand} {k : IntKind} {a b : Int} (hx : ev E x = some (.int k a)) (hy : ev E y = some (.int k b)) :
  Quiet P ⟨none, .binOp .or t x y t', ty, "", #[], none⟩ E L (.int k (k.wrap (BitVec.ofInt k.bits a ||| BitVec.ofInt k.bits b).toNat)) := by
 intro ρ w ha _
 simp [execOp, ha x _ hx, ha y _ hy, eqGuard, binOp, Op.intBits, Bind.bind, Sem.bind, Pure.pure, Sem.run]
theorem Quiet.xor {t t' : TypeId} {x y : Operand} {k : IntKind} {a b : Int} (hx : ev E x = some (.int k a)) (hy : ev E y = some (.int k b)) :
  Quiet P ⟨none, .binOp .xor t x y t', ty, "", #[], none⟩ E L (.int k (k.wrap (BitVec.ofInt k.bits a ^^^ BitVec.ofInt k.bits b).toNat)) := by
 intro ρ w ha _
 simp [execOp, ha x _ hx, ha y _ hy, eqGuard, binOp, Op.intBits, Bind.bind, Sem.bind, Pure.pure, Sem.run]
theorem Quiet.and {t t' : TypeId} {x y : Operand} {k : IntKind} {a b : Int} (hx : ev E x = some (.int k a)) (hy : ev E y = some (.int k b)) :
  Quiet P ⟨none, .binOp .and t x y t', ty, "", #[], none⟩ E L (.int k (k.wrap (BitVec.ofInt k.bits a &&& BitVec.ofInt k.bits b).toNat)) := by
 intro ρ w ha _
 simp [execOp, ha x _ hx, ha y _ hy, eqGuard, binOp, Op.intBits, Bind.bind, Sem.bind, Pure.pure, Sem.run]
theorem run_equal_slice {t e : TypeId} {a : Option Addr} {n c : Nat} (ht : P.underlying t = some (.slice e)) : (Op.equal t (.slice a n c) (.slice none 0 0)).run P w = .ok a.isNone w := by
 unfold Op.equal
 rw [show Op.maxDepth = 9999 + 1 from rfl]
 generalize 9999 = d
 unfold Op.equalIn
 rw [run_bind (run_underlying ht)]; cases a <;> rfl
theorem Quiet.sleq {t t' e : TypeId} {x y : Operand} {a : Option Addr} {n c : Nat} (hx : ev E x = some (.slice a n c)) (hy : ev E y = some (.slice none 0 0)) (ht : P.underlying t = some (.slice e)) : Quiet P ⟨none, .binOp .eql t x y t', ty, "", #[], none⟩ E L (.bool a.isNone) :=
 fun _ _ ha _ => run_eql (ha x _ hx) (ha y _ hy) rfl rfl (run_equal_slice ht)
end
theorem acC_cells (l : List Ac) : ∀ y ∈ l.flatMap acC, isCell y = true := by
 intro y hy
 obtain ⟨a, -, h⟩ := List.mem_flatMap.1 hy
 simp only [acC, List.mem_cons, List.not_mem_nil, or_false] at h
 rcases h with rfl | rfl <;> rfl
theorem fill_node (d : Bs) (ad : Option Addr) (n c : Nat) (s0 s1 s2 s3 s4 s5 s6 s7 s8 : Value) : Instr.fill (fun i => [(0, 1), (1, 1), (2, 9)].toArray[i]?) ([.string (bs []), .slice none 0 0, .int .i64 0, .int .i64 0, .int .i64 0, .int .i64 0, .int .i64 0, .int .i64 0, .int .i64 0, .int .i64 0, .int .i64 0] : List Value).toArray [(0, vstr d), (1, .slice ad n c), (2, .agg ([s0, s1, s2, s3, s4, s5, s6, s7, s8] : List Value).toArray)] = some (([vstr d, .slice ad n c] ++ [s0, s1, s2, s3, s4, s5, s6, s7, s8] : List Value).toArray) := by kernel_rfl
structure PtA (p : HP) (x : Pt) : Prop where
 acl : ∀ h : Hp, p h → rdS 2 h x.aclV x.acl.length (x.acl.flatMap acC)
 few : x.acl.length ≤ 1048576
 plen : x.path.length ≤ 1048576
 subs : isCell x.subsV = true
 cell : isCell x.aclV = true
theorem PtA.all {p : HP} {x : Pt} (h : PtA p x) : ∀ v ∈ ptC x, isCell v = true := by
 intro v hv
 simp only [ptC, List.mem_cons, List.not_mem_nil, or_false] at hv
 rcases hv with rfl | rfl | rfl | rfl | rfl | rfl | rfl | rfl
 ·rfl
 ·rfl
 ·rfl
 ·exact h.cell
 ·rfl
 ·rfl
 ·rfl
 ·exact h.subs
structure TxA (p : HP) (x : Pt) (subs : List Pt) : Prop where
 own : PtA p x
 rd : ∀ h : Hp, p h → rdS 8 h x.subsV subs.length (subs.flatMap ptC)
 few : subs.length ≤ 1048576
 each : ∀ y ∈ subs, PtA p y
theorem evC_cells (l : List Ev) : ∀ y ∈ l.flatMap evC, isCell y = true := by
 intro y hy
 obtain ⟨a, -, h⟩ := List.mem_flatMap.1 hy
 simp only [evC, List.mem_cons, List.not_mem_nil, or_false] at h
 rcases h with rfl | rfl | rfl <;> rfl
theorem aclone_spec (v : Value) (xs : List Ac) (p : HP) (hp : ∀ h : Hp, p h → rdS 2 h v xs.length (xs.flatMap acC)) (hn : xs.length ≤ 1048576) : Fn Tryz.prog 134 #[v] [p] fun u L => (∃ a c, u = .slice a xs.length c) ∧ L = [p, slR 75 2 u xs.length (xs.flatMap acC)] := by
 refine Fn.intro Tryz.func134 rfl rfl fun F W => ?_
 refine .rdAny (p := p) hp (by repeat' constructor) fun a c e0 hl => ?_
 subst e0
 refine .sr (.an rfl (.seq (.sm rfl (.q (.sleq rfl rfl Tryz.underlying30) rfl (.nt (.condB rfl (fun h4 => ?_) (fun h4 => ?_)))))))
 ·have ha : a = none := by simpa using h4
  subst ha
  refine .rdNil (p := p) hp (by repeat' constructor) fun hx0 => ?_
  have hxs : xs = [] := List.eq_nil_of_length_eq_zero hx0
  subst hxs
  refine .add (slR_nil 75 2) (.sr (.an rfl (.rt ?_)))
  exact .dn rfl rfl ⟨⟨_, _, rfl⟩, rfl⟩
 refine .sk (.sr (.oq (.buildSlice (vs := []) el_30 ze_75 rfl rfl rfl rfl (by first | (simp [Value.cells]; done) | (intro v hv; simp only [List.mem_cons, List.not_mem_nil, or_false] at hv; (repeat (first | (subst hv; rfl) | (rcases hv with hv | hv; (subst hv; rfl)))))) (by decide)) ?_))
 rintro v L' ⟨b0, rfl, rfl⟩
 refine .m rfl (.slMakeN 2 0 (b := b0) (xs := ([] : List Ac).flatMap acC) (by repeat' constructor) rfl rfl (.oq (.append (n := 0) (m := xs.length) (ys := xs.flatMap acC) (p := p) rfl rfl rfl el_30 (.inl ⟨_, Tryz.underlying30⟩) ze_75 rfl rfl ?hc8 hp ?hb9 (by decide)) ?_))
 case hc8 => exact acC_cells _
 case hb9 => omega
 rintro v L' ⟨⟨a3, c3, rfl⟩, rfl⟩; rw [Nat.zero_add, show ([] : List Ac).flatMap acC ++ xs.flatMap acC = xs.flatMap acC from rfl]
 refine .an rfl (.ret ?_)
 exact .dn rfl rfl ⟨⟨_, _, rfl⟩, rfl⟩
theorem able_spec (p : Bs) (hs : p.length ≤ 1048576) : Fn Tryz.prog 208 #[vstr p] [] fun v L => v = .bool (decide (ableZ p)) ∧ L = [] := by
 refine Fn.intro Tryz.func208 rfl rfl fun F W => ?_
 refine .sr (.an rfl (.sm rfl (.u (.strne rfl rfl) (.m rfl (.ndec (t := 5) rfl (fun h1_5 => ?_) (fun h1_5 => ?_))))))
 ·refine .kNT (t := 4) rfl h1_5 (.grun (t := 5) rfl rfl rfl (.m rfl (.grun (t := 5) rfl rfl rfl (.cv Tryz.func87 [_] (check_spec p hs) ?_))))
  refine .grun (t := 5) rfl rfl rfl (.ui rfl rfl rfl (.u (.pickT rfl rfl) (.an rfl (.ret ?_))))
  exact .dn rfl rfl ⟨congrArg Value.bool (decide_eq_decide.2 ⟨fun e => ⟨h1_5, e⟩, fun e => e.2⟩), rfl⟩
 refine .kNF (t := 4) rfl h1_5 (.gk (.gk (.gk (.u (.pickF rfl rfl) (.an rfl (.ret ?_))))))
 exact .dn rfl rfl ⟨by rw [decide_eq_false (fun e => e.1 h1_5)], rfl⟩
theorem trnew_spec : Fn Tryz.prog 20 #[] [] fun v L => ∃ t, v = vptr t ∧ L = [treeR t newT] := by
 refine Fn.intro Tryz.func20 rfl rfl fun F W => ?_
 refine .sr (.an rfl (.sr (.oq (.makeMap Tryz.underlying110) ?_)))
 rintro v L' ⟨rn, rfl, rfl⟩
 refine .q (.build (us := [(0, _), (1, _)]) fl_75 ze_75 rfl rfl (by simp [isCell])) rfl (.oq (.buildSlice (vs := [_]) el_30 ze_75 rfl rfl rfl rfl (by first | (simp [Value.cells]; done) | (intro v hv; simp only [List.mem_cons, List.not_mem_nil, or_false] at hv; (repeat (first | (subst hv; rfl) | (rcases hv with hv | hv; (subst hv; rfl)))))) (by decide)) ?_)
 rintro v L' ⟨ba, rfl, rfl⟩
 refine .q (.buildN (pl := [(0, 1), (1, 1), (2, 9)]) (us := [(1, .slice (some ⟨ba, 0, none⟩) 1 1)]) (cells := ndC (.slice (some ⟨ba, 0, none⟩) 1 1) ⟨[], [(31, [119, 111, 114, 108, 100])], st0⟩) Tryz.underlying109 (by kernel_rfl) ze_109 rfl rfl) rfl (.oq (.box rfl) ?_)
 rintro v L' ⟨tn, rfl, rfl⟩
 refine .fold (p := mapR rn []) (.cons (p := pt rn (.map #[] 0)) (by repeat' constructor) .nil) (fun h hp => mapR_new (sep_pt hp)) (.oq (.mapInsert (m := ([] : NmM)) (enc := ndV) (v := (tn, (.slice (some ⟨ba, 0, none⟩) 1 1, ⟨[], [(31, [119, 111, 114, 108, 100])], st0⟩))) (k := [47]) (KeyLaw.str Tryz.underlying9) rfl rfl rfl Tryz.underlying110 ?he10) ?_)
 case he10 => rfl
 rintro v L' rfl
 refine .m rfl (.oq (.makeMap Tryz.underlying111) ?_)
 rintro v L' ⟨rs, rfl, rfl⟩
 refine .q (.build (us := [(0, _), (1, _)]) fl_113 ze_113 rfl rfl (by simp [isCell])) rfl (.oq (.box rfl) ?_)
 rintro v L' ⟨t, rfl, rfl⟩
 refine .an rfl (.ret (.fold (p := mapR rs []) (.cons (p := pt rs (.map #[] 0)) (by repeat' constructor) .nil) (fun h hp => mapR_new (sep_pt hp)) (.slMakeN 2 1 (b := ba) (xs := ([(31, [119, 111, 114, 108, 100])] : List Ac).flatMap acC) (by repeat' constructor) rfl rfl (.toRd (m := 1) (by repeat' constructor) (.ndFold (x := (([47] : Bs), ((tn, (.slice (some ⟨ba, 0, none⟩) 1 1, ⟨[], [(31, [119, 111, 114, 108, 100])], st0⟩)) : Nm))) (by repeat' constructor) rfl rfl rfl rfl (.fold (p := bigR inN [(([47] : Bs), ((tn, (.slice (some ⟨ba, 0, none⟩) 1 1, ⟨[], [(31, [119, 111, 114, 108, 100])], st0⟩)) : Nm))]) (.cons (p := inN (([47] : Bs), ((tn, (.slice (some ⟨ba, 0, none⟩) 1 1, ⟨[], [(31, [119, 111, 114, 108, 100])], st0⟩)) : Nm))) (by repeat' constructor) .nil) (fun h hp => hp) ?_))))))
 have hI : TrI newT [(([47] : Bs), ((tn, (.slice (some ⟨ba, 0, none⟩) 1 1, ⟨[], [(31, [119, 111, 114, 108, 100])], st0⟩)) : Nm))] [] := ⟨by simp, fun q => (by unfold newT; simp only [alook]; split <;> rfl), by simp, fun i => rfl⟩
 refine .trFold (τ := newT) hI (by repeat' constructor) rfl rfl rfl ?_
 exact .dn rfl rfl ⟨_, rfl, rfl⟩
theorem trkid_spec (t : Nat) (τ : Tr) (p : Bs) (num zx : Int) : Fn Tryz.prog 209 #[vptr t, vstr p, vint num, vint zx] [treeR t τ] fun v L => v = .tuple #[] ∧ L = [treeR t (kidT τ p num zx)] := by
 refine Fn.intro Tryz.func209 rfl rfl fun F W => ?_
 refine .trOpen (τ := τ) (by repeat' constructor) fun rn rs m s hI => (.sr ?_)
 rcases hal : alook m p with _ | x
 ·refine .m rfl (.nf rfl fo_113_0 (.u (.ld rfl ag_110) (.m rfl (.q (.lookupN (m := m) (enc := ndV) (KeyLaw.str Tryz.underlying9) (hal) rfl rfl Tryz.underlying110 ze_107 (by repeat' constructor) rfl) rfl (.an rfl (.sm rfl (.q (.as (v' := .bool false) (by rfl) (.ptrne rfl rfl Tryz.underlying107)) rfl (.nt (.condF rfl (.skip (.done_n (.trFold (τ := τ) hI (by repeat' constructor) rfl rfl rfl (.trCast (τ' := kidT τ p num zx) (by repeat' constructor) (hI.kidN hal _) ?_)))))))))))))
  exact .vv
 refine .m rfl (.nf rfl fo_113_0 (.u (.ld rfl ag_110) (.m rfl (.q (.lookupY (m := m) (enc := ndV) (KeyLaw.str Tryz.underlying9) (hal) rfl rfl Tryz.underlying110 ze_107 (by repeat' constructor) rfl) rfl (.an rfl (.sm rfl (.q (.as (v' := .bool true) (by rfl) (.ptrne rfl rfl Tryz.underlying107)) rfl (.nt (.condT rfl (.bigTake hal (by repeat' constructor) (.ndOpen (x := (p, x)) (by repeat' constructor) (.region (.m rfl (.m rfl (.m rfl (.m rfl (.nf rfl fo_109_2 (.u (.fieldAddr rfl fo_37_4) (.oq (.store rfl rfl rfl sz_3 ?c20 (nfz0 _ _)) ?_)))))))))))))))))))
 case c20 => simp [ndC]
 rintro v L' rfl
 refine .nf rfl fo_109_2 (.u (.fieldAddr rfl fo_37_2) (.oq (.store rfl rfl rfl sz_3 ?c26 (nfz0 _ _)) ?_))
 case c26 => simp [ndC]
 rintro v L' rfl
 refine .nil (.done_n (.ndFold (x := (p, (x.1, (x.2.1, kidN num zx x.2.2)))) (by repeat' constructor) rfl rfl rfl rfl (.bigPut (f := inN) (m := m) p (x.1, (x.2.1, kidN num zx x.2.2)) rfl (by repeat' constructor) (.trFold (τ := (kidT τ p num zx)) (hI.mod hal (kidN num zx) (y := (x.1, (x.2.1, kidN num zx x.2.2))) rfl) (by repeat' constructor) rfl (ndE_set (y := (x.1, (x.2.1, kidN num zx x.2.2))) hal rfl).symm rfl ?_))))
 exact .vv
theorem trcreate_spec (t : Nat) (τ : Tr) (x : Pt) (zx : Int) (p : HP) (hx : PtA p x) : Fn Tryz.prog 132 #[vptr t, .agg (ptC x).toArray, vint zx] [treeR t τ, p] fun v L => ∃ a c, v = .slice a (createZ τ x zx).2.length c ∧ L = [treeR t (createZ τ x zx).1, p, slR 50 3 v (createZ τ x zx).2.length ((createZ τ x zx).2.flatMap evC)] := by
 refine Fn.intro Tryz.func132 rfl rfl fun F W => ?_
 have hfew := hx.few
 have hpl := hx.plen
 have hpar := parent_len x.path
 refine .sr (.oq (.box rfl) ?_)
 rintro v L' ⟨bx, rfl, rfl⟩
 refine .a rfl (.nil (.ptCast (b := bx) (l' := ptC x) (by repeat' constructor) rfl ?_))
 refine .then_n (.sr (.u (.fieldAddr rfl fo_60_1) (.u (.ld rfl ag_9) (.cv Tryz.func81 [_] (parent_spec x.path (by omega)) ?_))))
 refine .an rfl (.seq (.sr (.u (.fieldAddr rfl fo_60_1) (.u (.ld rfl ag_9) (.cv Tryz.func208 [_] (able_spec x.path hpl) ?_)))))
 refine .u (.not rfl) (.m rfl (.ndec (t := 16) rfl (fun h2_16 => ?_) (fun h2_16 => ?_)))
 ·refine .kNT (t := 15) rfl h2_16 (.gk (.gk (.gk (.gk (.gk (.gk (.gk (.u (.pickT rfl rfl) (.nt (.condT rfl (.sr (.an rfl (.rt (.add (slR_nil 50 3) ?_))))))))))))))
  have hc : createZ τ x zx = (τ, []) := by unfold createZ; rw [if_neg (fun g => h2_16 g.1)]
  refine .trCast (τ' := (createZ τ x zx).1) (by repeat' constructor) (by rw [hc]) (.slCast (T := 50) (sz := 3) (m' := (createZ τ x zx).2.length) (xs' := (createZ τ x zx).2.flatMap evC) (by repeat' constructor) (by rw [hc]; rfl) (by first | (rw [hc]; done) | (rw [hc]; rfl)) ?_)
  exact .dn rfl rfl ⟨_, _, by rw [hc]; rfl, rfl⟩
 refine .kNF (t := 15) rfl h2_16 (.trOpen (τ := τ) (by repeat' constructor) fun rn rs m s hI => (.grun (t := 16) rfl rfl rfl (.m rfl (.grun (t := 16) rfl rfl rfl (.u (.nilp rfl) (.grun (t := 16) rfl rfl rfl (.u (.fieldAddr rfl fo_113_0) (.grun (t := 16) rfl rfl rfl (.u (.ld rfl ag_110) (.grun (t := 16) rfl rfl rfl (.m rfl ?_)))))))))))
 rcases hup : alook m (parentZ x.path) with _ | pu
 ·refine .grun (t := 16) rfl rfl rfl (.q (.lookupN (m := m) (enc := ndV) (KeyLaw.str Tryz.underlying9) (hup) rfl rfl Tryz.underlying110 ze_107 (by repeat' constructor) rfl) rfl (.grun (t := 16) rfl rfl rfl (.q (.as (v' := .bool true) (by rfl) (.ptreq rfl rfl Tryz.underlying107)) rfl (.u (.pickF rfl rfl) (.nt (.condT rfl (.sr (.an rfl (.rt (.add (slR_nil 50 3) ?_))))))))))
  have hc : createZ τ x zx = (τ, []) := by unfold createZ; rw [if_neg (fun g => hI.none_iff.1 hup g.2)]
  refine .trFold (τ := τ) hI (by repeat' constructor) rfl rfl rfl (.trCast (τ' := (createZ τ x zx).1) (by repeat' constructor) (by rw [hc]) (.slCast (T := 50) (sz := 3) (m' := (createZ τ x zx).2.length) (xs' := (createZ τ x zx).2.flatMap evC) (by repeat' constructor) (by rw [hc]; rfl) (by first | (rw [hc]; done) | (rw [hc]; rfl)) ?_))
  exact .dn rfl rfl ⟨_, _, by rw [hc]; rfl, rfl⟩
 refine .grun (t := 16) rfl rfl rfl (.q (.lookupY (m := m) (enc := ndV) (KeyLaw.str Tryz.underlying9) (hup) rfl rfl Tryz.underlying110 ze_107 (by repeat' constructor) rfl) rfl (.grun (t := 16) rfl rfl rfl (.q (.as (v' := .bool false) (by rfl) (.ptreq rfl rfl Tryz.underlying107)) rfl (.u (.pickF rfl rfl) (.nt (.condF rfl (.sk (.sr (.an rfl (.seq (.seq (.draw [] [[0, 1, 2, 3, 4, 5, 6, 7]] mixed (by kernel_rfl) (.g0 ?_)))))))))))))
 rcases hal : alook m x.path with _ | px
 ·refine D.mv rfl rfl (.nf rfl rfl rfl fo_113_0 (.kv rfl (.ld rfl ag_110) (.kv rfl (.fieldAddr rfl fo_60_1) (.kv rfl (.ld rfl ag_9) (.kv rfl (.lookupN (m := m) (enc := ndV) (KeyLaw.str Tryz.underlying9) (hal) rfl rfl Tryz.underlying110 ze_107 (by repeat' constructor) rfl) (.kv rfl (.as (v' := .bool false) (by rfl) (.ptrne rfl rfl Tryz.underlying107)) (.pf (.condF rfl (.sk (.seq (.draw [10, 18, 19] [[0, 1, 2, 3, 4, 5, 6, 7, 8, 9, 11, 12, 13, 14, 15, 16, 10, 17, 18], [19]] mixed (by kernel_rfl) (.go [ptc bx _ _, ptc t _ _] (by repeat' constructor) (.k rfl (.move rfl) (.k rfl (.nilp rfl) (.k rfl (.fieldAddr rfl fo_113_0) (.k rfl (.ld rfl ag_110) (.k rfl (.fieldAddr rfl fo_60_1) (.k rfl (.ld rfl ag_9) (.k rfl (.fieldAddr rfl fo_60_2) (.k rfl (.ld rfl ag_9) (.kv rfl (.fieldAddr rfl fo_60_3) (.kv rfl (.ld rfl ag_30) (.k rfl (.move rfl) (.k rfl (.move rfl) ?_))))))))))))))))))))))))
  refine D.k rfl (.move rfl) (.k rfl (.fieldAddr rfl fo_60_4) (.k rfl (.ld rfl ag_3) (.k rfl (.build (us := [(0, _), (1, _), (2, _), (6, _)]) fl_37 ze_37 rfl rfl (by simp [isCell])) (.hh rfl (.c Tryz.func134 [_] (aclone_spec x.aclV x.acl p hx.acl hfew)) ?_))))
  rintro v L' ⟨⟨a7, c7, rfl⟩, rfl⟩
  refine D.kv rfl (.buildN (pl := [(0, 1), (1, 1), (2, 9)]) (us := [(0, vstr x.data), (1, .slice a7 x.acl.length c7), (2, .agg ([vint zx, vint zx, vint zx, vint 0, vint 0, vint 0, vint x.own, vint 0, vint 0] : List Value).toArray)]) (cells := [vstr x.data, .slice a7 x.acl.length c7] ++ [vint zx, vint zx, vint zx, vint 0, vint 0, vint 0, vint x.own, vint 0, vint 0]) Tryz.underlying109 (by kernel_rfl) ze_109 rfl (fill_node _ _ _ _ _ _ _ _ _ _ _ _ _)) (.hh rfl (.box rfl) ?_)
  rintro v L' ⟨tn, rfl, rfl⟩
  refine D.ph (.g0 (.hh rfl (.mapSet (m := m) (enc := ndV) (v := ((tn, (.slice a7 x.acl.length c7, newN x zx)) : Nm)) (k := x.path) (KeyLaw.str Tryz.underlying9) rfl rfl rfl Tryz.underlying110 ?he54) ?_))
  case he54 => rfl
  rintro v L' rfl
  refine D.ph (.fin (.toRd (by repeat' constructor) (.ndFold (x := (x.path, ((tn, (.slice a7 x.acl.length c7, newN x zx)) : Nm))) (by repeat' constructor) rfl rfl rfl rfl ?_)))
  have hdel := adel_none hal
  refine .bigPut (f := inN) (m := m) x.path ((tn, (.slice a7 x.acl.length c7, newN x zx)) : Nm) rfl (by rw [hdel]; (repeat' constructor)) (.trFold (τ := ({ τ with nodes := sset τ.nodes x.path (newN x zx) } : Tr)) (hI.lay x.path ((tn, (.slice a7 x.acl.length c7, newN x zx)) : Nm)) (by repeat' constructor) rfl rfl rfl (.then_n (.sm rfl (.m rfl (.u (.fieldAddr rfl fo_60_5) (.u (.ld rfl ag_3) (.m rfl (.cv Tryz.func209 [_, _, _, _] (trkid_spec t ({ τ with nodes := sset τ.nodes x.path (newN x zx) } : Tr) (parentZ x.path) x.num zx) ?_))))))))
  refine .nt (.sm rfl (.u (.fieldAddr rfl fo_60_1) (.u (.ld rfl ag_9) (.m rfl (.q (.build (us := [(0, _), (1, _), (2, _)]) fl_50 ze_50 rfl rfl (by simp [isCell])) rfl (.m rfl (.m rfl (.q (.build (us := [(0, _), (1, _), (2, _)]) fl_50 ze_50 rfl rfl (by simp [isCell])) rfl (.oq (.buildSlice (vs := [_, _]) el_47 ze_50 rfl rfl rfl rfl (by first | (simp [Value.cells]; done) | (intro v hv; simp only [List.mem_cons, List.not_mem_nil, or_false] at hv; (repeat (first | (subst hv; rfl) | (rcases hv with hv | hv; (subst hv; rfl)))))) (by decide)) ?_)))))))))
  rintro v L' ⟨bo, rfl, rfl⟩
  refine .a rfl (.nil (.slMakeN 3 2 (b := bo) (xs := ([(1, (x.path, zx)), (4, (parentZ x.path, zx))] : List Ev).flatMap evC) (by repeat' constructor) rfl rfl (.then_n (.ret ?_))))
  have hc : createZ τ x zx = (kidT ({ τ with nodes := sset τ.nodes x.path (newN x zx) } : Tr) (parentZ x.path) x.num zx, [(1, (x.path, zx)), (4, (parentZ x.path, zx))]) := by unfold createZ; rw [if_pos ⟨h2_16, hI.some_iff hup⟩, if_neg (hI.none_iff.1 hal)]
  refine .trCast (τ' := (createZ τ x zx).1) (by repeat' constructor) (by rw [hc]) (.slCast (T := 50) (sz := 3) (m' := (createZ τ x zx).2.length) (xs' := (createZ τ x zx).2.flatMap evC) (by repeat' constructor) (by rw [hc]; rfl) (by first | (rw [hc]; done) | (rw [hc]; rfl)) ?_)
  exact .dn rfl rfl ⟨_, _, by rw [hc]; rfl, rfl⟩
 refine D.mv rfl rfl (.nf rfl rfl rfl fo_113_0 (.kv rfl (.ld rfl ag_110) (.kv rfl (.fieldAddr rfl fo_60_1) (.kv rfl (.ld rfl ag_9) (.kv rfl (.lookupY (m := m) (enc := ndV) (KeyLaw.str Tryz.underlying9) (hal) rfl rfl Tryz.underlying110 ze_107 (by repeat' constructor) rfl) (.kv rfl (.as (v' := .bool true) (by rfl) (.ptrne rfl rfl Tryz.underlying107)) (.pf (.condT rfl (.region (.an rfl (.seq (.draw [10, 18, 19] [[0, 1, 2, 3, 4, 5, 6, 7, 8, 9, 11, 12, 13, 14, 15, 16, 10, 17, 18], [19]] mixed (by kernel_rfl) (.go [ptc bx _ _, ptc t _ _] (by repeat' constructor) (.k rfl (.move rfl) (.k rfl (.nilp rfl) (.k rfl (.fieldAddr rfl fo_113_0) (.k rfl (.ld rfl ag_110) (.k rfl (.fieldAddr rfl fo_60_1) (.k rfl (.ld rfl ag_9) (.k rfl (.fieldAddr rfl fo_60_2) (.k rfl (.ld rfl ag_9) (.kv rfl (.fieldAddr rfl fo_60_3) (.kv rfl (.ld rfl ag_30) (.k rfl (.move rfl) (.k rfl (.move rfl) ?_)))))))))))))))))))))))))
 refine D.k rfl (.move rfl) (.k rfl (.fieldAddr rfl fo_60_4) (.k rfl (.ld rfl ag_3) (.k rfl (.build (us := [(0, _), (1, _), (2, _), (6, _)]) fl_37 ze_37 rfl rfl (by simp [isCell])) (.hh rfl (.c Tryz.func134 [_] (aclone_spec x.aclV x.acl p hx.acl hfew)) ?_))))
 rintro v L' ⟨⟨a7, c7, rfl⟩, rfl⟩
 refine D.kv rfl (.buildN (pl := [(0, 1), (1, 1), (2, 9)]) (us := [(0, vstr x.data), (1, .slice a7 x.acl.length c7), (2, .agg ([vint zx, vint zx, vint zx, vint 0, vint 0, vint 0, vint x.own, vint 0, vint 0] : List Value).toArray)]) (cells := [vstr x.data, .slice a7 x.acl.length c7] ++ [vint zx, vint zx, vint zx, vint 0, vint 0, vint 0, vint x.own, vint 0, vint 0]) Tryz.underlying109 (by kernel_rfl) ze_109 rfl (fill_node _ _ _ _ _ _ _ _ _ _ _ _ _)) (.hh rfl (.box rfl) ?_)
 rintro v L' ⟨tn, rfl, rfl⟩
 refine D.ph (.g0 (.hh rfl (.mapSet (m := m) (enc := ndV) (v := ((tn, (.slice a7 x.acl.length c7, newN x zx)) : Nm)) (k := x.path) (KeyLaw.str Tryz.underlying9) rfl rfl rfl Tryz.underlying110 ?he100) ?_))
 case he100 => rfl
 rintro v L' rfl
 refine D.ph (.fin (.toRd (by repeat' constructor) (.ndFold (x := (x.path, ((tn, (.slice a7 x.acl.length c7, newN x zx)) : Nm))) (by repeat' constructor) rfl rfl rfl rfl (.bigTake hal (by repeat' constructor) (.bigPut (f := inN) (m := m) x.path ((tn, (.slice a7 x.acl.length c7, newN x zx)) : Nm) rfl (by repeat' constructor) (.trFold (τ := ({ τ with nodes := sset τ.nodes x.path (newN x zx) } : Tr)) (hI.lay x.path ((tn, (.slice a7 x.acl.length c7, newN x zx)) : Nm)) (by repeat' constructor) rfl rfl rfl (.then_n (.sm rfl (.m rfl (.u (.fieldAddr rfl fo_60_5) (.u (.ld rfl ag_3) (.m rfl (.cv Tryz.func209 [_, _, _, _] (trkid_spec t ({ τ with nodes := sset τ.nodes x.path (newN x zx) } : Tr) (parentZ x.path) x.num zx) ?_)))))))))))))
 refine .nt (.sm rfl (.u (.fieldAddr rfl fo_60_1) (.u (.ld rfl ag_9) (.m rfl (.q (.build (us := [(0, _), (1, _), (2, _)]) fl_50 ze_50 rfl rfl (by simp [isCell])) rfl (.m rfl (.m rfl (.q (.build (us := [(0, _), (1, _), (2, _)]) fl_50 ze_50 rfl rfl (by simp [isCell])) rfl (.oq (.buildSlice (vs := [_, _]) el_47 ze_50 rfl rfl rfl rfl (by first | (simp [Value.cells]; done) | (intro v hv; simp only [List.mem_cons, List.not_mem_nil, or_false] at hv; (repeat (first | (subst hv; rfl) | (rcases hv with hv | hv; (subst hv; rfl)))))) (by decide)) ?_)))))))))
 rintro v L' ⟨bo, rfl, rfl⟩
 refine .a rfl (.nil (.slMakeN 3 2 (b := bo) (xs := ([(3, (x.path, zx)), (4, (parentZ x.path, zx))] : List Ev).flatMap evC) (by repeat' constructor) rfl rfl (.then_n (.ret ?_))))
 have hc : createZ τ x zx = (kidT ({ τ with nodes := sset τ.nodes x.path (newN x zx) } : Tr) (parentZ x.path) x.num zx, [(3, (x.path, zx)), (4, (parentZ x.path, zx))]) := by unfold createZ; rw [if_pos ⟨h2_16, hI.some_iff hup⟩, if_pos (hI.some_iff hal)]
 refine .trCast (τ' := (createZ τ x zx).1) (by repeat' constructor) (by rw [hc]) (.slCast (T := 50) (sz := 3) (m' := (createZ τ x zx).2.length) (xs' := (createZ τ x zx).2.flatMap evC) (by repeat' constructor) (by rw [hc]; rfl) (by first | (rw [hc]; done) | (rw [hc]; rfl)) ?_)
 exact .dn rfl rfl ⟨_, _, by rw [hc]; rfl, rfl⟩
theorem trkeys_spec (mb : Option Nat) : Fn Tryz.prog 215 #[.map mb] [] fun v L => ∃ b, v = .func (.func 247) #[] #[vptr b] ∧ L = [ptc b [.map mb] 110] :=
 keysS_fn Tryz.keysS mb
theorem trsorted_spec {b r : Nat} {T : TypeId} (m : NmM) (hnd : (m.map (·.1)).Nodup) (hbd : ∀ x ∈ m, x.1.length ≤ 60) (hlen : m.length ≤ 1099511627776) :
  Fn Tryz.prog 214 #[.func (.func 247) #[] #[vptr b]] [ptc b [.map (some r)] T, mapR r (ndE m)] fun v L => (∃ a c, v = .slice a m.length c) ∧ L = [slR 9 1 v m.length (strs (sortS (m.map (·.1)))), mapR r (ndE m)] :=
 sortedS_fn Tryz.keysS Tryz.sortedS Tryz.sortS rfl (enters_of Tryz.func212 rfl rfl) (enters_of Tryz.func247 rfl rfl) Tryz.underlying9 (enc := ndV) (b := b) (r := r) (T := T) m hnd (fun x hx => Nat.le_trans (hbd x hx) (by decide)) hlen
theorem sortstr_spec (v : Value) (n : Nat) (xs : List Bs) (hn : n < 4611686018427387904) : Fn Tryz.prog 212 #[v] [slR 9 1 v n (strs xs)] fun u L => u = .tuple #[] ∧ L = [slR 9 1 v n (strs (sortS xs))] :=
 sortS_fn Tryz.sortS 9 v n xs hn
theorem trkids0_spec (t rn : Nat) (vs vz : Value) (m : NmM) (p : Bs) (hlen : ∀ x ∈ m, x.1.length ≤ 60) (hm0 : m.length ≤ 1099511627776) : Fn Tryz.prog 135 #[vptr t, vstr p] [ptc t [.map (some rn), vs, vz] 113, mapR rn (ndE m)] fun v L => (∃ a c, v = .slice a (kidsM m p).length c) ∧ L = [ptc t [.map (some rn), vs, vz] 113, mapR rn (ndE m), slR 9 1 v (kidsM m p).length (strs (sortS (kidsM m p)))] := by
 refine Fn.intro Tryz.func135 rfl rfl fun F W => ?_
 refine .sr (.an rfl (.seq (.add (slR_nil 9 1) (.region (.an rfl (.seq (.sm rfl (.nf rfl fo_113_0 (.u (.ld rfl ag_110) (.oq (.range (f := fun x : Bs × Nm => (vstr x.1, ndV x.2)) (m := m) rfl Tryz.underlying110 ?he7) ?_))))))))))
 case he7 => rfl
 rintro v L' ⟨it, rfl, rfl⟩
 refine .nt (.block (.loopK (ι := NmM × Value × (List Bs)) (fun q E => (5, q.2.1) :: E) (fun q => [rangeR (fun x : Bs × Nm => (vstr x.1, ndV x.2)) it rn m q.1, slR 9 1 q.2.1 q.2.2.length (strs q.2.2)]) (fun q => q.2.2 = kidsM q.1 p ∧ (∃ rest, m.Perm (q.1 ++ rest)) ∧ ∃ a c, q.2.1 = .slice a q.2.2.length c) (fun q => m.length - q.1.length) ([], .slice none 0 0, []) (ts := [1, 4, 11]) (.cons rfl (.cons rfl (.cons rfl (.nil)))) (⟨rfl, ⟨m, .refl _⟩, none, 0, rfl⟩) ⟨rfl, rfl, rfl, rfl, trivial⟩ (by repeat' constructor) ?_))
 rintro ⟨ss, u, acc⟩ ⟨hacc, ⟨rest, hm⟩, au, cu, hu⟩
 dsimp only
 dsimp only at hacc hm hu
 subst hu
 have hml := hm.length_eq
 rw [List.length_append] at hml
 have hkl := kidsM_len ss p
 rw [← hacc] at hkl
 refine .sr (.oq (.next rfl) ?_)
 rintro v L' (⟨rfl, hp3, rfl⟩ | ⟨x, rest3, rfl, hp3, rfl⟩)
 ·refine .rangeDone (by repeat' constructor) ?_
  have hperm : acc.Perm (kidsM m p) := by rw [hacc]; unfold kidsM; exact ((hp3.symm.filter _).map _)
  have hpl := hperm.length_eq
  have hsp := sortS_of_perm hperm
  have hkm := kidsM_len m p
  refine .u (.extract rfl rfl) (.nt (.seq (.condF rfl (.exit (.then_e (.then_e (.blk_e (.then_n (.sm rfl (.oq (.call Tryz.func212 rfl rfl (vs := [_]) rfl (sortstr_spec _ acc.length acc (by omega))) ?_))))))))))
  rintro v L' ⟨rfl, rfl⟩; rw [hsp, hpl]
  refine .nt (.sm rfl (.an rfl (.ret ?_)))
  exact .dn rfl rfl ⟨⟨_, _, rfl⟩, rfl⟩
 refine .u (.extract rfl rfl) (.nt (.seq (.condT rfl (.sk (.block (.sr (.q (.entryE (v := .tuple #[vstr x.1, ndV x.2]) rfl (by repeat' constructor) rfl) rfl (.u (.extract rfl rfl) (.a rfl (.nil ?_))))))))))
 have hxm : x ∈ m := hp3.mem_iff.2 (by simp)
 have hxl := hlen x hxm
 refine .then_n (.sm rfl (.u (.strne rfl rfl) (.m rfl (.ndec (t := 18) rfl (fun h5_18 => ?_) (fun h5_18 => ?_)))))
 ·refine .kNT (t := 17) rfl h5_18 (.grun (t := 18) rfl rfl rfl (.m rfl (.grun (t := 18) rfl rfl rfl (.cv Tryz.func81 [_] (parent_spec x.1 (by omega)) ?_))))
  refine .grun (t := 18) rfl rfl rfl (.m rfl (.grun (t := 18) rfl rfl rfl (.u (.streq rfl rfl) (.u (.pickT rfl rfl) (.nt (.condD rfl (fun h23 => ?_) (fun h23 => ?_)))))))
  ·refine .region (.m rfl (.m rfl (.cv Tryz.func211 [_] (base_spec x.1 (by omega)) ?_)))
   refine .oq (.buildSlice1 (vs := [_]) el_38 ze_9 rfl rfl rfl rfl rfl (by decide)) ?_
   rintro v L' ⟨b6_3, rfl, rfl⟩
   refine .oq (.append1 rfl rfl rfl el_38 ze_9 rfl rfl ?c31 ?c32 (Nat.le_refl _) ?c33 (by decide)) ?_
   case c31 => (first | (simp [isCell]; done) | (simp [isCell, setAll, Value.cells]; done))
   case c32 => rfl
   case c33 => omega
   rintro v L' ⟨⟨a6_4, c6_4, rfl⟩, rfl⟩
   refine .a rfl (.nil (.blk_n (.then_n ?_)))
   have hl := hp3.length_eq
   simp at hl
   have hsel : ¬ x.1 = [47] ∧ parentZ x.1 = p := ⟨h5_18, h23⟩
   rw [show strs acc ++ [vstr (baseZ x.1)] = strs (acc ++ [baseZ x.1]) by simp [strs], show acc.length + 1 = (acc ++ [baseZ x.1]).length by simp]
   exact .rk ((ss ++ [x], .slice a6_4 (acc ++ [baseZ x.1]).length c6_4, acc ++ [baseZ x.1])) (⟨by dsimp only; rw [hacc]; unfold kidsM; rw [List.filter_append, List.map_append]; simp [hsel], ⟨_, by simpa using hp3⟩, _, _, rfl⟩) (by dsimp only; simp; omega) ⟨rfl, rfl, rfl, rfl, trivial⟩
  refine .skip (.blk_n (.then_n ?_))
  have hl := hp3.length_eq
  simp at hl
  have hsel : ¬ x.1 = [47] → ¬ parentZ x.1 = p := fun g1 g2 => h23 g2
  exact .rk ((ss ++ [x], .slice au acc.length cu, acc)) (⟨by dsimp only; rw [hacc]; unfold kidsM; rw [List.filter_append, List.map_append]; simp; exact hsel, ⟨_, by simpa using hp3⟩, _, _, rfl⟩) (by dsimp only; simp; omega) ⟨rfl, rfl, rfl, rfl, trivial⟩
 refine .kNF (t := 17) rfl h5_18 (.gk (.gk (.gk (.gk (.u (.pickF rfl rfl) (.nt (.condF rfl (.skip (.blk_n (.then_n ?_))))))))))
 have hl := hp3.length_eq
 simp at hl
 have hsel : ¬ x.1 = [47] → ¬ parentZ x.1 = p := fun g1 g2 => g1 h5_18
 exact .rk ((ss ++ [x], .slice au acc.length cu, acc)) (⟨by dsimp only; rw [hacc]; unfold kidsM; rw [List.filter_append, List.map_append]; simp; exact hsel, ⟨_, by simpa using hp3⟩, _, _, rfl⟩) (by dsimp only; simp; omega) ⟨rfl, rfl, rfl, rfl, trivial⟩
theorem trpaths_spec (t : Nat) (τ : Tr) (N : Nat) (ho : τ.Ok N) (hN : N ≤ 1099511627776) : Fn Tryz.prog 140 #[vptr t] [treeR t τ] fun v L => (∃ a c, v = .slice a (pathsZ τ).length c) ∧ L = [treeR t τ, slR 9 1 v (pathsZ τ).length (strs (pathsZ τ))] := by
 refine Fn.intro Tryz.func140 rfl rfl fun F W => ?_
 refine .trOpen (τ := τ) (by repeat' constructor) fun rn rs m s hI => ?_
 have hlen := hI.len ho
 have hfew := ho.few
 have hpz : (pathsZ τ).length = τ.nodes.length := List.length_map _
 refine .sr (.an rfl (.sm rfl (.nf rfl fo_113_0 (.u (.ld rfl ag_110) (.oq (.c Tryz.func215 [_] (trkeys_spec _)) ?_)))))
 rintro v L' ⟨bk, rfl, rfl⟩
 refine .oq (.c Tryz.func214 [_] (trsorted_spec m hI.keys (hI.plen ho) (by omega))) ?_
 rintro v L' ⟨⟨ap, cp, rfl⟩, rfl⟩; rw [hI.paths ho, show m.length = (pathsZ τ).length by omega]
 refine .an rfl (.ret (.trFold (τ := τ) hI (by repeat' constructor) rfl rfl rfl ?_))
 exact .dn rfl rfl ⟨⟨_, _, rfl⟩, rfl⟩
/- not in this seat -/
theorem trzxid_spec (t : Nat) (τ : Tr) : Fn Tryz.prog 29 #[vptr t] [treeR t τ] fun v L => v = vint τ.zx ∧ L = [treeR t τ] := by
 refine Fn.intro Tryz.func29 rfl rfl fun F W => ?_
 refine .trOpen (τ := τ) (by repeat' constructor) fun rn rs m s hI => (.sr (.an rfl (.sm rfl (.nf rfl fo_113_2 (.u (.ld rfl ag_3) (.an rfl (.ret (.trFold (τ := τ) hI (by repeat' constructor) rfl rfl rfl ?_))))))))
 exact .vv
theorem trerase_spec (t : Nat) (τ : Tr) (x : Pt) (zx : Int) (p : HP) (hx : PtA p x) (N : Nat) (ho : τ.Ok N) (hN : N ≤ 1099511627776) : Fn Tryz.prog 133 #[vptr t, .agg (ptC x).toArray, vint zx] [treeR t τ] fun v L => ∃ a c, v = .slice a (eraseZ τ x zx).2.length c ∧ L = [treeR t (eraseZ τ x zx).1, slR 50 3 v (eraseZ τ x zx).2.length ((eraseZ τ x zx).2.flatMap evC)] := by
 refine Fn.intro Tryz.func133 rfl rfl fun F W => ?_
 have hfew := hx.few
 have hpl := hx.plen
 have hpar := parent_len x.path
 have hpz : (pathsZ τ).length = τ.nodes.length := List.length_map _
 have hofew := ho.few
 refine .sr (.oq (.box rfl) ?_)
 rintro v L' ⟨bx, rfl, rfl⟩
 refine .a rfl (.nil (.ptCast (b := bx) (l' := ptC x) (by repeat' constructor) rfl ?_))
 refine .then_n (.seq (.sr (.u (.fieldAddr rfl fo_60_1) (.u (.ld rfl ag_9) (.cv Tryz.func208 [_] (able_spec x.path hpl) ?_)))))
 refine .u (.not rfl) (.nt (.condN rfl (fun h16 => ?_) (fun h16 => ?_)))
 ·refine .sr (.an rfl (.rt (.add (slR_nil 50 3) ?_)))
  have hc : eraseZ τ x zx = (τ, []) := by unfold eraseZ; rw [if_neg h16]
  refine .trCast (τ' := (eraseZ τ x zx).1) (by repeat' constructor) (by rw [hc]) (.slCast (T := 50) (sz := 3) (m' := (eraseZ τ x zx).2.length) (xs' := (eraseZ τ x zx).2.flatMap evC) (by repeat' constructor) (by (rw [hc]; try rfl)) (by (rw [hc]; try rfl)) ?_)
  exact .dn rfl rfl ⟨_, _, by (rw [hc]; try rfl), rfl⟩
 refine .sk (.sr (.u (.fieldAddr rfl fo_60_1) (.u (.ld rfl ag_9) (.cv Tryz.func81 [_] (parent_spec x.path (by omega)) ?_))))
 refine .an rfl (.seq (.trOpen (τ := τ) (by repeat' constructor) fun rn rs m s hI => (.draw [] [[0, 1, 2, 3, 4, 5, 6, 7, 8, 9, 10, 11]] mixed (by kernel_rfl) (.g0 ?_))))
 rcases hal : alook m x.path with _ | px
 ·have hth : ¬ thereT τ x.path := hI.none_iff.1 hal
  refine D.mv rfl rfl (.nf rfl rfl rfl fo_113_0 (.kv rfl (.ld rfl ag_110) (.kv rfl (.fieldAddr rfl fo_60_1) (.kv rfl (.ld rfl ag_9) (.kv rfl (.lookupOkN (m := m) (enc := ndV) (KeyLaw.str Tryz.underlying9) hal rfl rfl Tryz.underlying110 ze_107 (by repeat' constructor) rfl) (.mv rfl rfl (.kv rfl (.extract rfl rfl) (.kv rfl (.extract rfl rfl) (.kv rfl (.assign rfl) (.kv rfl (.assign rfl) (.ph (.fin (.trFold (τ := τ) hI (by repeat' constructor) rfl rfl rfl (.then_n (.seq (.sm rfl (.oq (.c Tryz.func140 [_] (trpaths_spec t τ N ho hN)) ?_)))))))))))))))))
  rintro v L' ⟨⟨ap, cp, rfl⟩, rfl⟩
  refine .q (.slen rfl Tryz.underlying38 rfl) rfl (.m rfl (.nt (.block (.trCast (τ' := cutL τ x.path ((pathsZ τ).take 0)) (by repeat' constructor) (by rw [List.take_zero, cutL_nil]) (.loopK (ι := Nat) (fun q E => (33, vint q) :: E) (fun q => [treeR t (cutL τ x.path ((pathsZ τ).take q))]) (fun q => q ≤ (pathsZ τ).length) (fun q => (pathsZ τ).length - q) (0) (ts := [0, 2, 4, 6, 7, 9, 31, 32]) (.cons rfl (.cons rfl (.cons rfl (.cons rfl (.cons rfl (.cons rfl (.cons rfl (.cons rfl (.nil))))))))) (Nat.zero_le _) ⟨rfl, rfl, rfl, rfl, rfl, rfl, rfl, rfl, rfl, trivial⟩ (by repeat' constructor) ?_)))))
  rintro i hi
  refine .sr (.ui rfl rfl rfl (.nt (.seq (.condD rfl (fun h34 => ?_) (fun h34 => ?_)))))
  ·have hi2 : i < (pathsZ τ).length := by omega
   refine .slShape (v := .slice ap _ cp) (by repeat' constructor) (by omega) fun bp cp' e0 mp _ => ?_
   simp only [Value.slice.injEq, true_and] at e0
   obtain ⟨rfl, rfl⟩ := e0
   refine .sk (.seq (.block (.sr (.q (.indexAddr rfl rfl el_38 (by omega)) rfl (.q (.loadSl (v := vstr (pathsZ τ)[i]) (i := i * 1) rfl ag_9 (by repeat' constructor) (by simp [hi2])) rfl (.an rfl (.sm rfl (.u (.fieldAddr rfl fo_60_1) (.u (.ld rfl ag_9) (.u (.streq rfl rfl) (.m rfl (.dec (t := 41) rfl (fun h8_41 => ?_) (fun h8_41 => ?_)))))))))))))
   ·refine .kDT (t := 40) rfl h8_41 (.gk (.gk (.gk (.gk (.u (.pickT rfl rfl) (.nt (.condT rfl ?_)))))))
    have hhit : hitT (pathsZ τ)[i] x.path = true := by unfold hitT; rw [decide_eq_true h8_41]; rfl
    refine .trOpen (τ := (cutL τ x.path ((pathsZ τ).take i))) (by repeat' constructor) fun rn rs m s hI => (.region (.m rfl (.nf rfl fo_113_0 (.u (.ld rfl ag_110) (.m rfl (.oq (.mapDel (m := m) (enc := ndV) (k := (pathsZ τ)[i]) (KeyLaw.str Tryz.underlying9) rfl rfl rfl Tryz.underlying110 ?he39) ?_))))))
    case he39 => rfl
    rintro v L' rfl
    refine .nil (.bigDel (f := inN) (pathsZ τ)[i] (by repeat' constructor) (.trFold (τ := ({ (cutL τ x.path ((pathsZ τ).take i)) with nodes := (cutL τ x.path ((pathsZ τ).take i)).nodes.filter fun y => !decide (y.1 = (pathsZ τ)[i]) } : Tr)) (hI.del (pathsZ τ)[i]) (by repeat' constructor) rfl rfl rfl (.blk_n (.then_n (.region (.q (.add rfl rfl (by omega)) rfl (.m rfl (.nt (.trCast (τ' := cutL τ x.path ((pathsZ τ).take (i + 1))) (by repeat' constructor) (by rw [List.take_succ_eq_append_getElem hi2, cutL_hit τ _ hhit]) ?_)))))))))
    exact .rk (i + 1) (by omega) (by omega) ⟨rfl, rfl, rfl, rfl, rfl, rfl, rfl, rfl, rfl, trivial⟩
   refine .kDF (t := 40) rfl h8_41 (.grun (t := 41) rfl rfl rfl (.m rfl (.grun (t := 41) rfl rfl rfl (.u (.fieldAddr rfl fo_60_1) (.grun (t := 41) rfl rfl rfl (.u (.ld rfl ag_9) (.grun (t := 41) rfl rfl rfl (.cv Tryz.func210 [_, _] (under_spec (pathsZ τ)[i] x.path (by omega)) ?_))))))))
   refine .u (.pickF rfl rfl) (.nt (.condD rfl (fun h46 => ?_) (fun h46 => ?_)))
   ·have hhit : hitT (pathsZ τ)[i] x.path = true := by unfold hitT; rw [decide_eq_true h46, Bool.or_true]
    refine .trOpen (τ := (cutL τ x.path ((pathsZ τ).take i))) (by repeat' constructor) fun rn rs m s hI => (.region (.m rfl (.nf rfl fo_113_0 (.u (.ld rfl ag_110) (.m rfl (.oq (.mapDel (m := m) (enc := ndV) (k := (pathsZ τ)[i]) (KeyLaw.str Tryz.underlying9) rfl rfl rfl Tryz.underlying110 ?he50) ?_))))))
    case he50 => rfl
    rintro v L' rfl
    refine .nil (.bigDel (f := inN) (pathsZ τ)[i] (by repeat' constructor) (.trFold (τ := ({ (cutL τ x.path ((pathsZ τ).take i)) with nodes := (cutL τ x.path ((pathsZ τ).take i)).nodes.filter fun y => !decide (y.1 = (pathsZ τ)[i]) } : Tr)) (hI.del (pathsZ τ)[i]) (by repeat' constructor) rfl rfl rfl (.blk_n (.then_n (.region (.q (.add rfl rfl (by omega)) rfl (.m rfl (.nt (.trCast (τ' := cutL τ x.path ((pathsZ τ).take (i + 1))) (by repeat' constructor) (by rw [List.take_succ_eq_append_getElem hi2, cutL_hit τ _ hhit]) ?_)))))))))
    exact .rk (i + 1) (by omega) (by omega) ⟨rfl, rfl, rfl, rfl, rfl, rfl, rfl, rfl, rfl, trivial⟩
   have hhit : hitT (pathsZ τ)[i] x.path = false := by unfold hitT; rw [decide_eq_false h8_41, decide_eq_false h46]; rfl
   refine .skip (.blk_n (.then_n (.region (.q (.add rfl rfl (by omega)) rfl (.m rfl (.nt (.trCast (τ' := cutL τ x.path ((pathsZ τ).take (i + 1))) (by repeat' constructor) (by rw [List.take_succ_eq_append_getElem hi2, cutL_skip τ _ hhit]) ?_)))))))
   exact .rk (i + 1) (by omega) (by omega) ⟨rfl, rfl, rfl, rfl, rfl, rfl, rfl, rfl, rfl, trivial⟩
  have hii : i = (pathsZ τ).length := by omega
  rw [hii, List.take_length, cutL_all]
  refine .exit (.then_e (.then_e (.blk_e (.then_n (.sm rfl (.m rfl (.u (.fieldAddr rfl fo_60_5) (.u (.ld rfl ag_3) (.m rfl (.cv Tryz.func209 [_, _, _, _] (trkid_spec t (cutT τ x.path) (parentZ x.path) x.num zx) ?_))))))))))
  refine .nt (.seq (.sm rfl (.u (.not rfl) (.nt (.condT rfl (.sr (.an rfl (.rt (.add (slR_nil 50 3) ?_)))))))))
  have hc : eraseZ τ x zx = ((kidT (cutT τ x.path) (parentZ x.path) x.num zx), []) := by unfold eraseZ; rw [if_pos h16, if_neg hth]
  refine .trCast (τ' := (eraseZ τ x zx).1) (by repeat' constructor) (by rw [hc]) (.slCast (T := 50) (sz := 3) (m' := (eraseZ τ x zx).2.length) (xs' := (eraseZ τ x zx).2.flatMap evC) (by repeat' constructor) (by (rw [hc]; try rfl)) (by (rw [hc]; try rfl)) ?_)
  exact .dn rfl rfl ⟨_, _, by (rw [hc]; try rfl), rfl⟩
 have hth : thereT τ x.path := hI.some_iff hal
 refine D.mv rfl rfl (.nf rfl rfl rfl fo_113_0 (.kv rfl (.ld rfl ag_110) (.kv rfl (.fieldAddr rfl fo_60_1) (.kv rfl (.ld rfl ag_9) (.kv rfl (.lookupOkY (m := m) (enc := ndV) (KeyLaw.str Tryz.underlying9) hal rfl rfl Tryz.underlying110 ze_107 (by repeat' constructor) rfl) (.mv rfl rfl (.kv rfl (.extract rfl rfl) (.kv rfl (.extract rfl rfl) (.kv rfl (.assign rfl) (.kv rfl (.assign rfl) (.ph (.fin (.trFold (τ := τ) hI (by repeat' constructor) rfl rfl rfl (.then_n (.seq (.sm rfl (.oq (.c Tryz.func140 [_] (trpaths_spec t τ N ho hN)) ?_)))))))))))))))))
 rintro v L' ⟨⟨ap, cp, rfl⟩, rfl⟩
 refine .q (.slen rfl Tryz.underlying38 rfl) rfl (.m rfl (.nt (.block (.trCast (τ' := cutL τ x.path ((pathsZ τ).take 0)) (by repeat' constructor) (by rw [List.take_zero, cutL_nil]) (.loopK (ι := Nat) (fun q E => (33, vint q) :: E) (fun q => [treeR t (cutL τ x.path ((pathsZ τ).take q))]) (fun q => q ≤ (pathsZ τ).length) (fun q => (pathsZ τ).length - q) (0) (ts := [0, 2, 4, 6, 7, 9, 31, 32]) (.cons rfl (.cons rfl (.cons rfl (.cons rfl (.cons rfl (.cons rfl (.cons rfl (.cons rfl (.nil))))))))) (Nat.zero_le _) ⟨rfl, rfl, rfl, rfl, rfl, rfl, rfl, rfl, rfl, trivial⟩ (by repeat' constructor) ?_)))))
 rintro i hi
 refine .sr (.ui rfl rfl rfl (.nt (.seq (.condD rfl (fun h34 => ?_) (fun h34 => ?_)))))
 ·have hi2 : i < (pathsZ τ).length := by omega
  refine .slShape (v := .slice ap _ cp) (by repeat' constructor) (by omega) fun bp cp' e0 mp _ => ?_
  simp only [Value.slice.injEq, true_and] at e0
  obtain ⟨rfl, rfl⟩ := e0
  refine .sk (.seq (.block (.sr (.q (.indexAddr rfl rfl el_38 (by omega)) rfl (.q (.loadSl (v := vstr (pathsZ τ)[i]) (i := i * 1) rfl ag_9 (by repeat' constructor) (by simp [hi2])) rfl (.an rfl (.sm rfl (.u (.fieldAddr rfl fo_60_1) (.u (.ld rfl ag_9) (.u (.streq rfl rfl) (.m rfl (.dec (t := 41) rfl (fun h8_41 => ?_) (fun h8_41 => ?_)))))))))))))
  ·refine .kDT (t := 40) rfl h8_41 (.gk (.gk (.gk (.gk (.u (.pickT rfl rfl) (.nt (.condT rfl ?_)))))))
   have hhit : hitT (pathsZ τ)[i] x.path = true := by unfold hitT; rw [decide_eq_true h8_41]; rfl
   refine .trOpen (τ := (cutL τ x.path ((pathsZ τ).take i))) (by repeat' constructor) fun rn rs m s hI => (.region (.m rfl (.nf rfl fo_113_0 (.u (.ld rfl ag_110) (.m rfl (.oq (.mapDel (m := m) (enc := ndV) (k := (pathsZ τ)[i]) (KeyLaw.str Tryz.underlying9) rfl rfl rfl Tryz.underlying110 ?he89) ?_))))))
   case he89 => rfl
   rintro v L' rfl
   refine .nil (.bigDel (f := inN) (pathsZ τ)[i] (by repeat' constructor) (.trFold (τ := ({ (cutL τ x.path ((pathsZ τ).take i)) with nodes := (cutL τ x.path ((pathsZ τ).take i)).nodes.filter fun y => !decide (y.1 = (pathsZ τ)[i]) } : Tr)) (hI.del (pathsZ τ)[i]) (by repeat' constructor) rfl rfl rfl (.blk_n (.then_n (.region (.q (.add rfl rfl (by omega)) rfl (.m rfl (.nt (.trCast (τ' := cutL τ x.path ((pathsZ τ).take (i + 1))) (by repeat' constructor) (by rw [List.take_succ_eq_append_getElem hi2, cutL_hit τ _ hhit]) ?_)))))))))
   exact .rk (i + 1) (by omega) (by omega) ⟨rfl, rfl, rfl, rfl, rfl, rfl, rfl, rfl, rfl, trivial⟩
  refine .kDF (t := 40) rfl h8_41 (.grun (t := 41) rfl rfl rfl (.m rfl (.grun (t := 41) rfl rfl rfl (.u (.fieldAddr rfl fo_60_1) (.grun (t := 41) rfl rfl rfl (.u (.ld rfl ag_9) (.grun (t := 41) rfl rfl rfl (.cv Tryz.func210 [_, _] (under_spec (pathsZ τ)[i] x.path (by omega)) ?_))))))))
  refine .u (.pickF rfl rfl) (.nt (.condD rfl (fun h46 => ?_) (fun h46 => ?_)))
  ·have hhit : hitT (pathsZ τ)[i] x.path = true := by unfold hitT; rw [decide_eq_true h46, Bool.or_true]
   refine .trOpen (τ := (cutL τ x.path ((pathsZ τ).take i))) (by repeat' constructor) fun rn rs m s hI => (.region (.m rfl (.nf rfl fo_113_0 (.u (.ld rfl ag_110) (.m rfl (.oq (.mapDel (m := m) (enc := ndV) (k := (pathsZ τ)[i]) (KeyLaw.str Tryz.underlying9) rfl rfl rfl Tryz.underlying110 ?he100) ?_))))))
   case he100 => rfl
   rintro v L' rfl
   refine .nil (.bigDel (f := inN) (pathsZ τ)[i] (by repeat' constructor) (.trFold (τ := ({ (cutL τ x.path ((pathsZ τ).take i)) with nodes := (cutL τ x.path ((pathsZ τ).take i)).nodes.filter fun y => !decide (y.1 = (pathsZ τ)[i]) } : Tr)) (hI.del (pathsZ τ)[i]) (by repeat' constructor) rfl rfl rfl (.blk_n (.then_n (.region (.q (.add rfl rfl (by omega)) rfl (.m rfl (.nt (.trCast (τ' := cutL τ x.path ((pathsZ τ).take (i + 1))) (by repeat' constructor) (by rw [List.take_succ_eq_append_getElem hi2, cutL_hit τ _ hhit]) ?_)))))))))
   exact .rk (i + 1) (by omega) (by omega) ⟨rfl, rfl, rfl, rfl, rfl, rfl, rfl, rfl, rfl, trivial⟩
  have hhit : hitT (pathsZ τ)[i] x.path = false := by unfold hitT; rw [decide_eq_false h8_41, decide_eq_false h46]; rfl
  refine .skip (.blk_n (.then_n (.region (.q (.add rfl rfl (by omega)) rfl (.m rfl (.nt (.trCast (τ' := cutL τ x.path ((pathsZ τ).take (i + 1))) (by repeat' constructor) (by rw [List.take_succ_eq_append_getElem hi2, cutL_skip τ _ hhit]) ?_)))))))
  exact .rk (i + 1) (by omega) (by omega) ⟨rfl, rfl, rfl, rfl, rfl, rfl, rfl, rfl, rfl, trivial⟩
 have hii : i = (pathsZ τ).length := by omega
 rw [hii, List.take_length, cutL_all]
 refine .exit (.then_e (.then_e (.blk_e (.then_n (.sm rfl (.m rfl (.u (.fieldAddr rfl fo_60_5) (.u (.ld rfl ag_3) (.m rfl (.cv Tryz.func209 [_, _, _, _] (trkid_spec t (cutT τ x.path) (parentZ x.path) x.num zx) ?_))))))))))
 refine .nt (.seq (.sm rfl (.u (.not rfl) (.nt (.condF rfl (.sk (.sr (.u (.fieldAddr rfl fo_60_1) (.u (.ld rfl ag_9) (.m rfl (.q (.build (us := [(0, _), (1, _), (2, _)]) fl_50 ze_50 rfl rfl (by simp [isCell])) rfl (.oq (.buildSlice (vs := [_]) el_47 ze_50 rfl rfl rfl rfl (by first | (simp [Value.cells]; done) | (intro v hv; simp only [List.mem_cons, List.not_mem_nil, or_false] at hv; (repeat (first | (subst hv; rfl) | (rcases hv with hv | hv; (subst hv; rfl)))))) (by decide)) ?_))))))))))))
 rintro v L' ⟨bo, rfl, rfl⟩
 refine .a rfl (.nil (.slMakeN 3 1 (b := bo) (xs := ([(2, (x.path, zx))] : List Ev).flatMap evC) (by repeat' constructor) rfl rfl (.then_n (.seq (.seq (.trOpen (τ := (kidT (cutT τ x.path) (parentZ x.path) x.num zx)) (by repeat' constructor) fun rn rs m s hI => (.region ?_)))))))
 rcases hup : alook m (parentZ x.path) with _ | pu
 ·refine .m rfl (.nf rfl fo_113_0 (.u (.ld rfl ag_110) (.m rfl (.q (.lookupN (m := m) (enc := ndV) (KeyLaw.str Tryz.underlying9) (hup) rfl rfl Tryz.underlying110 ze_107 (by repeat' constructor) rfl) rfl (.q (.as (v' := .bool false) (by rfl) (.ptrne rfl rfl Tryz.underlying107)) rfl (.nt (.condF rfl (.sk (.sm rfl (.an rfl (.ret ?_)))))))))))
  have hc : eraseZ τ x zx = ((kidT (cutT τ x.path) (parentZ x.path) x.num zx), [(2, (x.path, zx))]) := by unfold eraseZ; rw [if_pos h16, if_pos hth, if_neg (fun g => hI.none_iff.1 hup (kid_there.2 g))]
  refine .trFold (τ := (kidT (cutT τ x.path) (parentZ x.path) x.num zx)) hI (by repeat' constructor) rfl rfl rfl (.trCast (τ' := (eraseZ τ x zx).1) (by repeat' constructor) (by rw [hc]) (.slCast (T := 50) (sz := 3) (m' := (eraseZ τ x zx).2.length) (xs' := (eraseZ τ x zx).2.flatMap evC) (by repeat' constructor) (by (rw [hc]; try rfl)) (by (rw [hc]; try rfl)) ?_))
  exact .dn rfl rfl ⟨_, _, by (rw [hc]; try rfl), rfl⟩
 refine .m rfl (.nf rfl fo_113_0 (.u (.ld rfl ag_110) (.m rfl (.q (.lookupY (m := m) (enc := ndV) (KeyLaw.str Tryz.underlying9) (hup) rfl rfl Tryz.underlying110 ze_107 (by repeat' constructor) rfl) rfl (.q (.as (v' := .bool true) (by rfl) (.ptrne rfl rfl Tryz.underlying107)) rfl (.nt (.condT rfl (.region (.m rfl (.m rfl (.m rfl (.q (.build (us := [(0, _), (1, _), (2, _)]) fl_50 ze_50 rfl rfl (by simp [isCell])) rfl (.oq (.buildSlice (vs := [_]) el_47 ze_50 rfl rfl rfl rfl (by first | (simp [Value.cells]; done) | (intro v hv; simp only [List.mem_cons, List.not_mem_nil, or_false] at hv; (repeat (first | (subst hv; rfl) | (rcases hv with hv | hv; (subst hv; rfl)))))) (by decide)) ?_)))))))))))))
 rintro v L' ⟨b16_4, rfl, rfl⟩
 refine .oq (.append1 rfl rfl rfl el_47 ze_50 rfl rfl ?c138 ?c139 (Nat.le_refl _) ?c140 (by decide)) ?_
 case c138 => (first | (simp [isCell]; done) | (simp [isCell, setAll, Value.cells]; done))
 case c139 => rfl
 case c140 => omega
 rintro v L' ⟨⟨a16_5, c16_5, rfl⟩, rfl⟩
 refine .an rfl (.sm rfl (.an rfl (.ret ?_)))
 have hc : eraseZ τ x zx = ((kidT (cutT τ x.path) (parentZ x.path) x.num zx), [(2, (x.path, zx)), (4, (parentZ x.path, zx))]) := by unfold eraseZ; rw [if_pos h16, if_pos hth, if_pos (kid_there.1 (hI.some_iff hup))]
 refine .trFold (τ := (kidT (cutT τ x.path) (parentZ x.path) x.num zx)) hI (by repeat' constructor) rfl rfl rfl (.trCast (τ' := (eraseZ τ x zx).1) (by repeat' constructor) (by rw [hc]) (.slCast (T := 50) (sz := 3) (m' := (eraseZ τ x zx).2.length) (xs' := (eraseZ τ x zx).2.flatMap evC) (by repeat' constructor) (by (rw [hc]; try rfl)) (by (rw [hc]; try rfl)) ?_))
 exact .dn rfl rfl ⟨_, _, by (rw [hc]; try rfl), rfl⟩
theorem trpart_spec (t : Nat) (τ : Tr) (x : Pt) (zx : Int) (p : HP) (hx : PtA p x) (N : Nat) (ho : τ.Ok N) (hN : N ≤ 1099511627776) : Fn Tryz.prog 72 #[vptr t, .agg (ptC x).toArray, vint zx] [treeR t τ, p] fun v L => ∃ a c, v = .slice a (partZ τ x zx).2.length c ∧ L = [treeR t (partZ τ x zx).1, p, slR 50 3 v (partZ τ x zx).2.length ((partZ τ x zx).2.flatMap evC)] := by
 refine Fn.intro Tryz.func72 rfl rfl fun F W => ?_
 have hfew := hx.few
 have hpl := hx.plen
 refine .sr (.oq (.box rfl) ?_)
 rintro v L' ⟨bx, rfl, rfl⟩
 refine .a rfl (.nil (.ptCast (b := bx) (l' := ptC x) (by repeat' constructor) rfl ?_))
 refine .then_n (.seq (.trOpen (τ := τ) (by repeat' constructor) fun rn rs m s hI => (.draw [] [[0, 1, 2, 3, 4, 5, 6, 7]] mixed (by kernel_rfl) (.g0 ?_))))
 rcases hal : alook m x.path with _ | px
 ·refine D.mv rfl rfl (.nf rfl rfl rfl fo_113_0 (.kv rfl (.ld rfl ag_110) (.kv rfl (.fieldAddr rfl fo_60_1) (.kv rfl (.ld rfl ag_9) (.kv rfl (.lookupN (m := m) (enc := ndV) (KeyLaw.str Tryz.underlying9) (hal) rfl rfl Tryz.underlying110 ze_107 (by repeat' constructor) rfl) (.kv rfl (.assign rfl) (.pf (.seq (.block (.sr (.u (.fieldAddr rfl fo_60_0) (.u (.ld rfl ag_3) (.ui rfl rfl rfl (.an rfl (.condD rfl (fun h15 => ?_) (fun h15 => ?_))))))))))))))))
  ·refine .trFold (τ := τ) hI (by repeat' constructor) rfl rfl rfl (.sm rfl (.q (.loadAs (vs := ptC x) rfl ag_60 (by repeat' constructor) (by simp [ptC]) rfl) rfl (.m rfl (.oq (.c Tryz.func132 [_, _, _] (trcreate_spec t τ x zx p hx)) ?_))))
   rintro v L' ⟨a3, c3, rfl, rfl⟩
   refine .an rfl (.ret (.blk_r (.then_r ?_)))
   have hc : partZ τ x zx = createZ τ x zx := by unfold partZ; rw [if_pos h15]
   refine .trCast (τ' := (partZ τ x zx).1) (by repeat' constructor) (by rw [hc]) (.slCast (T := 50) (sz := 3) (m' := (partZ τ x zx).2.length) (xs' := (partZ τ x zx).2.flatMap evC) (by repeat' constructor) (by (rw [hc]; try rfl)) (by (rw [hc]; try rfl)) ?_)
   exact .dn rfl rfl ⟨_, _, by (rw [hc]; try rfl), rfl⟩
  refine .sr (.u (.fieldAddr rfl fo_60_0) (.u (.ld rfl ag_3) (.ui rfl rfl rfl (.an rfl (.condD rfl (fun h23 => ?_) (fun h23 => ?_))))))
  ·refine .trFold (τ := τ) hI (by repeat' constructor) rfl rfl rfl (.sm rfl (.q (.loadAs (vs := ptC x) rfl ag_60 (by repeat' constructor) (by simp [ptC]) rfl) rfl (.m rfl (.oq (.c Tryz.func133 [_, _, _] (trerase_spec t τ x zx p hx N ho hN)) ?_))))
   rintro v L' ⟨a5, c5, rfl, rfl⟩
   refine .an rfl (.ret (.blk_r (.then_r ?_)))
   have hc : partZ τ x zx = eraseZ τ x zx := by unfold partZ; rw [if_neg h15, if_pos h23]
   refine .trCast (τ' := (partZ τ x zx).1) (by repeat' constructor) (by rw [hc]) (.slCast (T := 50) (sz := 3) (m' := (partZ τ x zx).2.length) (xs' := (partZ τ x zx).2.flatMap evC) (by repeat' constructor) (by (rw [hc]; try rfl)) (by (rw [hc]; try rfl)) ?_)
   exact .dn rfl rfl ⟨_, _, by (rw [hc]; try rfl), rfl⟩
  refine .sr (.u (.fieldAddr rfl fo_60_0) (.u (.ld rfl ag_3) (.ui rfl rfl rfl (.m rfl (.dec (t := 35) rfl (fun h6_35 => ?_) (fun h6_35 => ?_))))))
  ·refine .kDT (t := 34) rfl h6_35 (.grun (t := 35) rfl rfl rfl (.m rfl (.grun (t := 35) rfl rfl rfl (.q (.as (v' := .bool false) (by rfl) (.ptrne rfl rfl Tryz.underlying107)) rfl (.u (.pickT rfl rfl) (.an rfl (.condF rfl (.sr (.u (.fieldAddr rfl fo_60_0) (.u (.ld rfl ag_3) (.ui rfl rfl rfl (.m rfl (.dec (t := 64) rfl (fun h9_64 => ?_) (fun h9_64 => ?_))))))))))))))
   ·refine .kDT (t := 63) rfl h9_64 (.grun (t := 64) rfl rfl rfl (.m rfl (.grun (t := 64) rfl rfl rfl (.q (.as (v' := .bool false) (by rfl) (.ptrne rfl rfl Tryz.underlying107)) rfl (.u (.pickT rfl rfl) (.an rfl (.condF rfl (.skip (.blk_n (.then_n (.sr (.an rfl (.ret (.trFold (τ := τ) hI (by repeat' constructor) rfl rfl rfl (.add (slR_nil 50 3) ?_)))))))))))))))
    have hc : partZ τ x zx = (τ, []) := by unfold partZ; rw [if_neg h15, if_neg h23, if_neg (fun g => hI.none_iff.1 hal g.2), if_neg (fun g => hI.none_iff.1 hal g.2)]
    refine .trCast (τ' := (partZ τ x zx).1) (by repeat' constructor) (by rw [hc]) (.slCast (T := 50) (sz := 3) (m' := (partZ τ x zx).2.length) (xs' := (partZ τ x zx).2.flatMap evC) (by repeat' constructor) (by (rw [hc]; try rfl)) (by (rw [hc]; try rfl)) ?_)
    exact .dn rfl rfl ⟨_, _, by (rw [hc]; try rfl), rfl⟩
   refine .kDF (t := 63) rfl h9_64 (.gk (.gk (.u (.pickF rfl rfl) (.an rfl (.condF rfl (.skip (.blk_n (.then_n (.sr (.an rfl (.ret (.trFold (τ := τ) hI (by repeat' constructor) rfl rfl rfl (.add (slR_nil 50 3) ?_)))))))))))))
   have hc : partZ τ x zx = (τ, []) := by unfold partZ; rw [if_neg h15, if_neg h23, if_neg (fun g => hI.none_iff.1 hal g.2), if_neg (fun g => h9_64 g.1)]
   refine .trCast (τ' := (partZ τ x zx).1) (by repeat' constructor) (by rw [hc]) (.slCast (T := 50) (sz := 3) (m' := (partZ τ x zx).2.length) (xs' := (partZ τ x zx).2.flatMap evC) (by repeat' constructor) (by (rw [hc]; try rfl)) (by (rw [hc]; try rfl)) ?_)
   exact .dn rfl rfl ⟨_, _, by (rw [hc]; try rfl), rfl⟩
  refine .kDF (t := 34) rfl h6_35 (.gk (.gk (.u (.pickF rfl rfl) (.an rfl (.condF rfl (.sr (.u (.fieldAddr rfl fo_60_0) (.u (.ld rfl ag_3) (.ui rfl rfl rfl (.m rfl (.dec (t := 64) rfl (fun h9_64 => ?_) (fun h9_64 => ?_))))))))))))
  ·refine .kDT (t := 63) rfl h9_64 (.grun (t := 64) rfl rfl rfl (.m rfl (.grun (t := 64) rfl rfl rfl (.q (.as (v' := .bool false) (by rfl) (.ptrne rfl rfl Tryz.underlying107)) rfl (.u (.pickT rfl rfl) (.an rfl (.condF rfl (.skip (.blk_n (.then_n (.sr (.an rfl (.ret (.trFold (τ := τ) hI (by repeat' constructor) rfl rfl rfl (.add (slR_nil 50 3) ?_)))))))))))))))
   have hc : partZ τ x zx = (τ, []) := by unfold partZ; rw [if_neg h15, if_neg h23, if_neg (fun g => h6_35 g.1), if_neg (fun g => hI.none_iff.1 hal g.2)]
   refine .trCast (τ' := (partZ τ x zx).1) (by repeat' constructor) (by rw [hc]) (.slCast (T := 50) (sz := 3) (m' := (partZ τ x zx).2.length) (xs' := (partZ τ x zx).2.flatMap evC) (by repeat' constructor) (by (rw [hc]; try rfl)) (by (rw [hc]; try rfl)) ?_)
   exact .dn rfl rfl ⟨_, _, by (rw [hc]; try rfl), rfl⟩
  refine .kDF (t := 63) rfl h9_64 (.gk (.gk (.u (.pickF rfl rfl) (.an rfl (.condF rfl (.skip (.blk_n (.then_n (.sr (.an rfl (.ret (.trFold (τ := τ) hI (by repeat' constructor) rfl rfl rfl (.add (slR_nil 50 3) ?_)))))))))))))
  have hc : partZ τ x zx = (τ, []) := by unfold partZ; rw [if_neg h15, if_neg h23, if_neg (fun g => h6_35 g.1), if_neg (fun g => h9_64 g.1)]
  refine .trCast (τ' := (partZ τ x zx).1) (by repeat' constructor) (by rw [hc]) (.slCast (T := 50) (sz := 3) (m' := (partZ τ x zx).2.length) (xs' := (partZ τ x zx).2.flatMap evC) (by repeat' constructor) (by (rw [hc]; try rfl)) (by (rw [hc]; try rfl)) ?_)
  exact .dn rfl rfl ⟨_, _, by (rw [hc]; try rfl), rfl⟩
 refine D.mv rfl rfl (.nf rfl rfl rfl fo_113_0 (.kv rfl (.ld rfl ag_110) (.kv rfl (.fieldAddr rfl fo_60_1) (.kv rfl (.ld rfl ag_9) (.kv rfl (.lookupY (m := m) (enc := ndV) (KeyLaw.str Tryz.underlying9) (hal) rfl rfl Tryz.underlying110 ze_107 (by repeat' constructor) rfl) (.kv rfl (.assign rfl) (.pf (.seq (.block (.sr (.u (.fieldAddr rfl fo_60_0) (.u (.ld rfl ag_3) (.ui rfl rfl rfl (.an rfl (.condD rfl (fun h15 => ?_) (fun h15 => ?_))))))))))))))))
 ·refine .trFold (τ := τ) hI (by repeat' constructor) rfl rfl rfl (.sm rfl (.q (.loadAs (vs := ptC x) rfl ag_60 (by repeat' constructor) (by simp [ptC]) rfl) rfl (.m rfl (.oq (.c Tryz.func132 [_, _, _] (trcreate_spec t τ x zx p hx)) ?_))))
  rintro v L' ⟨a3, c3, rfl, rfl⟩
  refine .an rfl (.ret (.blk_r (.then_r ?_)))
  have hc : partZ τ x zx = createZ τ x zx := by unfold partZ; rw [if_pos h15]
  refine .trCast (τ' := (partZ τ x zx).1) (by repeat' constructor) (by rw [hc]) (.slCast (T := 50) (sz := 3) (m' := (partZ τ x zx).2.length) (xs' := (partZ τ x zx).2.flatMap evC) (by repeat' constructor) (by (rw [hc]; try rfl)) (by (rw [hc]; try rfl)) ?_)
  exact .dn rfl rfl ⟨_, _, by (rw [hc]; try rfl), rfl⟩
 refine .sr (.u (.fieldAddr rfl fo_60_0) (.u (.ld rfl ag_3) (.ui rfl rfl rfl (.an rfl (.condD rfl (fun h23 => ?_) (fun h23 => ?_))))))
 ·refine .trFold (τ := τ) hI (by repeat' constructor) rfl rfl rfl (.sm rfl (.q (.loadAs (vs := ptC x) rfl ag_60 (by repeat' constructor) (by simp [ptC]) rfl) rfl (.m rfl (.oq (.c Tryz.func133 [_, _, _] (trerase_spec t τ x zx p hx N ho hN)) ?_))))
  rintro v L' ⟨a5, c5, rfl, rfl⟩
  refine .an rfl (.ret (.blk_r (.then_r ?_)))
  have hc : partZ τ x zx = eraseZ τ x zx := by unfold partZ; rw [if_neg h15, if_pos h23]
  refine .trCast (τ' := (partZ τ x zx).1) (by repeat' constructor) (by rw [hc]) (.slCast (T := 50) (sz := 3) (m' := (partZ τ x zx).2.length) (xs' := (partZ τ x zx).2.flatMap evC) (by repeat' constructor) (by (rw [hc]; try rfl)) (by (rw [hc]; try rfl)) ?_)
  exact .dn rfl rfl ⟨_, _, by (rw [hc]; try rfl), rfl⟩
 refine .sr (.u (.fieldAddr rfl fo_60_0) (.u (.ld rfl ag_3) (.ui rfl rfl rfl (.m rfl (.dec (t := 35) rfl (fun h6_35 => ?_) (fun h6_35 => ?_))))))
 ·refine .kDT (t := 34) rfl h6_35 (.grun (t := 35) rfl rfl rfl (.m rfl (.grun (t := 35) rfl rfl rfl (.q (.as (v' := .bool true) (by rfl) (.ptrne rfl rfl Tryz.underlying107)) rfl (.u (.pickT rfl rfl) (.an rfl (.condT rfl (.seq (.bigTake hal (by repeat' constructor) (.ndOpen (x := (x.path, px)) (by repeat' constructor) (.draw [10, 14, 18] [[0, 1, 2, 3, 4, 5, 6, 7, 8, 9, 10, 11, 12, 13, 14], [15, 16, 17, 18]] mixed (by kernel_rfl) (.go [ptc bx _ _] (by repeat' constructor) (.mv rfl rfl (.k rfl (.move rfl) (.k rfl (.move rfl) (.kv rfl (.fieldAddr rfl fo_60_2) (.kv rfl (.ld rfl ag_9) (.k rfl (.fieldAddr rfl fo_60_5) (.k rfl (.ld rfl ag_3) (.k rfl (.move rfl) (.nf rfl rfl rfl fo_109_0 (.hh rfl (.store rfl rfl rfl sz_9 ?c80 (nfz0 _ _)) ?_))))))))))))))))))))))
  case c80 => simp [ndC]
  rintro v L' rfl
  refine D.nf rfl rfl rfl fo_109_2 (.kv rfl (.fieldAddr rfl fo_37_3) (.hh rfl (.store rfl rfl rfl sz_3 ?c86 (nfz0 _ _)) ?_))
  case c86 => simp [ndC]
  rintro v L' rfl
  refine D.ph (.g0 (.nf rfl rfl rfl fo_109_2 (.kv rfl (.fieldAddr rfl fo_37_1) (.hh rfl (.store rfl rfl rfl sz_3 ?c92 (nfz0 _ _)) ?_))))
  case c92 => simp [ndC]
  rintro v L' rfl
  refine D.ph (.fin (.ndFold (x := (x.path, (px.1, (px.2.1, setN x.data x.num zx px.2.2)))) (by repeat' constructor) rfl rfl rfl rfl (.bigPut (f := inN) (m := m) x.path ((x.path, (px.1, (px.2.1, setN x.data x.num zx px.2.2)))).2 rfl (by repeat' constructor) (.trFold (τ := ({ τ with nodes := amod τ.nodes x.path (setN x.data x.num zx) } : Tr)) (hI.mod hal (setN x.data x.num zx) (y := ((x.path, (px.1, (px.2.1, setN x.data x.num zx px.2.2)))).2) rfl) (by repeat' constructor) rfl (ndE_set (y := ((x.path, (px.1, (px.2.1, setN x.data x.num zx px.2.2)))).2) hal rfl).symm rfl (.then_n (.sr (.u (.fieldAddr rfl fo_60_1) (.u (.ld rfl ag_9) (.m rfl (.q (.build (us := [(0, _), (1, _), (2, _)]) fl_50 ze_50 rfl rfl (by simp [isCell])) rfl (.oq (.buildSlice (vs := [_]) el_47 ze_50 rfl rfl rfl rfl (by first | (simp [Value.cells]; done) | (intro v hv; simp only [List.mem_cons, List.not_mem_nil, or_false] at hv; (repeat (first | (subst hv; rfl) | (rcases hv with hv | hv; (subst hv; rfl)))))) (by decide)) ?_)))))))))))
  rintro v L' ⟨bo, rfl, rfl⟩
  refine .a rfl (.nil (.slMakeN 3 1 (b := bo) (xs := ([(3, (x.path, zx))] : List Ev).flatMap evC) (by repeat' constructor) rfl rfl (.then_n (.ret (.blk_r (.then_r ?_))))))
  have hc : partZ τ x zx = (({ τ with nodes := amod τ.nodes x.path (setN x.data x.num zx) } : Tr), [(3, (x.path, zx))]) := by unfold partZ; rw [if_neg h15, if_neg h23, if_pos ⟨h6_35, hI.some_iff hal⟩]
  refine .trCast (τ' := (partZ τ x zx).1) (by repeat' constructor) (by rw [hc]) (.slCast (T := 50) (sz := 3) (m' := (partZ τ x zx).2.length) (xs' := (partZ τ x zx).2.flatMap evC) (by repeat' constructor) (by (rw [hc]; try rfl)) (by (rw [hc]; try rfl)) ?_)
  exact .dn rfl rfl ⟨_, _, by (rw [hc]; try rfl), rfl⟩
 refine .kDF (t := 34) rfl h6_35 (.gk (.gk (.u (.pickF rfl rfl) (.an rfl (.condF rfl (.sr (.u (.fieldAddr rfl fo_60_0) (.u (.ld rfl ag_3) (.ui rfl rfl rfl (.m rfl (.dec (t := 64) rfl (fun h9_64 => ?_) (fun h9_64 => ?_))))))))))))
 ·refine .kDT (t := 63) rfl h9_64 (.grun (t := 64) rfl rfl rfl (.m rfl (.grun (t := 64) rfl rfl rfl (.q (.as (v' := .bool true) (by rfl) (.ptrne rfl rfl Tryz.underlying107)) rfl (.u (.pickT rfl rfl) (.an rfl (.condT rfl (.bigTake hal (by repeat' constructor) (.ndOpen (x := (x.path, px)) (by repeat' constructor) (.draw [4, 9, 13] [[0, 1, 2, 3, 5, 6, 4, 7, 8, 9], [10, 11, 12, 13]] mixed (by kernel_rfl) (.go [ptc bx _ _] (by repeat' constructor) (.k rfl (.move rfl) (.k rfl (.move rfl) (.kv rfl (.fieldAddr rfl fo_60_3) (.kv rfl (.ld rfl ag_30) (.k rfl (.fieldAddr rfl fo_60_5) (.k rfl (.ld rfl ag_3) (.hh rfl (.c Tryz.func134 [_] (aclone_spec x.aclV x.acl p hx.acl hfew)) ?_))))))))))))))))))
  rintro v L' ⟨⟨a10, c10, rfl⟩, rfl⟩
  refine D.nf rfl rfl rfl fo_109_1 (.hh rfl (.store rfl rfl rfl sz_30 ?c114 (nfz0 _ _)) ?_)
  case c114 => simp [ndC]
  rintro v L' rfl
  refine D.ph (.g0 (.nf rfl rfl rfl fo_109_2 (.kv rfl (.fieldAddr rfl fo_37_5) (.hh rfl (.store rfl rfl rfl sz_3 ?c120 (nfz0 _ _)) ?_))))
  case c120 => simp [ndC]
  rintro v L' rfl
  refine D.ph (.fin (.toRd (v := .slice a10 x.acl.length c10) (by repeat' constructor) (.ndFold (x := (x.path, (px.1, (.slice a10 x.acl.length c10, aclN x.acl x.num px.2.2)))) (v := .slice a10 x.acl.length c10) (by repeat' constructor) rfl rfl rfl rfl (.bigPut (f := inN) (m := m) x.path ((x.path, (px.1, (.slice a10 x.acl.length c10, aclN x.acl x.num px.2.2)))).2 rfl (by repeat' constructor) (.trFold (τ := ({ τ with nodes := amod τ.nodes x.path (aclN x.acl x.num) } : Tr)) (hI.mod hal (aclN x.acl x.num) (y := ((x.path, (px.1, (.slice a10 x.acl.length c10, aclN x.acl x.num px.2.2)))).2) rfl) (by repeat' constructor) rfl (ndE_set (y := ((x.path, (px.1, (.slice a10 x.acl.length c10, aclN x.acl x.num px.2.2)))).2) hal rfl).symm rfl (.blk_n (.then_n (.sr (.an rfl (.ret (.add (slR_nil 50 3) ?_)))))))))))
  have hc : partZ τ x zx = (({ τ with nodes := amod τ.nodes x.path (aclN x.acl x.num) } : Tr), []) := by unfold partZ; rw [if_neg h15, if_neg h23, if_neg (fun g => h6_35 g.1), if_pos ⟨h9_64, hI.some_iff hal⟩]
  refine .trCast (τ' := (partZ τ x zx).1) (by repeat' constructor) (by rw [hc]) (.slCast (T := 50) (sz := 3) (m' := (partZ τ x zx).2.length) (xs' := (partZ τ x zx).2.flatMap evC) (by repeat' constructor) (by (rw [hc]; try rfl)) (by (rw [hc]; try rfl)) ?_)
  exact .dn rfl rfl ⟨_, _, by (rw [hc]; try rfl), rfl⟩
 refine .kDF (t := 63) rfl h9_64 (.gk (.gk (.u (.pickF rfl rfl) (.an rfl (.condF rfl (.skip (.blk_n (.then_n (.sr (.an rfl (.ret (.trFold (τ := τ) hI (by repeat' constructor) rfl rfl rfl (.add (slR_nil 50 3) ?_)))))))))))))
 have hc : partZ τ x zx = (τ, []) := by unfold partZ; rw [if_neg h15, if_neg h23, if_neg (fun g => h6_35 g.1), if_neg (fun g => h9_64 g.1)]
 refine .trCast (τ' := (partZ τ x zx).1) (by repeat' constructor) (by rw [hc]) (.slCast (T := 50) (sz := 3) (m' := (partZ τ x zx).2.length) (xs' := (partZ τ x zx).2.flatMap evC) (by repeat' constructor) (by (rw [hc]; try rfl)) (by (rw [hc]; try rfl)) ?_)
 exact .dn rfl rfl ⟨_, _, by (rw [hc]; try rfl), rfl⟩
def ownK (l : List (Bs × Nd)) (s : Int) : List Bs := (l.filter fun y => !decide (s = 0) && decide (y.2.st.own = s)).map (·.1)
theorem ownK_len (l : List (Bs × Nd)) (s : Int) : (ownK l s).length ≤ l.length := by unfold ownK; rw [List.length_map]; exact List.length_filter_le _ _
theorem ownK_yes {l : List (Bs × Nd)} {s : Int} {i : Nat} (hi : i < l.length) (h0 : s ≠ 0) (h : l[i].2.st.own = s) : ownK (l.take (i + 1)) s = ownK (l.take i) s ++ [l[i].1] := by
 unfold ownK; rw [List.take_succ_eq_append_getElem hi, List.filter_append, List.map_append]; simp [h0, h]
theorem ownK_no {l : List (Bs × Nd)} {s : Int} {i : Nat} (hi : i < l.length) (h : s ≠ 0 → l[i].2.st.own ≠ s) : ownK (l.take (i + 1)) s = ownK (l.take i) s := by
 unfold ownK; rw [List.take_succ_eq_append_getElem hi, List.filter_append, List.map_append]
 simp; intro h0; exact h h0
theorem TrI.getAt {τ : Tr} {m : NmM} {s : SsM} (h : TrI τ m s) {N : Nat} (ho : τ.Ok N) {i : Nat} (hi : i < τ.nodes.length) : ∃ px, alook m τ.nodes[i].1 = some px ∧ px.2.2 = τ.nodes[i].2 := by
 have h1 : alook τ.nodes τ.nodes[i].1 = some τ.nodes[i].2 := al_of_mem (ho.sorted.nodup linB) (List.getElem_mem hi)
 rw [← h.look] at h1
 rcases e : alook m τ.nodes[i].1 with _ | px
 ·rw [e] at h1; cases h1
 ·rw [e] at h1; exact ⟨px, rfl, by simpa using h1⟩
def sesD (τ : Tr) (id : Int) : Int × Bs := (alook τ.sess id).getD (0, [])
def sesT (τ : Tr) (id : Int) : Prop := (alook τ.sess id).isSome = true
instance (τ : Tr) (id : Int) : Decidable (sesT τ id) := inferInstanceAs (Decidable (_ = _))
theorem trowned_spec (t : Nat) (τ : Tr) (id : Int) (N : Nat) (ho : τ.Ok N) (hN : N ≤ 1099511627776) : Fn Tryz.prog 80 #[vptr t, vint id] [treeR t τ] fun v L => (∃ a c, v = .slice a (ownedZ τ id).length c) ∧ L = [treeR t τ, slR 9 1 v (ownedZ τ id).length (strs (ownedZ τ id))] := by
 refine Fn.intro Tryz.func80 rfl rfl fun F W => ?_
 have hfew := ho.few
 have hpz : (pathsZ τ).length = τ.nodes.length := List.length_map _
 refine .sr (.an rfl (.seq (.add (slR_nil 9 1) (.region (.an rfl (.seq (.sm rfl (.oq (.c Tryz.func140 [_] (trpaths_spec t τ N ho hN)) ?_))))))))
 rintro v L' ⟨⟨ap, cp, rfl⟩, rfl⟩
 refine .q (.slen rfl Tryz.underlying38 rfl) rfl (.m rfl (.nt (.block (.loopK (ι := Nat × Value) (fun q E => (11, vint q.1) :: (5, q.2) :: E) (fun q => [treeR t τ, slR 9 1 q.2 (ownK (τ.nodes.take q.1) id).length (strs (ownK (τ.nodes.take q.1) id))]) (fun q => q.1 ≤ (pathsZ τ).length ∧ ∃ a c, q.2 = .slice a (ownK (τ.nodes.take q.1) id).length c) (fun q => (pathsZ τ).length - q.1) (0, .slice none 0 0) (ts := [0, 1, 4, 9, 10]) (.cons rfl (.cons rfl (.cons rfl (.cons rfl (.cons rfl (.nil)))))) (⟨Nat.zero_le _, none, 0, rfl⟩) ⟨rfl, rfl, rfl, rfl, rfl, rfl, rfl, trivial⟩ (by repeat' constructor) ?_))))
 rintro ⟨i, u⟩ ⟨hi, au, cu, hu⟩
 dsimp only
 dsimp only at hi hu
 subst hu
 have hkl := ownK_len (τ.nodes.take i) id
 rw [List.length_take] at hkl
 refine .sr (.ui rfl rfl rfl (.nt (.seq (.condD rfl (fun h12 => ?_) (fun h12 => ?_)))))
 ·have hi2 : i < (pathsZ τ).length := by omega
  have hin : i < τ.nodes.length := by omega
  refine .slShape (v := .slice ap _ cp) (by repeat' constructor) (by omega) fun bp cp' e0 mp _ => ?_
  simp only [Value.slice.injEq, true_and] at e0
  obtain ⟨rfl, rfl⟩ := e0
  have hpi : (pathsZ τ)[i] = τ.nodes[i].1 := by simp [pathsZ]
  refine .sk (.seq (.block (.sr (.q (.indexAddr rfl rfl el_38 (by omega)) rfl (.q (.loadSl (v := vstr (pathsZ τ)[i]) (i := i * 1) rfl ag_9 (by repeat' constructor) (by simp [hi2])) rfl (.an rfl (.seq (.trOpen (τ := τ) (by repeat' constructor) fun rn rs m s hI => ?_))))))))
  obtain ⟨px, hal, hpx⟩ := hI.getAt ho hin
  rw [← hpi] at hal
  refine .bigTake hal (by repeat' constructor) (.ndOpen (x := ((pathsZ τ)[i], px)) (by repeat' constructor) (.region (.m rfl (.ui rfl rfl rfl (.m rfl (.ndec (t := 17) rfl (fun h5_17 => ?_) (fun h5_17 => ?_)))))))
  ·refine .kNT (t := 16) rfl h5_17 (.grun (t := 17) rfl rfl rfl (.m rfl (.grun (t := 17) rfl rfl rfl (.u (.nilp rfl) (.grun (t := 17) rfl rfl rfl (.u (.fieldAddr rfl fo_113_0) (.grun (t := 17) rfl rfl rfl (.u (.ld rfl ag_110) (.grun (t := 17) rfl rfl rfl (.m rfl (.grun (t := 17) rfl rfl rfl (.q (.lookupY (m := m) (enc := ndV) (KeyLaw.str Tryz.underlying9) (hal) rfl rfl Tryz.underlying110 ze_107 (by repeat' constructor) rfl) rfl (.grun (t := 17) rfl rfl rfl (.u (.nilp rfl) (.grun (t := 17) rfl rfl rfl (.u (.fieldAddr rfl fo_109_2) (.grun (t := 17) rfl rfl rfl (.u (.fieldAddr rfl fo_37_6) (.grun (t := 17) rfl rfl rfl (.q (.to (v' := vint τ.nodes[i].2.st.own) (.load rfl ag_3 (by repeat' constructor) rfl) (by rw [← hpx])) rfl (.grun (t := 17) rfl rfl rfl (.m rfl (.grun (t := 17) rfl rfl rfl (.ui rfl rfl rfl (.u (.pickT rfl rfl) (.nil (.ndFold (x := ((pathsZ τ)[i], px)) (by repeat' constructor) rfl rfl rfl rfl ?_)))))))))))))))))))))))))))
   refine .bigPut (f := inN) (m := m) (pathsZ τ)[i] px rfl (by repeat' constructor) ?_
   rw [aset_self hal]
   refine .trFold (τ := τ) hI (by repeat' constructor) rfl rfl rfl (.then_n (.condD rfl (fun h30 => ?_) (fun h30 => ?_)))
   ·refine .region (.m rfl (.m rfl (.oq (.buildSlice1 (vs := [_]) el_38 ze_9 rfl rfl rfl rfl rfl (by decide)) ?_)))
    rintro v L' ⟨b6_2, rfl, rfl⟩
    refine .oq (.append1 rfl rfl rfl el_38 ze_9 rfl rfl ?c27 ?c28 (Nat.le_refl _) ?c29 (by decide)) ?_
    case c27 => (first | (simp [isCell]; done) | (simp [isCell, setAll, Value.cells]; done))
    case c28 => rfl
    case c29 => first | omega | (simp; omega)
    rintro v L' ⟨⟨a6_3, c6_3, rfl⟩, rfl⟩
    refine .a rfl (.nil (.blk_n (.then_n (.region (.q (.add rfl rfl (by omega)) rfl (.m rfl (.nt ?_)))))))
    have hst := ownK_yes hin h5_17 h30
    rw [show strs (ownK (τ.nodes.take i) id) ++ [vstr (pathsZ τ)[i]] = strs (ownK (τ.nodes.take (i + 1)) id) by rw [hst]; simp [strs, pathsZ], show (ownK (τ.nodes.take i) id).length + 1 = (ownK (τ.nodes.take (i + 1)) id).length by rw [hst, List.length_append]; rfl]
    exact .rk ((i + 1, .slice a6_3 (ownK (τ.nodes.take (i + 1)) id).length c6_3)) (⟨by dsimp only; omega, _, _, rfl⟩) (by dsimp only; omega) ⟨rfl, rfl, rfl, rfl, rfl, rfl, rfl, trivial⟩
   refine .skip (.blk_n (.then_n (.region (.q (.add rfl rfl (by omega)) rfl (.m rfl (.nt ?_))))))
   have hst := ownK_no (s := id) hin (fun g => h30)
   rw [← hst]
   exact .rk ((i + 1, .slice au (ownK (τ.nodes.take (i + 1)) id).length cu)) (⟨by dsimp only; omega, _, _, rfl⟩) (by dsimp only; omega) ⟨rfl, rfl, rfl, rfl, rfl, rfl, rfl, trivial⟩
  refine .kNF (t := 16) rfl h5_17 (.gk (.gk (.gk (.gk (.gk (.gk (.gk (.gk (.gk (.gk (.gk (.gk (.u (.pickF rfl rfl) (.nil (.ndFold (x := ((pathsZ τ)[i], px)) (by repeat' constructor) rfl rfl rfl rfl (.bigPut (f := inN) (m := m) (pathsZ τ)[i] px rfl (by repeat' constructor) ?_))))))))))))))))
  rw [aset_self hal]
  refine .trFold (τ := τ) hI (by repeat' constructor) rfl rfl rfl (.then_n (.condF rfl (.skip (.blk_n (.then_n (.region (.q (.add rfl rfl (by omega)) rfl (.m rfl (.nt ?_)))))))))
  have hst := ownK_no (s := id) hin (fun g => absurd h5_17 g)
  rw [← hst]
  exact .rk ((i + 1, .slice au (ownK (τ.nodes.take (i + 1)) id).length cu)) (⟨by dsimp only; omega, _, _, rfl⟩) (by dsimp only; omega) ⟨rfl, rfl, rfl, rfl, rfl, rfl, rfl, trivial⟩
 have hii : i = τ.nodes.length := by omega
 rw [hii, List.take_length]
 refine .exit (.then_e (.then_e (.blk_e (.then_n (.sm rfl (.an rfl (.ret ?_)))))))
 exact .dn rfl rfl ⟨⟨_, _, rfl⟩, rfl⟩
theorem trsession_spec (t : Nat) (τ : Tr) (id : Int) : Fn Tryz.prog 45 #[vptr t, vint id] [treeR t τ] fun v L => v = .tuple #[vint (sesD τ id).1, vstr (sesD τ id).2, .bool (decide (sesT τ id))] ∧ L = [treeR t τ] := by
 refine Fn.intro Tryz.func45 rfl rfl fun F W => ?_
 refine .trOpen (τ := τ) (by repeat' constructor) fun rn rs m s hI => (.sr (.a rfl (.a rfl (.an rfl (.sr ?_)))))
 rcases hal : alook s id with _ | y
 ·have hz : sesD τ id = (0, []) ∧ ¬ sesT τ id := by unfold sesD sesT; rw [← hI.slook, hal]; exact ⟨rfl, by simp⟩
  refine .m rfl (.nf rfl fo_113_1 (.u (.ld rfl ag_111) (.m rfl (.q (.lookupOkN (m := s) (enc := ssV) (KeyLaw.int Tryz.underlying3) hal rfl rfl Tryz.underlying111 ze_123 (by repeat' constructor) rfl) rfl (.m rfl (.u (.extract rfl rfl) (.u (.extract rfl rfl) (.oq (.allocA ze_123) ?_))))))))
  rintro v L' ⟨b7, rfl, rfl⟩
  refine .sa rfl rfl sz_123 (by (first | (simp [isCell]; done) | (simp [isCell, setAll, Value.cells]; done))) ?_
  refine .a rfl (.nil (.ptCast (b := b7) (l' := [vint (sesD τ id).1, vstr (sesD τ id).2]) (by repeat' constructor) (by rw [hz.1]; rfl) ?_))
  refine .then_n (.seq (.draw [] [[0, 1, 2, 3, 4, 5, 6, 7]] mixed (by kernel_rfl) (.g0 (.kv rfl (.fieldAddr rfl fo_123_0) (.kv rfl (.ld rfl ag_3) (.kv rfl (.fieldAddr rfl fo_123_1) (.kv rfl (.ld rfl ag_9) (.mv rfl rfl (.kv rfl (.assign rfl) (.kv rfl (.assign rfl) (.kv rfl (.assign rfl) (.pf (.ret (.trFold (τ := τ) hI (by repeat' constructor) rfl rfl rfl ?_))))))))))))))
  exact .dn rfl rfl ⟨by rw [decide_eq_false hz.2], rfl⟩
 have hz : sesD τ id = y ∧ sesT τ id := by unfold sesD sesT; rw [← hI.slook, hal]; exact ⟨rfl, rfl⟩
 refine .m rfl (.nf rfl fo_113_1 (.u (.ld rfl ag_111) (.m rfl (.q (.lookupOkY (m := s) (enc := ssV) (KeyLaw.int Tryz.underlying3) hal rfl rfl Tryz.underlying111 ze_123 (by repeat' constructor) rfl) rfl (.m rfl (.u (.extract rfl rfl) (.u (.extract rfl rfl) (.oq (.allocA ze_123) ?_))))))))
 rintro v L' ⟨b7, rfl, rfl⟩
 refine .sa rfl rfl sz_123 (by (first | (simp [isCell]; done) | (simp [isCell, setAll, Value.cells]; done))) ?_
 refine .a rfl (.nil (.ptCast (b := b7) (l' := [vint (sesD τ id).1, vstr (sesD τ id).2]) (by repeat' constructor) (by rw [hz.1]; rfl) ?_))
 refine .then_n (.seq (.draw [] [[0, 1, 2, 3, 4, 5, 6, 7]] mixed (by kernel_rfl) (.g0 (.kv rfl (.fieldAddr rfl fo_123_0) (.kv rfl (.ld rfl ag_3) (.kv rfl (.fieldAddr rfl fo_123_1) (.kv rfl (.ld rfl ag_9) (.mv rfl rfl (.kv rfl (.assign rfl) (.kv rfl (.assign rfl) (.kv rfl (.assign rfl) (.pf (.ret (.trFold (τ := τ) hI (by repeat' constructor) rfl rfl rfl ?_))))))))))))))
 exact .dn rfl rfl ⟨by rw [decide_eq_true hz.2], rfl⟩
theorem trkids_spec (t : Nat) (τ : Tr) (p : Bs) (N : Nat) (ho : τ.Ok N) (hN : N ≤ 1099511627776) : Fn Tryz.prog 107 #[vptr t, vstr p] [treeR t τ] fun v L => ∃ (u : Value) (l : List Bs), v = .tuple #[u, vint (if thereT τ p then 0 else 60)] ∧ True ∧ l = (if thereT τ p then kidsZ τ p else []) ∧ (∃ a c, u = .slice a l.length c) ∧ L = [treeR t τ, slR 9 1 u l.length (strs l)] := by
 refine Fn.intro Tryz.func107 rfl rfl fun F W => ?_
 refine .trOpen (τ := τ) (by repeat' constructor) fun rn rs m s hI => ?_
 have hlen := hI.len ho
 have hfew := ho.few
 refine .sr (.a rfl (.an rfl (.seq (.sr ?_))))
 rcases hal : alook m p with _ | px
 ·refine .m rfl (.nf rfl fo_113_0 (.u (.ld rfl ag_110) (.m rfl (.q (.lookupN (m := m) (enc := ndV) (KeyLaw.str Tryz.underlying9) (hal) rfl rfl Tryz.underlying110 ze_107 (by repeat' constructor) rfl) rfl (.q (.as (v' := .bool true) (by rfl) (.ptreq rfl rfl Tryz.underlying107)) rfl (.nt (.condT rfl (.sr (.a rfl (.an rfl (.rt (.trFold (τ := τ) hI (by repeat' constructor) rfl rfl rfl (.add (slR_nil 9 1) ?_)))))))))))))
  have hth : ¬ thereT τ p := hI.none_iff.1 hal
  exact .dn rfl rfl ⟨.slice none 0 0, [], by rw [if_neg hth]; try rfl, trivial, (by rw [if_neg hth]), ⟨none, 0, rfl⟩, rfl⟩
 refine .m rfl (.nf rfl fo_113_0 (.u (.ld rfl ag_110) (.m rfl (.q (.lookupY (m := m) (enc := ndV) (KeyLaw.str Tryz.underlying9) (hal) rfl rfl Tryz.underlying110 ze_107 (by repeat' constructor) rfl) rfl (.q (.as (v' := .bool false) (by rfl) (.ptreq rfl rfl Tryz.underlying107)) rfl (.nt (.condF rfl (.sk (.sm rfl (.m rfl (.oq (.c Tryz.func135 [_, _] (trkids0_spec t rn (.map (some rs)) (vint τ.zx) m p (hI.plen ho) (by omega))) ?_)))))))))))
 rintro v L' ⟨⟨a5, c5, rfl⟩, rfl⟩
 refine .a rfl (.an rfl (.ret (.trFold (τ := τ) hI (by repeat' constructor) rfl rfl rfl ?_)))
 have hth : thereT τ p := hI.some_iff hal
 have hkl : (kidsM m p).length = (kidsZ τ p).length := by rw [← hI.kids ho p, sortS_length]
 rw [hI.kids ho p, hkl]
 exact .dn rfl rfl ⟨_, kidsZ τ p, by rw [if_pos hth], trivial, by rw [if_pos hth], ⟨_, _, rfl⟩, rfl⟩
theorem aclip0_spec : Fn Tryz.prog 181 #[.slice none 0 0] [slR 75 2 (.slice none 0 0) 0 []] fun u L => u = .slice none 0 0 ∧ L = [slR 75 2 u 0 []] := by
 refine Fn.intro Tryz.func181 rfl rfl fun F W => ?_
 refine .sr (.an rfl (.sm rfl (.m rfl (.q (.slen rfl Tryz.underlying30 rfl) rfl (.m rfl (.q (.slen rfl Tryz.underlying30 rfl) rfl (.q (.clip (n := 0) rfl el_30 rfl rfl (Nat.le_refl _) (.inl rfl)) rfl (.an rfl (.ret ?_)))))))))
 exact .dn rfl rfl ⟨rfl, rfl⟩
theorem aclip1_spec (b n c : Nat) (hc : n ≤ c) (xs : List Value) : Fn Tryz.prog 181 #[.slice (some ⟨b, 0, none⟩) n c] [slR 75 2 (.slice (some ⟨b, 0, none⟩) n c) n xs] fun u L => u = .slice (some ⟨b, 0, none⟩) n n ∧ L = [slR 75 2 u n xs] := by
 refine Fn.intro Tryz.func181 rfl rfl fun F W => ?_
 refine .sr (.an rfl (.sm rfl (.m rfl (.q (.slen rfl Tryz.underlying30 rfl) rfl (.m rfl (.q (.slen rfl Tryz.underlying30 rfl) rfl (.q (.clip (n := n) rfl el_30 rfl rfl hc (.inr ⟨_, _, rfl⟩)) rfl (.an rfl (.ret (.slClip (by repeat' constructor) ?_))))))))))
 exact .dn rfl rfl ⟨rfl, rfl⟩
theorem aclip_spec (v : Value) (n : Nat) (xs : List Value) : Fn Tryz.prog 181 #[v] [slR 75 2 v n xs] fun u L => (∃ a c, u = .slice a n c) ∧ L = [slR 75 2 u n xs] := by
 intro F w hs
 obtain ⟨g1, -, hp⟩ := sep_head hs
 rcases hp with ⟨rfl, rfl, rfl⟩ | ⟨b, cap, rest, fr, rfl, -, -, -, h4, -⟩
 ·exact (aclip0_spec F w hs).mono fun e w' ⟨u, L, ⟨h1, h2⟩, h3⟩ => ⟨u, L, ⟨⟨_, _, h1⟩, h2⟩, h3⟩
 ·exact (aclip1_spec b n cap h4 xs F w hs).mono fun e w' ⟨u, L, ⟨h1, h2⟩, h3⟩ => ⟨u, L, ⟨⟨_, _, h1⟩, h2⟩, h3⟩
def aclD (τ : Tr) (p : Bs) : List Ac := ((alook τ.nodes p).map (·.acl)).getD []
def idsZ (τ : Tr) : List Int := τ.sess.map (·.1)
theorem tracl_spec (t : Nat) (τ : Tr) (p : Bs) (N : Nat) (ho : τ.Ok N) : Fn Tryz.prog 108 #[vptr t, vstr p] [treeR t τ] fun v L => ∃ u : Value, v = .tuple #[u, vint (if thereT τ p then 0 else 60)] ∧ (∃ a c, u = .slice a (aclD τ p).length c) ∧ L = [treeR t τ, slR 75 2 u (aclD τ p).length ((aclD τ p).flatMap acC)] := by
 refine Fn.intro Tryz.func108 rfl rfl fun F W => ?_
 refine .trOpen (τ := τ) (by repeat' constructor) fun rn rs m s hI => (.sr (.a rfl (.an rfl (.sr ?_))))
 rcases hal : alook m p with _ | px
 ·refine .m rfl (.nf rfl fo_113_0 (.u (.ld rfl ag_110) (.m rfl (.q (.lookupN (m := m) (enc := ndV) (KeyLaw.str Tryz.underlying9) (hal) rfl rfl Tryz.underlying110 ze_107 (by repeat' constructor) rfl) rfl (.an rfl (.seq (.sm rfl (.q (.as (v' := .bool true) (by rfl) (.ptreq rfl rfl Tryz.underlying107)) rfl (.nt (.condT rfl (.sr (.a rfl (.an rfl (.rt (.trFold (τ := τ) hI (by repeat' constructor) rfl rfl rfl (.add (slR_nil 75 2) ?_))))))))))))))))
  have hth : ¬ thereT τ p := hI.none_iff.1 hal
  have hac : aclD τ p = [] := by unfold aclD; rw [← hI.look, hal]; rfl
  exact .dn rfl rfl ⟨.slice none 0 0, by rw [if_neg hth]; try rfl, ⟨none, 0, by rw [hac]; rfl⟩, by rw [hac]; try rfl⟩
 refine .m rfl (.nf rfl fo_113_0 (.u (.ld rfl ag_110) (.m rfl (.q (.lookupY (m := m) (enc := ndV) (KeyLaw.str Tryz.underlying9) (hal) rfl rfl Tryz.underlying110 ze_107 (by repeat' constructor) rfl) rfl (.an rfl (.seq (.sm rfl (.q (.as (v' := .bool false) (by rfl) (.ptreq rfl rfl Tryz.underlying107)) rfl (.nt (.condF rfl (.sk (.seq (.bigTake hal (by repeat' constructor) (.ndOpen (x := (p, px)) (by repeat' constructor) (.region (.m rfl (.nf rfl fo_109_1 (.u (.ld rfl ag_30) (.oq (.c Tryz.func134 [_] (aclone_spec px.2.1 px.2.2.acl _ (fun h hp => hp) (hI.acl ho hal))) ?_)))))))))))))))))))
 rintro v L' ⟨⟨a5, c5, rfl⟩, rfl⟩
 refine .oq (.c Tryz.func181 [_] (aclip_spec _ _ _)) ?_
 rintro v L' ⟨⟨a6, c6, rfl⟩, rfl⟩
 refine .a rfl (.a rfl (.nil (.ndFold (x := (p, px)) (by repeat' constructor) rfl rfl rfl rfl (.bigPut (f := inN) (m := m) p px rfl (by repeat' constructor) ?_))))
 rw [aset_self hal]
 refine .then_n (.ret (.trFold (τ := τ) hI (by repeat' constructor) rfl rfl rfl ?_))
 have hth : thereT τ p := hI.some_iff hal
 have hac : aclD τ p = px.2.2.acl := by unfold aclD; rw [hI.at hal]; rfl
 rw [← hac]
 exact .dn rfl rfl ⟨_, by rw [if_pos hth], ⟨_, _, rfl⟩, rfl⟩
theorem skeys_spec (mb : Option Nat) : Fn Tryz.prog 41 #[.map mb] [] fun v L => ∃ b, v = .func (.func 71) #[] #[vptr b] ∧ L = [ptc b [.map mb] 111] :=
 keys_fn Tryz.keysA mb
theorem ssorted_spec {b r : Nat} {T : TypeId} (s : SsM) (hnd : (s.map (·.1)).Nodup) (hbd : ∀ x ∈ s, -9223372036854775808 ≤ x.1 ∧ x.1 ≤ 9223372036854775807) (hlen : s.length ≤ 1099511627776) :
  Fn Tryz.prog 40 #[.func (.func 71) #[] #[vptr b]] [ptc b [.map (some r)] T, mapR r (ssE s)] fun v L => (∃ a c, v = .slice a s.length c) ∧ L = [slR 3 1 v s.length (ints (sortI (s.map (·.1)))), mapR r (ssE s)] :=
 sorted_fn Tryz.keysA Tryz.sortedA Tryz.sortA rfl (enters_of Tryz.func70 rfl rfl) (enters_of Tryz.func71 rfl rfl) Tryz.underlying3 (enc := ssV) (b := b) (r := r) (T := T) s hnd hbd hlen
theorem sortI_id {l : List Int} (h : l.Pairwise (· < ·)) : sortI l = l := by
 unfold sortI
 refine List.mergeSort_of_pairwise (h.imp fun hab => ?_)
 simp only [decide_eq_true_eq]; omega
theorem TrI.ids {τ : Tr} {m : NmM} {s : SsM} (h : TrI τ m s) {N : Nat} (ho : τ.Ok N) : sortI (s.map (·.1)) = idsZ τ := by
 have hp : (s.map (·.1)).Perm (idsZ τ) := (h.sperm ho).map _
 unfold sortI
 rw [mergeSort_of_perm_i hp]
 exact sortI_id ho.ssorted
theorem trsessions_spec (t : Nat) (τ : Tr) (N : Nat) (ho : τ.Ok N) (hb : ∀ x ∈ τ.sess, x.1 ≤ 9223372036854775807) (hN : N ≤ 1099511627776) : Fn Tryz.prog 22 #[vptr t] [treeR t τ] fun v L => (∃ a c, v = .slice a (idsZ τ).length c) ∧ L = [treeR t τ, slR 3 1 v (idsZ τ).length (ints (idsZ τ))] := by
 refine Fn.intro Tryz.func22 rfl rfl fun F W => ?_
 refine .trOpen (τ := τ) (by repeat' constructor) fun rn rs m s hI => ?_
 have hsf := ho.sfew
 have hsp := hI.sperm ho
 have hsl := hsp.length_eq
 have hiz : (idsZ τ).length = τ.sess.length := List.length_map _
 have hbd : ∀ x ∈ s, -9223372036854775808 ≤ x.1 ∧ x.1 ≤ 9223372036854775807 := fun x hx => by have h1 := hsp.mem_iff.1 hx; have h2 := ho.ids x h1; have h3 := hb x h1; omega
 refine .sr (.an rfl (.sm rfl (.nf rfl fo_113_1 (.u (.ld rfl ag_111) (.oq (.c Tryz.func41 [_] (skeys_spec _)) ?_)))))
 rintro v L' ⟨bk, rfl, rfl⟩
 refine .oq (.c Tryz.func40 [_] (ssorted_spec s hI.skeys hbd (by omega))) ?_
 rintro v L' ⟨⟨ap, cp, rfl⟩, rfl⟩; rw [hI.ids ho, show s.length = (idsZ τ).length by omega]
 refine .an rfl (.ret (.trFold (τ := τ) hI (by repeat' constructor) rfl rfl rfl ?_))
 exact .dn rfl rfl ⟨⟨_, _, rfl⟩, rfl⟩
end Go.Proofs.YtmbnebafdhpgpaaGreatDoor
/-
 DERIVED: THE SHELF's CONTRACTS AT THIS DUMP, IN PLAIN WORDS (tools/lay-plain.mjs out of 'YtmbnebafdhpgpaaGreatDoorLayC.lean', which tools/lay-shelf.mjs wrote): THE SAME DECLARATIONS UNDER THE SAME NAMES: 'import', 'namespace', 'open', 'def', 'theorem' AND NOTHING ELSE: no command of the shelf's: FOR A HAND-IN. Each laying: the table of numbers ('.._ren') and one theorem, a field a fact of the dump's own or the kernel's comparison; each contract: ONE APPLICATION.
-/
namespace Go.Proofs
open Go.Shelf
def Tryz.cloneI_ren : Go.Shelf.Ren := ⟨fun | 5 => 138 | 7 => 213 | n => n, fun | 23 => 111 | 25 => 3 | 3 => 123 | 4 => 4 | 20 => 20 | n => n, fun | n => n⟩
theorem Tryz.cloneI : Go.Proofs.SlLaysW.n5 Tryz.prog Tryz.cloneI_ren := {
 mixed := by kernel_rfl
 f5 := ⟨Tryz.f138.name, by decide, Tryz.func138.trans (congrArg some (by kernel_rfl))⟩
 f7 := Tryz.func213.trans (congrArg some (by kernel_rfl))
 t4 := Tryz.underlying4
 a4 := Tryz.isAgg4
 z4 := Tryz.sizeOf4
 v4 := Tryz.zeroValue4
 t20 := Tryz.underlying20
 a20 := Tryz.isAgg20
 z20 := Tryz.sizeOf20
 v20 := Tryz.zeroValue20
 t23 := Tryz.underlying111
 a23 := Tryz.isAgg111
 z23 := Tryz.sizeOf111
 v23 := Tryz.zeroValue111 }
end Go.Proofs
namespace Go.Proofs.YtmbnebafdhpgpaaGreatDoor
open Go
theorem trclonem_spec (r : Nat) (ents : List (Value × Value)) : Fn Tryz.prog 138 #[.map (some r)] [mapR r ents] fun v L => ∃ r', v = .map (some r') ∧ L = [mapR r ents, mapR r' ents] := by
 intro F w hs
 obtain ⟨h1, hle, es, clock, hb, he, hc, hn⟩ := sep_head (show sep (mapR r ents :: F) _ from hs)
 have hr : w.heap[r]? = some (.map es.toArray clock) := hle _ _ hb
 refine (AnyW.maps_Clone Tryz.cloneI r es.toArray clock w hr).mono ?_
 rintro e w' ⟨rfl, rfl⟩
 refine ⟨_, [mapR r ents, mapR w.heap.size ents], ⟨_, rfl, rfl⟩, rfl, ?_, Keeps.new w _⟩
 have h2 := St.new hs (.map es.toArray clock)
 exact sep_swap (sep_imp (fun _ hp => ⟨es, clock, hp, he, hc, hn⟩) h2)
theorem OpSpec.makeMapN {P : Program} {E : Env} {ty t : TypeId} {k e : TypeId} {x : Operand} {n : Int} (ht : P.underlying t = some (.map k e)) (hx : ev E x = some (vint n)) : OpSpec P ⟨none, .makeMap t (some x), ty, "", #[], none⟩ E [] fun u L' => ∃ b, u = .map (some b) ∧ L' = [pt b (.map #[] 0)] := by
 intro ρ w F ha hs
 have : (execOp ρ ⟨none, .makeMap t (some x), ty, "", #[], none⟩).run P w = .ok (.value (.map (some w.heap.size))) { w with heap := w.heap.push (.map #[] 0) } := by
  refine run_v ?_
  show (Instr.makeMap t (some (ρ x))).run P w = _
  rw [ha x _ hx]
  unfold Instr.makeMap
  simp [run_underlying ht, go_sem, asInt, Result.andThen]
 unfold Runs; rw [this]
 exact ⟨_, ⟨_, rfl, rfl⟩, St.new (L := F) hs _, Keeps.new _ _⟩
theorem clone_new {m ss rest : NmM} {x : Bs × Nm} (hn : (m.map (·.1)).Nodup) (hp : m.Perm (ss ++ x :: rest)) : alook ss x.1 = none := by
 rw [al_none]
 intro h
 have h1 : ((ss ++ x :: rest).map (·.1)).Nodup := (hp.map _).nodup_iff.1 hn
 rw [List.map_append, List.map_cons] at h1
 exact (List.nodup_append.1 h1).2.2 _ h _ List.mem_cons_self rfl
theorem al_snoc {β : Type} : ∀ (l : List (Bs × β)) (x : Bs × β) (p : Bs), alook l x.1 = none → alook (l ++ [x]) p = if p = x.1 then some x.2 else alook l p
 | [], x, p, _ => by simp only [List.nil_append, alook]
 | y :: l, x, p, h => by
  simp only [List.cons_append, alook] at h ⊢
  by_cases e : p = y.1
  ·rw [if_pos e]
   have : ¬ p = x.1 := fun g => by rw [if_pos (g.symm.trans e)] at h; cases h
   rw [if_neg this, if_pos e]
  ·rw [if_neg e, if_neg e]
   by_cases e2 : x.1 = y.1
   ·rw [if_pos e2] at h; cases h
   ·rw [if_neg e2] at h
    exact al_snoc l x p h
theorem clone_step {m2 ss : NmM} {x : Bs × Nm} {y : Nm} (h : ∀ p, (alook m2 p).map (fun y : Nm => y.2.2) = (alook ss p).map (fun y : Nm => y.2.2)) (hx : alook ss x.1 = none) (hy : y.2.2 = x.2.2.2) (p : Bs) : (alook (aset m2 x.1 y) p).map (fun y : Nm => y.2.2) = (alook (ss ++ [x]) p).map (fun y : Nm => y.2.2) := by
 rw [al_aset, al_snoc ss x p hx]
 split
 ·simp [hy]
 ·exact h p
theorem trclone_spec (t : Nat) (τ : Tr) (N : Nat) (ho : τ.Ok N) (hN : N ≤ 1099511627776) : Fn Tryz.prog 78 #[vptr t] [treeR t τ] fun v L => ∃ c, v = vptr c ∧ L = [treeR c τ, treeR t τ] := by
 refine Fn.intro Tryz.func78 rfl rfl fun F W => ?_
 refine .trOpen (τ := τ) (by repeat' constructor) fun rn rs m s hI => ?_
 have hlen := hI.len ho
 have hfew := ho.few
 refine .sr (.an rfl (.seq (.draw [5, 10, 16] [[0, 1, 2, 3, 4, 6, 7, 8, 9, 11, 12, 13, 14, 5, 10], [15, 16], [17]] mixed (by kernel_rfl) (.go [ptc t _ _] (by repeat' constructor) (.mv rfl rfl (.nf rfl rfl rfl fo_113_0 (.kv rfl (.ld rfl ag_110) (.kv rfl (.maplen rfl Tryz.underlying110 rfl (by repeat' constructor)) (.k rfl (.move rfl) (.k rfl (.nilp rfl) (.k rfl (.fieldAddr rfl fo_113_1) (.k rfl (.ld rfl ag_111) (.k rfl (.move rfl) (.k rfl (.nilp rfl) (.k rfl (.fieldAddr rfl fo_113_2) (.k rfl (.ld rfl ag_3) (.h2 (k := 10) rfl rfl (by kernel_rfl) rfl (.makeMapN Tryz.underlying110 rfl) (by repeat' constructor) (.c Tryz.func138 [_] (trclonem_spec rs (ssE s))) (by repeat' constructor) ?_ ?_)))))))))))))))))
 ·rintro v L' ⟨rn2, rfl, rfl⟩
  refine D.hh rfl (.c Tryz.func138 [_] (trclonem_spec rs (ssE s))) ?_
  rintro v L' ⟨rs2, rfl, rfl⟩
  refine D.ph (.g0 (.kv rfl (.to (v' := .agg ([.map (some rn2), .map (some rs2), vint τ.zx] : List Value).toArray) (.build (us := [(0, _), (1, _), (2, _)]) fl_113 ze_113 rfl rfl (by simp [isCell])) rfl) (.hh rfl (.box rfl) ?_)))
  rintro v L' ⟨c, rfl, rfl⟩
  refine D.ph (.g0 (.kv rfl (.assign rfl) (.ph (.fin (.ptCast (b := c) (l' := [.map (some rn2), .map (some rs2), vint τ.zx]) (by repeat' constructor) rfl ?_)))))
  refine .fold (p := mapR rn2 []) (.cons (p := pt rn2 (.map #[] 0)) (by repeat' constructor) .nil) (fun h hp => mapR_new (sep_pt hp)) (.add (p := bigR inN []) big_nil (.then_n (.seq (.sm rfl (.nf rfl fo_113_0 (.u (.ld rfl ag_110) (.oq (.range (f := fun x : Bs × Nm => (vstr x.1, ndV x.2)) (m := m) rfl Tryz.underlying110 ?he27) ?_)))))))
  case he27 => rfl
  rintro v L' ⟨it, rfl, rfl⟩
  refine .nt (.block (.loopK (ι := NmM × NmM) (fun q E => E) (fun q => [rangeR (fun x : Bs × Nm => (vstr x.1, ndV x.2)) it rn m q.1, bigR inN m, mapR rn2 (ndE q.2), bigR inN q.2, ptc c [.map (some rn2), .map (some rs2), vint τ.zx] 113]) (fun q => ((q.2.map (·.1)).Nodup ∧ ∀ p, (alook q.2 p).map (fun y : Nm => y.2.2) = (alook q.1 p).map (fun y : Nm => y.2.2)) ∧ ∃ rest, m.Perm (q.1 ++ rest)) (fun q => m.length - q.1.length) ([], []) (ts := [2, 3, 27]) (.cons rfl (.cons rfl (.cons rfl (.nil)))) (⟨⟨by simp, fun p => rfl⟩, m, .refl _⟩) ⟨rfl, rfl, rfl, trivial⟩ (by repeat' constructor) ?_))
  rintro ⟨ss, m2⟩ ⟨⟨hnd2, hm2⟩, rest, hm⟩
  dsimp only
  dsimp only at hnd2 hm2 hm
  have hml := hm.length_eq
  rw [List.length_append] at hml
  refine .sr (.oq (.next rfl) ?_)
  rintro v L' (⟨rfl, hp3, rfl⟩ | ⟨x, rest3, rfl, hp3, rfl⟩)
  ·refine .rangeDone (by repeat' constructor) (.u (.extract rfl rfl) (.nt (.seq (.condF rfl (.exit (.then_e (.then_e (.blk_e (.then_n (.sm rfl (.an rfl (.ret ?_))))))))))))
   have hI2 : TrI τ m2 s := ⟨hnd2, fun p => by rw [hm2, ← al_perm hp3 hI.keys p]; exact hI.look p, hI.skeys, hI.slook⟩
   refine .trFold (t := c) (rn := rn2) (rs := rs2) (τ := τ) hI2 (by repeat' constructor) rfl rfl rfl (.trFold (t := t) (τ := τ) hI (by repeat' constructor) rfl rfl rfl ?_)
   exact .dn rfl rfl ⟨_, rfl, rfl⟩
  refine .u (.extract rfl rfl) (.nt (.seq (.condT rfl (.sk (.block (.sr (.q (.entryE (v := .tuple #[vstr x.1, ndV x.2]) rfl (by repeat' constructor) rfl) rfl (.u (.extract rfl rfl) (.u (.extract rfl rfl) (.a rfl (.a rfl (.nil ?_))))))))))))
  have hxm : x ∈ m := hp3.mem_iff.2 (by simp)
  have hal : alook m x.1 = some x.2 := al_of_mem hI.keys hxm
  have hxa := hI.acl ho hal
  refine .bigTake hal (by repeat' constructor) (.ndOpen (x := (x.1, x.2)) (by repeat' constructor) (.then_n (.draw [13, 19, 20] [[0, 1, 2, 3, 4, 5, 6, 7, 8, 9, 10, 11, 12, 14, 15, 16, 17, 13, 18, 19], [20]] mixed (by kernel_rfl) (.go [ptc x.2.1 _ _, ptc c _ _] (by repeat' constructor) (.k rfl (.move rfl) (.k rfl (.nilp rfl) (.k rfl (.fieldAddr rfl fo_113_0) (.k rfl (.ld rfl ag_110) (.k rfl (.move rfl) (.k rfl (.move rfl) (.k rfl (.nilp rfl) (.k rfl (.fieldAddr rfl fo_109_0) (.k rfl (.ld rfl ag_9) (.mv rfl rfl (.nf rfl rfl rfl fo_109_1 (.kv rfl (.ld rfl ag_30) (.k rfl (.move rfl) (.k rfl (.nilp rfl) (.k rfl (.fieldAddr rfl fo_109_2) (.k rfl (.loadAs (vs := stC x.2.2.2.st) rfl ag_37 (by repeat' constructor) (by simp [ndC]) rfl) (.hh rfl (.c Tryz.func134 [_] (aclone_spec x.2.2.1 x.2.2.2.acl _ (fun h hp => hp) hxa)) ?_)))))))))))))))))))))
  rintro v L' ⟨⟨a5, c5, rfl⟩, rfl⟩
  refine D.kv rfl (.buildN (pl := [(0, 1), (1, 1), (2, 9)]) (us := [(0, vstr x.2.2.2.data), (1, .slice a5 x.2.2.2.acl.length c5), (2, .agg (stC x.2.2.2.st).toArray)]) (cells := ndC (.slice a5 x.2.2.2.acl.length c5) x.2.2.2) Tryz.underlying109 (by kernel_rfl) ze_109 rfl (fill_node _ _ _ _ _ _ _ _ _ _ _ _ _)) (.hh rfl (.box rfl) ?_)
  rintro v L' ⟨tn, rfl, rfl⟩
  refine D.ph (.g0 (.hh rfl (.mapSet (m := m2) (enc := ndV) (v := ((tn, (.slice a5 x.2.2.2.acl.length c5, x.2.2.2)) : Nm)) (k := x.1) (KeyLaw.str Tryz.underlying9) rfl rfl rfl Tryz.underlying110 ?he57) ?_))
  case he57 => rfl
  rintro v L' rfl
  refine D.ph (.fin (.blk_n (.then_n ?_)))
  have hl := hp3.length_eq
  simp at hl
  refine .ndFold (x := (x.1, x.2)) (by repeat' constructor) rfl rfl rfl rfl (.bigPut (f := inN) (m := m) x.1 x.2 rfl (by repeat' constructor) ?_)
  rw [aset_self hal]
  refine .toRd (v := .slice a5 x.2.2.2.acl.length c5) (by repeat' constructor) (.ndFold (x := (x.1, ((tn, (.slice a5 x.2.2.2.acl.length c5, x.2.2.2)) : Nm))) (by repeat' constructor) rfl rfl rfl rfl ?_)
  have hnx : alook ss x.1 = none := clone_new hI.keys hp3
  have hn2 : alook m2 x.1 = none := by have h := hm2 x.1; rw [hnx] at h; simpa using h
  have hdel := adel_none hn2
  refine .bigPut (f := inN) (m := m2) x.1 ((tn, (.slice a5 x.2.2.2.acl.length c5, x.2.2.2)) : Nm) rfl (by rw [hdel]; (repeat' constructor)) ?_
  exact .rk ((ss ++ [x], aset m2 x.1 ((tn, (.slice a5 x.2.2.2.acl.length c5, x.2.2.2)) : Nm))) (⟨⟨nodup_aset hnd2 _ _, clone_step hm2 hnx rfl⟩, _, by simpa using hp3⟩) (by dsimp only; simp; omega) ⟨rfl, rfl, rfl, trivial⟩
 rintro v L' ⟨rs2, rfl, rfl⟩
 refine D.hh rfl (.makeMapN Tryz.underlying110 rfl) ?_
 rintro v L' ⟨rn2, rfl, rfl⟩
 refine D.ph (.g0 (.kv rfl (.to (v' := .agg ([.map (some rn2), .map (some rs2), vint τ.zx] : List Value).toArray) (.build (us := [(0, _), (1, _), (2, _)]) fl_113 ze_113 rfl rfl (by simp [isCell])) rfl) (.hh rfl (.box rfl) ?_)))
 rintro v L' ⟨c, rfl, rfl⟩
 refine D.ph (.g0 (.kv rfl (.assign rfl) (.ph (.fin (.ptCast (b := c) (l' := [.map (some rn2), .map (some rs2), vint τ.zx]) (by repeat' constructor) rfl ?_)))))
 refine .fold (p := mapR rn2 []) (.cons (p := pt rn2 (.map #[] 0)) (by repeat' constructor) .nil) (fun h hp => mapR_new (sep_pt hp)) (.add (p := bigR inN []) big_nil (.then_n (.seq (.sm rfl (.nf rfl fo_113_0 (.u (.ld rfl ag_110) (.oq (.range (f := fun x : Bs × Nm => (vstr x.1, ndV x.2)) (m := m) rfl Tryz.underlying110 ?he69) ?_)))))))
 case he69 => rfl
 rintro v L' ⟨it, rfl, rfl⟩
 refine .nt (.block (.loopK (ι := NmM × NmM) (fun q E => E) (fun q => [rangeR (fun x : Bs × Nm => (vstr x.1, ndV x.2)) it rn m q.1, bigR inN m, mapR rn2 (ndE q.2), bigR inN q.2, ptc c [.map (some rn2), .map (some rs2), vint τ.zx] 113]) (fun q => ((q.2.map (·.1)).Nodup ∧ ∀ p, (alook q.2 p).map (fun y : Nm => y.2.2) = (alook q.1 p).map (fun y : Nm => y.2.2)) ∧ ∃ rest, m.Perm (q.1 ++ rest)) (fun q => m.length - q.1.length) ([], []) (ts := [2, 3, 27]) (.cons rfl (.cons rfl (.cons rfl (.nil)))) (⟨⟨by simp, fun p => rfl⟩, m, .refl _⟩) ⟨rfl, rfl, rfl, trivial⟩ (by repeat' constructor) ?_))
 rintro ⟨ss, m2⟩ ⟨⟨hnd2, hm2⟩, rest, hm⟩
 dsimp only
 dsimp only at hnd2 hm2 hm
 have hml := hm.length_eq
 rw [List.length_append] at hml
 refine .sr (.oq (.next rfl) ?_)
 rintro v L' (⟨rfl, hp3, rfl⟩ | ⟨x, rest3, rfl, hp3, rfl⟩)
 ·refine .rangeDone (by repeat' constructor) (.u (.extract rfl rfl) (.nt (.seq (.condF rfl (.exit (.then_e (.then_e (.blk_e (.then_n (.sm rfl (.an rfl (.ret ?_))))))))))))
  have hI2 : TrI τ m2 s := ⟨hnd2, fun p => by rw [hm2, ← al_perm hp3 hI.keys p]; exact hI.look p, hI.skeys, hI.slook⟩
  refine .trFold (t := c) (rn := rn2) (rs := rs2) (τ := τ) hI2 (by repeat' constructor) rfl rfl rfl (.trFold (t := t) (τ := τ) hI (by repeat' constructor) rfl rfl rfl ?_)
  exact .dn rfl rfl ⟨_, rfl, rfl⟩
 refine .u (.extract rfl rfl) (.nt (.seq (.condT rfl (.sk (.block (.sr (.q (.entryE (v := .tuple #[vstr x.1, ndV x.2]) rfl (by repeat' constructor) rfl) rfl (.u (.extract rfl rfl) (.u (.extract rfl rfl) (.a rfl (.a rfl (.nil ?_))))))))))))
 have hxm : x ∈ m := hp3.mem_iff.2 (by simp)
 have hal : alook m x.1 = some x.2 := al_of_mem hI.keys hxm
 have hxa := hI.acl ho hal
 refine .bigTake hal (by repeat' constructor) (.ndOpen (x := (x.1, x.2)) (by repeat' constructor) (.then_n (.draw [13, 19, 20] [[0, 1, 2, 3, 4, 5, 6, 7, 8, 9, 10, 11, 12, 14, 15, 16, 17, 13, 18, 19], [20]] mixed (by kernel_rfl) (.go [ptc x.2.1 _ _, ptc c _ _] (by repeat' constructor) (.k rfl (.move rfl) (.k rfl (.nilp rfl) (.k rfl (.fieldAddr rfl fo_113_0) (.k rfl (.ld rfl ag_110) (.k rfl (.move rfl) (.k rfl (.move rfl) (.k rfl (.nilp rfl) (.k rfl (.fieldAddr rfl fo_109_0) (.k rfl (.ld rfl ag_9) (.mv rfl rfl (.nf rfl rfl rfl fo_109_1 (.kv rfl (.ld rfl ag_30) (.k rfl (.move rfl) (.k rfl (.nilp rfl) (.k rfl (.fieldAddr rfl fo_109_2) (.k rfl (.loadAs (vs := stC x.2.2.2.st) rfl ag_37 (by repeat' constructor) (by simp [ndC]) rfl) (.hh rfl (.c Tryz.func134 [_] (aclone_spec x.2.2.1 x.2.2.2.acl _ (fun h hp => hp) hxa)) ?_)))))))))))))))))))))
 rintro v L' ⟨⟨a5, c5, rfl⟩, rfl⟩
 refine D.kv rfl (.buildN (pl := [(0, 1), (1, 1), (2, 9)]) (us := [(0, vstr x.2.2.2.data), (1, .slice a5 x.2.2.2.acl.length c5), (2, .agg (stC x.2.2.2.st).toArray)]) (cells := ndC (.slice a5 x.2.2.2.acl.length c5) x.2.2.2) Tryz.underlying109 (by kernel_rfl) ze_109 rfl (fill_node _ _ _ _ _ _ _ _ _ _ _ _ _)) (.hh rfl (.box rfl) ?_)
 rintro v L' ⟨tn, rfl, rfl⟩
 refine D.ph (.g0 (.hh rfl (.mapSet (m := m2) (enc := ndV) (v := ((tn, (.slice a5 x.2.2.2.acl.length c5, x.2.2.2)) : Nm)) (k := x.1) (KeyLaw.str Tryz.underlying9) rfl rfl rfl Tryz.underlying110 ?he99) ?_))
 case he99 => rfl
 rintro v L' rfl
 refine D.ph (.fin (.blk_n (.then_n ?_)))
 have hl := hp3.length_eq
 simp at hl
 refine .ndFold (x := (x.1, x.2)) (by repeat' constructor) rfl rfl rfl rfl (.bigPut (f := inN) (m := m) x.1 x.2 rfl (by repeat' constructor) ?_)
 rw [aset_self hal]
 refine .toRd (v := .slice a5 x.2.2.2.acl.length c5) (by repeat' constructor) (.ndFold (x := (x.1, ((tn, (.slice a5 x.2.2.2.acl.length c5, x.2.2.2)) : Nm))) (by repeat' constructor) rfl rfl rfl rfl ?_)
 have hnx : alook ss x.1 = none := clone_new hI.keys hp3
 have hn2 : alook m2 x.1 = none := by have h := hm2 x.1; rw [hnx] at h; simpa using h
 have hdel := adel_none hn2
 refine .bigPut (f := inN) (m := m2) x.1 ((tn, (.slice a5 x.2.2.2.acl.length c5, x.2.2.2)) : Nm) rfl (by rw [hdel]; (repeat' constructor)) ?_
 exact .rk ((ss ++ [x], aset m2 x.1 ((tn, (.slice a5 x.2.2.2.acl.length c5, x.2.2.2)) : Nm))) (⟨⟨nodup_aset hnd2 _ _, clone_step hm2 hnx rfl⟩, _, by simpa using hp3⟩) (by dsimp only; simp; omega) ⟨rfl, rfl, rfl, trivial⟩
def FunV (P : Program) (v : Value) (vs : List Value) (pre : List HP) (post : Value → List HP → Prop) : Prop :=
 ∃ (f : FuncId) (fn : Func) (c : Code) (us ws : List Value), v = .func (.func f) us.toArray ws.toArray ∧ P.funcs[f]? = some fn ∧ fn.body = some c ∧ (fn.name == "runtime.NumGoroutine") = false ∧ Fn P f (us ++ vs ++ ws).toArray pre post
theorem FunV.of {P : Program} {f : FuncId} {fn : Func} {c : Code} {us vs ws : List Value} {pre : List HP} {post : Value → List HP → Prop} (hf : P.funcs[f]? = some fn) (hb : fn.body = some c) (hn : (fn.name == "runtime.NumGoroutine") = false) (h : Fn P f (us ++ vs ++ ws).toArray pre post) :
  FunV P (.func (.func f) us.toArray ws.toArray) vs pre post := ⟨f, fn, c, us, ws, rfl, hf, hb, hn, h⟩
theorem OpSpec.callD {P : Program} {E : Env} {x : Operand} {xs : Array Operand} {ts : Array TypeId} {ty : TypeId} {v : Value} {vs : List Value} {pre : List HP} {post : Value → List HP → Prop} (hv : ev E x = some v) (hx : xs.toList.map (ev E) = vs.map some) (h : FunV P v vs pre post) :
  OpSpec P ⟨none, .call { callee := .value x, args := xs, argTypes := ts }, ty, "", #[], none⟩ E pre post := by
 obtain ⟨f, fn, c, us, ws, rfl, hf, hb, hn, hF⟩ := h
 exact OpSpec.callV hf hb hn hv hx hF
theorem Quiet.andNot {P : Program} {E : Env} {L : List HP} {ty : TypeId} {t t' : TypeId} {x y : Operand} {k : IntKind} {a b : Int} (hx : ev E x = some (.int k a)) (hy : ev E y = some (.int k b)) :
  Quiet P ⟨none, .binOp .andNot t x y t', ty, "", #[], none⟩ E L (.int k (k.wrap (BitVec.ofInt k.bits a &&& ~~~ BitVec.ofInt k.bits b).toNat)) := by
 intro ρ w ha _
 simp [execOp, ha x _ hx, ha y _ hy, eqGuard, binOp, Op.intBits, Bind.bind, Sem.bind, Pure.pure, Sem.run]
theorem only_cells {P : Program} {fv : Value} {vs : List Value} {pre : List HP} {post : Value → List HP → Prop} (h : FunV P fv vs pre post) : fv.cells.toList = [fv] := by
 obtain ⟨f, fn, c, us, ws, rfl, -⟩ := h
 rfl
def firstZ : List Int → Int
 | [] => 0
 | e :: l => if e ≠ 0 then e else firstZ l
theorem first_at : ∀ {es : List Int} {i : Nat} (hi : i < es.length), (∀ j (hj : j < i), es[j]'(by omega) = 0) → es[i] ≠ 0 → firstZ es = es[i]
 | e :: es, 0, _, _, h => if_pos h
 | e :: es, i + 1, hi, hb, h => by
  have h0 : e = 0 := hb 0 (by omega)
  show (if e ≠ 0 then e else firstZ es) = es[i]'(by simpa using hi)
  rw [if_neg (fun g => g h0)]
  exact first_at (by simpa using hi) (fun j hj => hb (j + 1) (by omega)) h
theorem first_none : ∀ {es : List Int}, (∀ j (hj : j < es.length), es[j] = 0) → firstZ es = 0
 | [], _ => rfl
 | e :: es, h => by
  have h0 : e = 0 := h 0 (by simp)
  show (if e ≠ 0 then e else firstZ es) = 0
  rw [if_neg (fun g => g h0)]
  exact first_none fun j hj => h (j + 1) (by simpa using hj)
abbrev wrapI (n : Int) : Int := IntKind.i64.wrap n
def orI (a b : Int) : Int := IntKind.i64.wrap (BitVec.ofInt 64 a ||| BitVec.ofInt 64 b).toNat
def andI (a b : Int) : Int := IntKind.i64.wrap (BitVec.ofInt 64 a &&& BitVec.ofInt 64 b).toNat
def lessI (a b : Int) : Int := IntKind.i64.wrap (BitVec.ofInt 64 a &&& ~~~ BitVec.ofInt 64 b).toNat
def worldB : Bs := [119, 111, 114, 108, 100]
/-! ### Rows of who may what -/
def digB (c : UInt8) : Bool := decide (48 ≤ c.toNat) && decide (c.toNat ≤ 57)
def userC (c : UInt8) : Bool := digB c || (decide (97 ≤ c.toNat) && decide (c.toNat ≤ 122))
def hexC (c : UInt8) : Bool := digB c || (decide (97 ≤ c.toNat) && decide (c.toNat ≤ 102))
def userZ (s : Bs) : Bool := !decide (s = []) && decide (s.length ≤ 12) && s.all userC
def colon1 : Bs → Bs
 | [] => []
 | c :: s => if c = 58 then [] else c :: colon1 s
def colon2 : Bs → Bs
 | [] => []
 | c :: s => if c = 58 then s else colon2 s
def isIDZ (s : Bs) : Bool := decide (s = worldB) || (decide ((58 : UInt8) ∈ s) && userZ (colon1 s) && decide ((colon2 s).length = 16) && (colon2 s).all hexC)
def badAc (a : Ac) : Bool := decide (a.1 < 1) || decide (a.1 > 31) || !isIDZ a.2
def rightZ (l : List Ac) : Bool := decide (0 < l.length) && decide (l.length ≤ 4) && !l.any badAc
def hitsA (ids : List Bs) (a : Ac) : Bool := decide (a.2 = worldB) || decide (a.2 ∈ ids)
def givenZ (ids : List Bs) (l : List Ac) : Int := l.foldl (fun g a => if hitsA ids a = true then orI g a.1 else g) 0
def mayZ (l : List Ac) (perm : Int) (ids : List Bs) : Bool := decide (0 ≤ perm) && decide (perm ≤ 31) && decide (lessI perm (givenZ ids l) = 0)
/-! ### Colons -/
def idx58 : Bs → Int
 | [] => -1
 | b :: l => if b = 58 then 0 else if idx58 l = -1 then -1 else idx58 l + 1
theorem idx58_eq (s : Bs) : Go.Lib.indexByte s 58 = idx58 s := by
 induction s with
 | nil => rfl
 | cons b l ih =>
  unfold Go.Lib.indexByte idx58
  rw [ih]
  simp
theorem index58_run {P : Program} (s : Bs) (w : World) : (Extern.BytealgIndexByte.indexByte #[vstr s, .int .u8 58]).run P w = .ok (vint (idx58 s)) w := by
 rw [show vstr s = .string (bs s) from rfl, Go.Lib.run_indexByteString]
 rw [show (bs s).data.toList = s from rfl, show (58 : Int).toNat.toUInt8 = 58 from rfl, idx58_eq]
theorem idx58_at {s : Bs} (h : (58 : UInt8) ∈ s) : ∃ k : Nat, idx58 s = k ∧ k < s.length ∧ colon1 s = s.take k ∧ colon2 s = s.drop (k + 1) := by
 induction s with
 | nil => cases h
 | cons b l ih =>
  by_cases hb : b = 58
  ·subst hb
   exact ⟨0, if_pos rfl, by simp, if_pos rfl, if_pos rfl⟩
  ·have hl : (58 : UInt8) ∈ l := by
    rcases List.mem_cons.1 h with h | h
    ·exact absurd h.symm hb
    ·exact h
   obtain ⟨k, e1, e2, e3, e4⟩ := ih hl
   refine ⟨k + 1, ?_, by rw [List.length_cons]; omega, ?_, ?_⟩
   ·show (if b = 58 then (0 : Int) else if idx58 l = -1 then -1 else idx58 l + 1) = _
    rw [if_neg hb, e1, if_neg (by omega)]; rfl
   ·show (if b = 58 then [] else b :: colon1 l) = _
    rw [if_neg hb, e3, List.take_succ_cons]
   ·show (if b = 58 then l else colon2 l) = _
    rw [if_neg hb, e4, List.drop_succ_cons]
theorem idx58_no {s : Bs} (h : (58 : UInt8) ∉ s) : idx58 s = -1 := by
 induction s with
 | nil => rfl
 | cons b l ih =>
  show (if b = 58 then (0 : Int) else if idx58 l = -1 then -1 else idx58 l + 1) = _
  rw [if_neg (fun e : b = 58 => h (by rw [e]; exact List.mem_cons_self)), ih (fun g => h (List.mem_cons_of_mem _ g)), if_pos rfl]
/-! ### Runes -/
structure LowT (T : Int → Bool) : Prop where
 high : ∀ r : Int, 128 ≤ r → T r = false
def digT (r : Int) : Bool := decide (48 ≤ r) && decide (r ≤ 57)
def userT (r : Int) : Bool := digT r || (decide (97 ≤ r) && decide (r ≤ 122))
def hexT (r : Int) : Bool := digT r || (decide (97 ≤ r) && decide (r ≤ 102))
theorem userT_low : LowT userT := ⟨fun r h => by unfold userT digT; simp; omega⟩
theorem hexT_low : LowT hexT := ⟨fun r h => by unfold hexT digT; simp; omega⟩
theorem userT_byte (c : UInt8) : userT (c.toNat : Int) = userC c := by
 unfold userT userC digT digB
 congr 1 <;> congr 1 <;> (apply decide_eq_decide.2; omega)
theorem hexT_byte (c : UInt8) : hexT (c.toNat : Int) = hexC c := by
 unfold hexT hexC digT digB
 congr 1 <;> congr 1 <;> (apply decide_eq_decide.2; omega)
theorem userZ_eq (s : Bs) : userZ s = (!decide (s = []) && decide (s.length ≤ 12) && s.all fun c : UInt8 => userT (c.toNat : Int)) := by
 unfold userZ
 congr 2; funext c; rw [userT_byte]
theorem hexZ_eq (s : Bs) : s.all hexC = s.all fun c : UInt8 => hexT (c.toNat : Int) := by
 congr 1; funext c; rw [hexT_byte]
theorem isID_eq (s : Bs) : isIDZ s = (decide (s = worldB) || (decide ((58 : UInt8) ∈ s) && userZ (colon1 s) && decide ((colon2 s).length = 16) && (colon2 s).all fun c : UInt8 => hexT (c.toNat : Int))) := by
 unfold isIDZ; rw [hexZ_eq]
theorem all_step {T : UInt8 → Bool} {s : Bs} {pos : Nat} (h : pos < s.length) (ha : (s.take pos).all T = true) (ht : T s[pos] = true) : (s.take (pos + 1)).all T = true := by
 rw [List.take_succ_eq_append_getElem h, List.all_append, ha]; simp [ht]
theorem all_bad {T : UInt8 → Bool} {s : Bs} {pos : Nat} (h : pos < s.length) (ht : T s[pos] = false) : s.all T = false := by
 rw [List.all_eq_false]; exact ⟨s[pos], List.getElem_mem h, by rw [ht]; decide⟩
end Go.Proofs.YtmbnebafdhpgpaaGreatDoor
