/- Own work: a tree as plain data: nodes by rising paths, sessions by rising numbers; what each transaction does. -/
import Derived.Test.YtnnbelmpbmfdnaaDoorPath2
import Derived.Test.YtnnbelmpbmfdnaaDoorSlKeysS
import Derived.Test.YtnnbelmpbmfdnaaDoorSlRange
namespace Go.Proofs.YtnnbelmpbmfdnaaDoor
open Go

structure Nd where
  data : Bs
  acl : List Ac
  st : Stt
instance : DecidableEq Nd := fun a b => decidable_of_iff (a.data = b.data ∧ a.acl = b.acl ∧ a.st = b.st) ⟨fun ⟨h1, h2, h3⟩ => by cases a; cases b; cases h1; cases h2; cases h3; rfl, fun h => by rw [h]; exact ⟨rfl, rfl, rfl⟩⟩
structure Tr where
  nodes : List (Bs × Nd)
  sess : List (Int × (Int × Bs))
  zx : Int
theorem Tr.ext' {a b : Tr} (h1 : a.nodes = b.nodes) (h2 : a.sess = b.sess) (h3 : a.zx = b.zx) : a = b := by
  cases a; cases b; cases h1; cases h2; cases h3; rfl
/-- A part of a transaction: its own fields; where its lists lie. -/
structure Pt where
  kind : Int
  path : Bs
  data : Bs
  aclV : Value
  acl : List Ac
  own : Int
  num : Int
  err : Int
  subsV : Value
def ptC (x : Pt) : List Value := [vint x.kind, vstr x.path, vstr x.data, x.aclV, vint x.own, vint x.num, vint x.err, x.subsV]
/-- A node's own numbers, without Length and Kids. -/
def ableZ (p : Bs) : Prop := p ≠ [47] ∧ checkZ p = 0
instance (p : Bs) : Decidable (ableZ p) := inferInstanceAs (Decidable (_ ∧ _))
def thereT (τ : Tr) (p : Bs) : Prop := (alook τ.nodes p).isSome = true
instance (τ : Tr) (p : Bs) : Decidable (thereT τ p) := inferInstanceAs (Decidable (_ = _))
def kidN (num zx : Int) (n : Nd) : Nd := { n with st := { n.st with cver := num, pz := zx } }
def setN (d : Bs) (num zx : Int) (n : Nd) : Nd := { n with data := d, st := { n.st with ver := num, mz := zx } }
def aclN (acl : List Ac) (num : Int) (n : Nd) : Nd := { n with acl := acl, st := { n.st with av := num } }
def newN (x : Pt) (zx : Int) : Nd := ⟨x.data, x.acl, { st0 with cz := zx, mz := zx, pz := zx, own := x.own }⟩
def kidT (τ : Tr) (p : Bs) (num zx : Int) : Tr := { τ with nodes := amod τ.nodes p (kidN num zx) }
def createZ (τ : Tr) (x : Pt) (zx : Int) : Tr × List Ev :=
  if ableZ x.path ∧ thereT τ (parentZ x.path) then
    (kidT { τ with nodes := sset τ.nodes x.path (newN x zx) } (parentZ x.path) x.num zx, [(if thereT τ x.path then 3 else 1, (x.path, zx)), (4, (parentZ x.path, zx))])
  else (τ, [])
def hitT (x p : Bs) : Bool := decide (x = p) || decide (underZ x p)
def cutT (τ : Tr) (p : Bs) : Tr := { τ with nodes := τ.nodes.filter fun y => !hitT y.1 p }
def eraseZ (τ : Tr) (x : Pt) (zx : Int) : Tr × List Ev :=
  if ableZ x.path then
    (kidT (cutT τ x.path) (parentZ x.path) x.num zx, if thereT τ x.path then (2, (x.path, zx)) :: (if thereT (cutT τ x.path) (parentZ x.path) then [(4, (parentZ x.path, zx))] else []) else [])
  else (τ, [])
def partZ (τ : Tr) (x : Pt) (zx : Int) : Tr × List Ev :=
  if x.kind = 1 then createZ τ x zx
  else if x.kind = 2 then eraseZ τ x zx
  else if x.kind = 3 ∧ thereT τ x.path then ({ τ with nodes := amod τ.nodes x.path (setN x.data x.num zx) }, [(3, (x.path, zx))])
  else if x.kind = 4 ∧ thereT τ x.path then ({ τ with nodes := amod τ.nodes x.path (aclN x.acl x.num) }, [])
  else (τ, [])
def partsZ (τ : Tr) (zx : Int) (l : List Pt) : Tr × List Ev := l.foldl (fun r x => ((partZ r.1 x zx).1, r.2 ++ (partZ r.1 x zx).2)) (τ, [])
theorem parts_nil (τ : Tr) (zx : Int) : partsZ τ zx [] = (τ, []) := rfl
theorem parts_snoc (τ : Tr) (zx : Int) (l : List Pt) (x : Pt) : partsZ τ zx (l ++ [x]) = ((partZ (partsZ τ zx l).1 x zx).1, (partsZ τ zx l).2 ++ (partZ (partsZ τ zx l).1 x zx).2) := by
  unfold partsZ; rw [List.foldl_append]; rfl
def isDel (x : Pt) : Bool := decide (x.kind = 2)
def dropS (τ : Tr) (id : Int) : Tr := { τ with sess := τ.sess.filter fun y => !decide (y.1 = id) }
def openS (τ : Tr) (id n : Int) (s : Bs) : Tr := { τ with sess := sset τ.sess id (n, s) }
def zxT (τ : Tr) (zx : Int) : Tr := { τ with zx := zx }
def applyZ (τ0 : Tr) (zx : Int) (x : Pt) (subs : List Pt) : Tr × (List Ev × Int) :=
  let τ := zxT τ0 zx
  if x.kind = 5 then (if 0 < x.own then openS τ x.own x.num x.data else τ, ([], 0))
  else if x.kind = 6 then (dropS (partsZ τ zx (subs.filter isDel)).1 x.own, ((partsZ τ zx (subs.filter isDel)).2, 0))
  else if x.kind = 7 then ((partsZ τ zx subs).1, ((partsZ τ zx subs).2, 0))
  else if x.kind = 8 then (τ, ([], x.err))
  else ((partZ τ x zx).1, ((partZ τ x zx).2, 0))
def kidsZ (τ : Tr) (p : Bs) : List Bs := (τ.nodes.filter fun y => !decide (y.1 = [47]) && decide (parentZ y.1 = p)).map fun y => baseZ y.1
def statZ (τ : Tr) (p : Bs) : Option Stt := (alook τ.nodes p).map fun n => { n.st with len := n.data.length, kids := (kidsZ τ p).length }
def pathsZ (τ : Tr) : List Bs := τ.nodes.map (·.1)
def ownedZ (τ : Tr) (s : Int) : List Bs := (τ.nodes.filter fun y => !decide (s = 0) && decide (y.2.st.own = s)).map (·.1)
def newT : Tr := ⟨[([47], ⟨[], [(31, [119, 111, 114, 108, 100])], st0⟩)], [], 0⟩
/-! ### What is always so -/
structure Tr.Ok (τ : Tr) (N : Nat) : Prop where
  sorted : SortedK τ.nodes
  ssorted : SortedK τ.sess
  few : τ.nodes.length ≤ N
  able : ∀ x ∈ τ.nodes, x.1 = [47] ∨ ableZ x.1
  ids : ∀ x ∈ τ.sess, 1 ≤ x.1
  acls : ∀ x ∈ τ.nodes, x.2.acl.length ≤ 1048576
theorem able_len {p : Bs} (h : p = [47] ∨ ableZ p) : p.length ≤ 60 := by
  rcases h with rfl | ⟨h1, h2⟩
  · decide
  · unfold checkZ at h2
    rw [if_neg h1] at h2
    split at h2
    · cases h2
    · split at h2
      · cases h2
      · omega
theorem Tr.Ok.more {τ : Tr} {N M : Nat} (h : τ.Ok N) (hm : N ≤ M) : τ.Ok M := { h with few := Nat.le_trans h.few hm }
theorem newT_ok : newT.Ok 1 := ⟨by unfold SortedK newT; simp, by unfold SortedK newT; simp, by simp [newT], by simp [newT], by simp [newT], by simp [newT]⟩
theorem Tr.Ok.zx {τ : Tr} {N : Nat} (h : τ.Ok N) (z : Int) : (zxT τ z).Ok N := ⟨h.sorted, h.ssorted, h.few, h.able, h.ids, h.acls⟩
theorem amod_mem {K β : Type} [DecidableEq K] {l : List (K × β)} {k : K} {f : β → β} {x : K × β} (h : x ∈ amod l k f) : ∃ y ∈ l, y.1 = x.1 ∧ (x.2 = y.2 ∨ (y.1 = k ∧ x.2 = f y.2)) := by
  obtain ⟨y, hy, rfl⟩ := List.mem_map.1 h
  refine ⟨y, hy, ?_⟩
  split
  · rename_i e; exact ⟨rfl, .inr ⟨e, rfl⟩⟩
  · exact ⟨rfl, .inl rfl⟩
theorem sset_mem {K β : Type} [LT K] [DecidableEq K] [DecidableLT K] {l : List (K × β)} {k : K} {v : β} {x : K × β} (h : x ∈ sset l k v) : x = (k, v) ∨ x ∈ l := by
  induction l with
  | nil => simpa [sset] using h
  | cons y l ih =>
    unfold sset at h
    split at h
    · rcases List.mem_cons.1 h with rfl | h
      · exact .inl rfl
      · exact .inr (List.mem_cons_of_mem _ h)
    · split at h
      · rcases List.mem_cons.1 h with rfl | h
        · exact .inl rfl
        · exact .inr h
      · rcases List.mem_cons.1 h with rfl | h
        · exact .inr List.mem_cons_self
        · exact (ih h).imp id (List.mem_cons_of_mem _)
theorem Tr.Ok.mod {τ : Tr} {N : Nat} (h : τ.Ok N) (p : Bs) (f : Nd → Nd) (hf : ∀ n, (f n).acl.length ≤ 1048576 ∨ (f n).acl = n.acl) : ({ τ with nodes := amod τ.nodes p f } : Tr).Ok N := by
  refine ⟨h.sorted.amod p f, h.ssorted, by show (amod τ.nodes p f).length ≤ N; rw [amod_len]; exact h.few, fun x hx => ?_, h.ids, fun x hx => ?_⟩
  · obtain ⟨y, hy, e, -⟩ := amod_mem hx
    rw [← e]; exact h.able y hy
  · obtain ⟨y, hy, -, e | ⟨-, e⟩⟩ := amod_mem hx
    · rw [e]; exact h.acls y hy
    · rw [e]
      rcases hf y.2 with g | g
      · exact g
      · rw [g]; exact h.acls y hy
theorem Tr.Ok.kid {τ : Tr} {N : Nat} (h : τ.Ok N) (p : Bs) (num zx : Int) : (kidT τ p num zx).Ok N := h.mod p _ fun _ => .inr rfl
theorem Tr.Ok.lay {τ : Tr} {N : Nat} (h : τ.Ok N) {p : Bs} (hp : p = [47] ∨ ableZ p) (n : Nd) (hn : n.acl.length ≤ 1048576) : ({ τ with nodes := sset τ.nodes p n } : Tr).Ok (N + 1) := by
  refine ⟨h.sorted.sset linB p n, h.ssorted, ?_, fun x hx => ?_, h.ids, fun x hx => ?_⟩
  · have := (sset_len τ.nodes p n).1
    have := h.few
    show (sset τ.nodes p n).length ≤ N + 1
    omega
  · rcases sset_mem hx with rfl | hx
    · exact hp
    · exact h.able x hx
  · rcases sset_mem hx with rfl | hx
    · exact hn
    · exact h.acls x hx
theorem Tr.Ok.cut {τ : Tr} {N : Nat} (h : τ.Ok N) (p : Bs) : (cutT τ p).Ok N :=
  ⟨h.sorted.filter _, h.ssorted, Nat.le_trans (List.length_filter_le _ _) h.few, fun x hx => h.able x (List.mem_filter.1 hx).1, h.ids, fun x hx => h.acls x (List.mem_filter.1 hx).1⟩
theorem Tr.Ok.part {τ : Tr} {N : Nat} (h : τ.Ok N) (x : Pt) (zx : Int) (hx : x.acl.length ≤ 1048576) : (partZ τ x zx).1.Ok (N + 1) := by
  unfold partZ
  split
  · unfold createZ
    split
    · rename_i g; exact (h.lay (.inr g.1) (newN x zx) hx).kid _ _ _
    · exact h.more (Nat.le_add_right N 1)
  split
  · unfold eraseZ
    split
    · exact ((h.cut _).kid _ _ _).more (Nat.le_add_right N 1)
    · exact h.more (Nat.le_add_right N 1)
  split
  · exact (h.mod x.path (setN x.data x.num zx) fun _ => .inr rfl).more (Nat.le_add_right N 1)
  split
  · exact (h.mod x.path (aclN x.acl x.num) fun _ => .inl hx).more (Nat.le_add_right N 1)
  · exact h.more (Nat.le_add_right N 1)
theorem Tr.Ok.parts {τ : Tr} {N : Nat} (h : τ.Ok N) (zx : Int) (l : List Pt) (hl : ∀ x ∈ l, x.acl.length ≤ 1048576) : (partsZ τ zx l).1.Ok (N + l.length) := by
  have key : ∀ (l : List Pt) (r : Tr × List Ev) (N : Nat), r.1.Ok N → (∀ x ∈ l, x.acl.length ≤ 1048576) → (l.foldl (fun r x => ((partZ r.1 x zx).1, r.2 ++ (partZ r.1 x zx).2)) r).1.Ok (N + l.length) := by
    intro l
    induction l with
    | nil => intro r N h _; exact h
    | cons x l ih =>
      intro r N h hl
      rw [List.foldl_cons]
      refine (ih ((partZ r.1 x zx).1, r.2 ++ (partZ r.1 x zx).2) (N + 1) (h.part x zx (hl x (by simp))) (fun y hy => hl y (by simp [hy]))).more ?_
      rw [List.length_cons]; omega
  exact key l _ N h hl
theorem Tr.Ok.dropS {τ : Tr} {N : Nat} (h : τ.Ok N) (id : Int) : (dropS τ id).Ok N :=
  ⟨h.sorted, h.ssorted.filter _, h.few, h.able, fun x hx => h.ids x (List.mem_filter.1 hx).1, h.acls⟩
theorem Tr.Ok.openS {τ : Tr} {N : Nat} (h : τ.Ok N) {id : Int} (hi : 0 < id) (n : Int) (s : Bs) : (openS τ id n s).Ok N := by
  refine ⟨h.sorted, h.ssorted.sset linI _ _, h.few, h.able, fun x hx => ?_, h.acls⟩
  rcases sset_mem hx with rfl | hx
  · dsimp only; omega
  · exact h.ids x hx
theorem Tr.Ok.apply {τ : Tr} {N : Nat} (h : τ.Ok N) (zx : Int) (x : Pt) (subs : List Pt) (hx : x.acl.length ≤ 1048576) (hs : ∀ y ∈ subs, y.acl.length ≤ 1048576) : (applyZ τ zx x subs).1.Ok (N + 1 + subs.length) := by
  have h0 := h.zx zx
  unfold applyZ
  dsimp only
  split
  · split
    · rename_i g; exact (h0.openS g _ _).more (by omega)
    · exact h0.more (by omega)
  split
  · refine ((h0.parts zx (subs.filter isDel) fun y hy => hs y (List.mem_filter.1 hy).1).dropS _).more ?_
    have := List.length_filter_le isDel subs
    omega
  split
  · exact (h0.parts zx subs hs).more (by omega)
  split
  · exact h0.more (by omega)
  · exact (h0.part x zx hx).more (by omega)
end Go.Proofs.YtnnbelmpbmfdnaaDoor
