/- Own work: what stands for a tree in memory; how its plain data and its maps belong together. -/
import Derived.Test.YtnnbelmpbmfdnaaDoorTr
namespace Go.Proofs.YtnnbelmpbmfdnaaDoor
open Go

/-- A node in memory: its place, where its ACL lies, what it is. -/
abbrev Nm := Nat × (Value × Nd)
abbrev NmM := List (Bs × Nm)
abbrev SsM := List (Int × (Int × Bs))
def ndC (v : Value) (n : Nd) : List Value := [vstr n.data, v, vint n.st.cz, vint n.st.mz, vint n.st.pz, vint n.st.ver, vint n.st.cver, vint n.st.av, vint n.st.own, vint n.st.len, vint n.st.kids]
def ndV (x : Nm) : Value := vptr x.1
def ssV (x : Int × Bs) : Value := .agg #[vint x.1, vstr x.2]
def ndE (m : NmM) : List (Value × Value) := m.map fun x => (vstr x.1, ndV x.2)
def ssE (s : SsM) : List (Value × Value) := s.map fun x => (vint x.1, ssV x.2)
def inN (x : Bs × Nm) : HP := fun h => ∃ _ : Unit, sep [ptc x.2.1 (ndC x.2.2.1 x.2.2.2) 86, rdO 2 x.2.2.1 x.2.2.2.acl.length (x.2.2.2.acl.flatMap acC)] h
structure TrI (τ : Tr) (m : NmM) (s : SsM) : Prop where
  keys : (m.map (·.1)).Nodup
  look : ∀ p, (alook m p).map (fun x : Nm => x.2.2) = alook τ.nodes p
  skeys : (s.map (·.1)).Nodup
  slook : ∀ i, alook s i = alook τ.sess i
def treeR (t : Nat) (τ : Tr) : HP := fun h => ∃ x : (Nat × Nat) × (NmM × SsM), TrI τ x.2.1 x.2.2 ∧ sep [ptc t [.map (some x.1.1), .map (some x.1.2), vint τ.zx] 90, mapR x.1.1 (ndE x.2.1), mapR x.1.2 (ssE x.2.2), bigR inN x.2.1] h
section
variable {W : World} {n : Nat} {ds : List Deferred} {E : Env} {L R : List HP} {X : Act → World → Prop}
theorem G.trOpen {t : Nat} {τ : Tr} (hL : Pick (treeR t τ) L R) (h : ∀ rn rs m s, TrI τ m s → G W n ds E (ptc t [.map (some rn), .map (some rs), vint τ.zx] 90 :: mapR rn (ndE m) :: mapR rs (ssE s) :: bigR inN m :: R) X) : G W n ds E L X :=
  G.focus hL (G.open (q := fun x : (Nat × Nat) × (NmM × SsM) => [ptc t [.map (some x.1.1), .map (some x.1.2), vint τ.zx] 90, mapR x.1.1 (ndE x.2.1), mapR x.1.2 (ssE x.2.2), bigR inN x.2.1]) (φ := fun x : (Nat × Nat) × (NmM × SsM) => TrI τ x.2.1 x.2.2) (fun _ hp => hp) fun x hx => h x.1.1 x.1.2 x.2.1 x.2.2 hx)
theorem G.trFold {t rn rs : Nat} {τ : Tr} {m : NmM} {s : SsM} {l : List Value} {e1 e2 : List (Value × Value)} (hI : TrI τ m s) (hL : Picks [ptc t l 90, mapR rn e1, mapR rs e2, bigR inN m] L R) (hl : l = [.map (some rn), .map (some rs), vint τ.zx]) (h1 : e1 = ndE m) (h2 : e2 = ssE s)
    (h : G W n ds E (treeR t τ :: R) X) : G W n ds E L X := by
  subst hl; subst h1; subst h2
  exact G.fold hL (fun _ hp => ⟨((rn, rs), (m, s)), hI, hp⟩) h
theorem G.trCast {t : Nat} {τ τ' : Tr} (hL : Pick (treeR t τ) L R) (hw : τ' = τ) (h : G W n ds E (treeR t τ' :: R) X) : G W n ds E L X := by
  subst hw; exact G.focus hL h
theorem G.ndOpen {x : Bs × Nm} (hL : Pick (inN x) L R) (h : G W n ds E (ptc x.2.1 (ndC x.2.2.1 x.2.2.2) 86 :: rdO 2 x.2.2.1 x.2.2.2.acl.length (x.2.2.2.acl.flatMap acC) :: R) X) : G W n ds E L X :=
  G.focus hL (G.open (q := fun _ : Unit => [ptc x.2.1 (ndC x.2.2.1 x.2.2.2) 86, rdO 2 x.2.2.1 x.2.2.2.acl.length (x.2.2.2.acl.flatMap acC)]) (φ := fun _ => True) (fun _ hp => let ⟨u, hs⟩ := hp; ⟨u, trivial, hs⟩) fun _ _ => h)
theorem G.ndFold {x : Bs × Nm} {l : List Value} {k : Nat} {v : Value} {ys : List Value} (hL : Picks [ptc x.2.1 l 86, rdO 2 v k ys] L R) (hl : l = ndC x.2.2.1 x.2.2.2) (hv : v = x.2.2.1) (hk : k = x.2.2.2.acl.length) (hy : ys = x.2.2.2.acl.flatMap acC)
    (h : G W n ds E (inN x :: R) X) : G W n ds E L X := by
  subst hl; subst hv; subst hk; subst hy
  exact G.fold hL (fun _ hp => ⟨(), hp⟩) h
end
/-! ### Who keeps it -/
theorem TrI.at {τ : Tr} {m : NmM} {s : SsM} (h : TrI τ m s) {p : Bs} {x : Nm} (hx : alook m p = some x) : alook τ.nodes p = some x.2.2 := by rw [← h.look, hx]; rfl
theorem TrI.none_iff {τ : Tr} {m : NmM} {s : SsM} (h : TrI τ m s) {p : Bs} : alook m p = none ↔ ¬ thereT τ p := by
  unfold thereT; rw [← h.look]; cases alook m p <;> simp
theorem TrI.some_iff {τ : Tr} {m : NmM} {s : SsM} (h : TrI τ m s) {p : Bs} {x : Nm} (hx : alook m p = some x) : thereT τ p := by
  unfold thereT; rw [← h.look, hx]; rfl
theorem TrI.zx {τ : Tr} {m : NmM} {s : SsM} (h : TrI τ m s) (z : Int) : TrI (zxT τ z) m s := ⟨h.keys, h.look, h.skeys, h.slook⟩
/-- A node is written. -/
theorem TrI.mod {τ : Tr} {m : NmM} {s : SsM} (h : TrI τ m s) {p : Bs} {x y : Nm} (hx : alook m p = some x) (f : Nd → Nd) (hy : y.2.2 = f x.2.2) : TrI { τ with nodes := amod τ.nodes p f } (aset m p y) s := by
  refine ⟨nodup_aset h.keys _ _, fun q => ?_, h.skeys, h.slook⟩
  show _ = alook (amod τ.nodes p f) q
  rw [al_aset, al_amod, ← h.look q]
  by_cases e : q = p
  · subst e; rw [if_pos rfl, if_pos rfl, hx]; simp [hy]
  · rw [if_neg e, if_neg e]
theorem amod_none {K β : Type} [DecidableEq K] {l : List (K × β)} {k : K} (h : alook l k = none) (f : β → β) : amod l k f = l := by
  have hk := al_none.1 h
  unfold amod
  conv => rhs; rw [← List.map_id l]
  refine List.map_congr_left fun x hx => ?_
  rw [if_neg (fun e => hk (List.mem_map.2 ⟨x, hx, e⟩))]; rfl
theorem TrI.kidN {τ : Tr} {m : NmM} {s : SsM} (h : TrI τ m s) {p : Bs} (hx : alook m p = none) (f : Nd → Nd) : ({ τ with nodes := amod τ.nodes p f } : Tr) = τ := by
  have : alook τ.nodes p = none := by rw [← h.look, hx]; rfl
  rw [amod_none this]
theorem TrI.lay {τ : Tr} {m : NmM} {s : SsM} (h : TrI τ m s) (p : Bs) (x : Nm) : TrI { τ with nodes := sset τ.nodes p x.2.2 } (aset m p x) s := by
  refine ⟨nodup_aset h.keys _ _, fun q => ?_, h.skeys, h.slook⟩
  show _ = alook (sset τ.nodes p x.2.2) q
  rw [al_aset, al_sset, ← h.look q]
  by_cases e : q = p
  · subst e; rw [if_pos rfl, if_pos rfl]; rfl
  · rw [if_neg e, if_neg e]
theorem TrI.open {τ : Tr} {m : NmM} {s : SsM} (h : TrI τ m s) (id n : Int) (c : Bs) : TrI (openS τ id n c) m (aset s id (n, c)) := by
  refine ⟨h.keys, h.look, nodup_aset h.skeys _ _, fun i => ?_⟩
  show _ = alook (sset τ.sess id (n, c)) i
  rw [al_aset, al_sset, h.slook]
theorem TrI.drop {τ : Tr} {m : NmM} {s : SsM} (h : TrI τ m s) (id : Int) : TrI (dropS τ id) m (adel s id) := by
  refine ⟨h.keys, h.look, nodup_adel h.skeys _, fun i => ?_⟩
  show _ = alook (τ.sess.filter fun y => !decide (y.1 = id)) i
  rw [al_adel h.skeys, al_filter (fun k => !decide (k = id)), h.slook]
  by_cases e : i = id
  · subst e; simp
  · simp [e]
/-- The paths, rising, whatever order the map has. -/
theorem TrI.perm {τ : Tr} {m : NmM} {s : SsM} (h : TrI τ m s) {N : Nat} (ho : τ.Ok N) : (m.map (·.1)).Perm (pathsZ τ) := by
  refine (List.perm_ext_iff_of_nodup h.keys (ho.sorted.nodup linB)).2 fun p => ?_
  rw [← al_isSome, ← al_isSome, ← h.look]; simp
theorem TrI.len {τ : Tr} {m : NmM} {s : SsM} (h : TrI τ m s) {N : Nat} (ho : τ.Ok N) : m.length = τ.nodes.length := by
  have := (h.perm ho).length_eq
  simpa [pathsZ] using this
theorem TrI.sperm {τ : Tr} {m : NmM} {s : SsM} (h : TrI τ m s) {N : Nat} (ho : τ.Ok N) : s.Perm τ.sess :=
  al_ext_perm h.skeys (ho.ssorted.nodup linI) h.slook
theorem sortS_id {l : List Bs} (h : l.Pairwise (· < ·)) : sortS l = l := by
  unfold sortS
  refine List.mergeSort_of_pairwise (h.imp fun hab => ?_)
  simp only [leS, decide_eq_true_eq]; exact List.le_of_lt hab
theorem sortS_of_perm {l l' : List Bs} (h : l.Perm l') : sortS l = sortS l' := mergeSort_of_perm h
theorem TrI.paths {τ : Tr} {m : NmM} {s : SsM} (h : TrI τ m s) {N : Nat} (ho : τ.Ok N) : sortS (m.map (·.1)) = pathsZ τ := by
  rw [sortS_of_perm (h.perm ho)]; exact sortS_id ho.sorted
theorem TrI.plen {τ : Tr} {m : NmM} {s : SsM} (h : TrI τ m s) {N : Nat} (ho : τ.Ok N) : ∀ x ∈ m, x.1.length ≤ 60 := fun x hx => by
  have h1 : alook τ.nodes x.1 = some x.2.2.2 := h.at (al_of_mem h.keys hx)
  exact able_len (ho.able _ (al_mem h1))
theorem TrI.acl {τ : Tr} {m : NmM} {s : SsM} (h : TrI τ m s) {N : Nat} (ho : τ.Ok N) {p : Bs} {x : Nm} (hx : alook m p = some x) : x.2.2.acl.length ≤ 1048576 := ho.acls _ (al_mem (h.at hx))
theorem ndE_set {m : NmM} {p : Bs} {x y : Nm} (h : alook m p = some x) (hp : y.1 = x.1) : ndE (aset m p y) = ndE m := aset_map h (by simp [ndV, hp])
theorem hit_del {τ : Tr} {m : NmM} {s : SsM} (h : TrI τ m s) {q p : Bs} : TrI { τ with nodes := τ.nodes.filter fun y => !decide (y.1 = q) } (adel m q) s ∧ p = p := by
  refine ⟨⟨nodup_adel h.keys _, fun r => ?_, h.skeys, h.slook⟩, rfl⟩
  show _ = alook (τ.nodes.filter fun y => !decide (y.1 = q)) r
  rw [al_adel h.keys, al_filter (fun k => !decide (k = q)), ← h.look r]
  by_cases e : r = q
  · subst e; simp
  · simp [e]
/-- What is left when the paths of a list that are hitT are gone. -/
def cutL (τ : Tr) (p : Bs) (l : List Bs) : Tr := { τ with nodes := τ.nodes.filter fun y => !(decide (y.1 ∈ l) && hitT y.1 p) }
theorem cutL_nil (τ : Tr) (p : Bs) : cutL τ p [] = τ := Tr.ext' (List.filter_eq_self.2 fun _ _ => by simp) rfl rfl
theorem cutL_all (τ : Tr) (p : Bs) : cutL τ p (pathsZ τ) = cutT τ p := by
  refine Tr.ext' ?_ rfl rfl
  show τ.nodes.filter _ = τ.nodes.filter _
  refine List.filter_congr fun y hy => ?_
  have : y.1 ∈ pathsZ τ := List.mem_map_of_mem hy
  simp [this]
theorem cutL_skip (τ : Tr) {p q : Bs} (l : List Bs) (h : hitT q p = false) : cutL τ p (l ++ [q]) = cutL τ p l := by
  refine Tr.ext' ?_ rfl rfl
  show τ.nodes.filter _ = τ.nodes.filter _
  refine List.filter_congr fun y _ => ?_
  by_cases e : y.1 = q
  · rw [e, h]; simp
  · simp [e]
theorem cutL_hit (τ : Tr) {p q : Bs} (l : List Bs) (h : hitT q p = true) : cutL τ p (l ++ [q]) = { cutL τ p l with nodes := (cutL τ p l).nodes.filter fun y => !decide (y.1 = q) } := by
  refine Tr.ext' ?_ rfl rfl
  show τ.nodes.filter _ = (τ.nodes.filter _).filter _
  rw [List.filter_filter]
  refine List.filter_congr fun y _ => ?_
  by_cases e : y.1 = q
  · rw [e, h]; simp
  · simp [e]
theorem TrI.del {τ : Tr} {m : NmM} {s : SsM} (h : TrI τ m s) (q : Bs) : TrI { τ with nodes := τ.nodes.filter fun y => !decide (y.1 = q) } (adel m q) s := (hit_del (p := q) h).1
/-! ### Kids -/
theorem lt_cut : ∀ (c : Bs) {x y : Bs}, c ++ x < c ++ y ↔ x < y
  | [], _, _ => Iff.rfl
  | a :: c, x, y => by
    rw [List.cons_append, List.cons_append, List.cons_lt_cons_iff]
    constructor
    · rintro (h | ⟨-, h⟩)
      · exact absurd h (UInt8.lt_irrefl a)
      · exact (lt_cut c).1 h
    · intro h; exact .inr ⟨rfl, (lt_cut c).2 h⟩
def preZ (p : Bs) : Bs := p.take (lidxZ p).toNat
theorem split_cons (c : UInt8) (r : Bs) : splitZ (c :: r) = if c = 47 then [] :: splitZ r else match splitZ r with
    | h :: t => (c :: h) :: t
    | [] => [[c]] := rfl
theorem able_cut {p : Bs} (h : ableZ p) : 0 ≤ lidxZ p ∧ preZ p ≠ [47] ∧ p = preZ p ++ 47 :: baseZ p ∧ isNameZ (baseZ p) = true := by
  obtain ⟨h1, h2⟩ := h
  unfold checkZ at h2
  rw [if_neg h1] at h2
  have h3 : ¬ ((splitZ p).head? ≠ some [] ∨ (splitZ p).length = 1 ∨ (splitZ p).tail.all isNameZ = false) := by
    intro g; rw [if_pos g] at h2; cases h2
  have hlen : (splitZ p).length ≠ 1 := fun e => h3 (.inr (.inl e))
  have hall : (splitZ p).tail.all isNameZ = true := by
    cases e : (splitZ p).tail.all isNameZ with
    | true => rfl
    | false => exact absurd (.inr (.inr e)) h3
  have hmem : (47 : UInt8) ∈ p := by
    apply Decidable.byContradiction
    intro g
    exact hlen (by rw [split_none g]; rfl)
  have h0 : 0 ≤ lidxZ p := by
    apply Decidable.byContradiction
    intro g
    obtain ⟨i, hi, e⟩ := List.mem_iff_getElem.1 hmem
    have key : ∀ n, n ≤ p.length → lidxTo p n < 0 → ∀ j, j < n → p.getD j 0 ≠ 47 := by
      intro n
      induction n with
      | zero => intro _ _ j hj; omega
      | succ n ih =>
        intro hn hl j hj
        unfold lidxTo at hl
        split at hl
        · omega
        · rename_i hne
          by_cases hjn : j = n
          · subst hjn; exact hne
          · exact ih (by omega) hl j (by omega)
    refine key p.length (Nat.le_refl _) (by show lidxZ p < 0; omega) i hi ?_
    rw [List.getD_eq_getElem?_getD, List.getElem?_eq_getElem hi, Option.getD_some]; exact e
  obtain ⟨c1, c2⟩ := cut_last h0
  have hb : baseZ p = p.drop ((lidxZ p).toNat + 1) := by unfold baseZ; rw [show (lidxZ p + 1).toNat = (lidxZ p).toNat + 1 by omega]
  have c3 : p = preZ p ++ 47 :: baseZ p := by rw [hb]; exact c1
  have hsn : ∀ (a b : Bs), (47 : UInt8) ∉ b → splitZ (a ++ 47 :: b) = splitZ a ++ [b] := by
    intro a b hb
    induction a with
    | nil => rw [List.nil_append, split_cons, if_pos rfl, split_none hb]; rfl
    | cons c a ih =>
      rw [List.cons_append, split_cons, split_cons]
      by_cases hc : c = 47
      · rw [if_pos hc, if_pos hc, ih]; rfl
      · rw [if_neg hc, if_neg hc, ih]
        rcases e : splitZ a with _ | ⟨u, v⟩
        · exact absurd e (splitZ_ne a)
        · rfl
  have hspl := hsn (preZ p) (baseZ p) (by rw [hb]; exact c2)
  rw [← c3] at hspl
  refine ⟨h0, fun e => ?_, c3, ?_⟩
  · rw [e] at hspl
    rw [hspl] at hall
    have : splitZ [47] = [[], []] := by decide
    rw [this] at hall
    simp [isNameZ] at hall
  · rw [hspl] at hall
    rcases e : splitZ (preZ p) with _ | ⟨u, v⟩
    · exact absurd e (splitZ_ne _)
    · rw [e] at hall
      simp at hall
      exact hall.2
theorem able_parent {p : Bs} (h : ableZ p) : parentZ p = if preZ p = [] then [47] else preZ p := by
  obtain ⟨h0, -, h2, -⟩ := able_cut h
  unfold parentZ
  rw [if_neg (by rintro (g | g); omega; exact h.1 g)]
  have hr := lidx_range p
  by_cases hz : lidxZ p = 0
  · rw [if_pos hz, if_pos (by unfold preZ; rw [hz]; rfl)]
  · rw [if_neg hz, if_neg]
    · rfl
    · intro e
      have := congrArg List.length e
      unfold preZ at this
      rw [List.length_take] at this
      simp only [List.length_nil] at this
      omega
theorem kid_lt {a b : Bs} (ha : ableZ a) (hb : ableZ b) (hp : parentZ a = parentZ b) : a < b ↔ baseZ a < baseZ b := by
  obtain ⟨-, a1, a2, -⟩ := able_cut ha
  obtain ⟨-, b1, b2, -⟩ := able_cut hb
  have e : preZ a = preZ b := by
    rw [able_parent ha, able_parent hb] at hp
    by_cases x : preZ a = []
    · rw [if_pos x] at hp
      by_cases y : preZ b = []
      · rw [x, y]
      · rw [if_neg y] at hp; exact absurd hp.symm b1
    · rw [if_neg x] at hp
      by_cases y : preZ b = []
      · rw [if_pos y] at hp; exact absurd hp a1
      · rw [if_neg y] at hp; exact hp
  constructor
  · intro h
    rw [a2, b2, e, lt_cut, List.cons_lt_cons_iff] at h
    rcases h with h | ⟨-, h⟩
    · exact absurd h (UInt8.lt_irrefl _)
    · exact h
  · intro h
    rw [a2, b2, e, lt_cut, List.cons_lt_cons_iff]
    exact .inr ⟨rfl, h⟩
theorem kids_sorted {τ : Tr} {N : Nat} (ho : τ.Ok N) (p : Bs) : (kidsZ τ p).Pairwise (· < ·) := by
  unfold kidsZ
  rw [List.pairwise_map]
  have hs : (τ.nodes.filter fun y => !decide (y.1 = [47]) && decide (parentZ y.1 = p)).Pairwise (fun x y => x.1 < y.1) := List.pairwise_map.1 (ho.sorted.filter _)
  refine List.Pairwise.imp_of_mem ?_ hs
  intro x y hx hy hlt
  obtain ⟨x1, x2⟩ := List.mem_filter.1 hx
  obtain ⟨y1, y2⟩ := List.mem_filter.1 hy
  simp at x2 y2
  exact (kid_lt ((ho.able x x1).resolve_left x2.1) ((ho.able y y1).resolve_left y2.1) (by rw [x2.2, y2.2])).1 hlt
def kidsM (m : NmM) (p : Bs) : List Bs := (m.filter fun y => !decide (y.1 = [47]) && decide (parentZ y.1 = p)).map fun y => baseZ y.1
theorem kids_of_keys {β : Type} (l : List (Bs × β)) (p : Bs) : (l.filter fun y => !decide (y.1 = [47]) && decide (parentZ y.1 = p)).map (fun y => baseZ y.1) = ((l.map (·.1)).filter fun q => !decide (q = [47]) && decide (parentZ q = p)).map baseZ := by
  rw [List.filter_map, List.map_map]; rfl
theorem TrI.kids {τ : Tr} {m : NmM} {s : SsM} (h : TrI τ m s) {N : Nat} (ho : τ.Ok N) (p : Bs) : sortS (kidsM m p) = kidsZ τ p := by
  have hp : (kidsM m p).Perm (kidsZ τ p) := by
    unfold kidsM kidsZ
    rw [kids_of_keys, kids_of_keys]
    exact ((h.perm ho).filter _).map _
  rw [sortS_of_perm hp]; exact sortS_id (kids_sorted ho p)
theorem kidsM_len (m : NmM) (p : Bs) : (kidsM m p).length ≤ m.length := by
  unfold kidsM; rw [List.length_map]; exact List.length_filter_le _ _
theorem big_del {K β : Type} [DecidableEq K] {f : K × β → HP} {m : List (K × β)} (k : K) {h : Hp} (hs : bigR f m h) : bigR f (adel m k) h := by
  rcases e : alook m k with _ | b
  · rw [adel_none e]; exact hs
  · obtain ⟨h1, h2, -, -, a2, -, hp⟩ := big_take e hs
    obtain ⟨g1, g2, -, b1, -, hq, -⟩ := hp
    exact sep_mono hq fun c o hc => a2 _ _ (b1 _ _ hc)
theorem G.bigDel {W : World} {n : Nat} {ds : List Deferred} {E : Env} {L R : List HP} {X : Act → World → Prop} {K β : Type} [DecidableEq K] {f : K × β → HP} {m : List (K × β)} (k : K) (hL : Pick (bigR f m) L R) (h : G W n ds E (bigR f (adel m k) :: R) X) : G W n ds E L X :=
  fun a w he hk hs => h a w he hk (sep_imp (fun _ hp => big_del k hp) (hs.pick hL))
theorem kid_there {τ : Tr} {p q : Bs} {num zx : Int} : thereT (kidT τ p num zx) q ↔ thereT τ q := by
  unfold thereT kidT
  dsimp only
  rw [al_amod]
  split
  · cases alook τ.nodes q <;> simp
  · exact Iff.rfl
theorem cut_len (τ : Tr) (p : Bs) : (cutT τ p).nodes.length ≤ τ.nodes.length := List.length_filter_le _ _
theorem part_ev (τ : Tr) (x : Pt) (zx : Int) : (partZ τ x zx).2.length ≤ 2 := by
  unfold partZ createZ eraseZ
  repeat' split
  all_goals simp
theorem parts_ev (τ : Tr) (zx : Int) (l : List Pt) : (partsZ τ zx l).2.length ≤ 2 * l.length := by
  have key : ∀ (l : List Pt) (r : Tr × List Ev), (l.foldl (fun r x => ((partZ r.1 x zx).1, r.2 ++ (partZ r.1 x zx).2)) r).2.length ≤ r.2.length + 2 * l.length := by
    intro l
    induction l with
    | nil => intro r; simp
    | cons x l ih =>
      intro r
      rw [List.foldl_cons]
      refine Nat.le_trans (ih _) ?_
      have := part_ev r.1 x zx
      dsimp only
      rw [List.length_append, List.length_cons]
      omega
  have := key l (τ, [])
  simpa [partsZ] using this
theorem filter_take_yes {f : Pt → Bool} {l : List Pt} {i : Nat} (hi : i < l.length) (h : f l[i] = true) : (l.take (i + 1)).filter f = (l.take i).filter f ++ [l[i]] := by
  rw [List.take_succ_eq_append_getElem hi, List.filter_append]; simp [h]
theorem filter_take_no {f : Pt → Bool} {l : List Pt} {i : Nat} (hi : i < l.length) (h : f l[i] = false) : (l.take (i + 1)).filter f = (l.take i).filter f := by
  rw [List.take_succ_eq_append_getElem hi, List.filter_append]; simp [h]
/-! ### Two trees the same -/
instance : DecidableEq Tr := fun a b => decidable_of_iff (a.nodes = b.nodes ∧ a.sess = b.sess ∧ a.zx = b.zx) ⟨fun ⟨h1, h2, h3⟩ => Tr.ext' h1 h2 h3, fun h => by rw [h]; exact ⟨rfl, rfl, rfl⟩⟩
def statD (τ : Tr) (p : Bs) : Stt := (statZ τ p).getD st0
def dataD (τ : Tr) (p : Bs) : Bs := ((alook τ.nodes p).map (·.data)).getD []
theorem TrI.stat {τ : Tr} {m : NmM} {s : SsM} (h : TrI τ m s) {p : Bs} {x : Nm} (hx : alook m p = some x) : statD τ p = { x.2.2.st with len := x.2.2.data.length, kids := (kidsZ τ p).length } := by
  unfold statD statZ; rw [h.at hx]; rfl
theorem TrI.stat0 {τ : Tr} {m : NmM} {s : SsM} (h : TrI τ m s) {p : Bs} (hx : alook m p = none) : statD τ p = st0 := by
  unfold statD statZ; rw [← h.look, hx]; rfl
theorem keys_same {K β γ : Type} [DecidableEq K] {a : List (K × β)} {b : List (K × γ)} (ha : (a.map (·.1)).Nodup) (hl : a.length = b.length) (h : ∀ x ∈ a, (alook b x.1).isSome = true) {k : K} (hk : alook a k = none) : alook b k = none := by
  have hsub : ∀ x ∈ a.map (·.1), x ∈ b.map (·.1) := fun x hx => by
    obtain ⟨y, hy, rfl⟩ := List.mem_map.1 hx
    exact al_isSome.1 (h y hy)
  rw [al_none] at hk ⊢
  intro hb
  have h1 := nodup_len (l := k :: a.map (·.1)) (m := b.map (·.1)) (List.nodup_cons.2 ⟨hk, ha⟩) (fun x hx => by
    rcases List.mem_cons.1 hx with rfl | hx
    · exact hb
    · exact hsub x hx)
  simp at h1
  omega
theorem tr_same {τ υ : Tr} {N M : Nat} (hτ : τ.Ok N) (hυ : υ.Ok M) {m n : NmM} {s r : SsM} (h1 : TrI τ m s) (h2 : TrI υ n r) : τ = υ ↔ τ.zx = υ.zx ∧ (∀ i, alook s i = alook r i) ∧ ∀ p, (alook m p).map (fun x : Nm => x.2.2) = (alook n p).map (fun x : Nm => x.2.2) := by
  constructor
  · rintro rfl
    exact ⟨rfl, fun i => by rw [h1.slook, h2.slook], fun p => by rw [h1.look, h2.look]⟩
  · rintro ⟨e1, e2, e3⟩
    refine Tr.ext' (sorted_same linB hτ.sorted hυ.sorted fun p => ?_) (sorted_same linI hτ.ssorted hυ.ssorted fun i => ?_) e1
    · rw [← h1.look, ← h2.look, e3]
    · rw [← h1.slook, ← h2.slook, e2]
end Go.Proofs.YtnnbelmpbmfdnaaDoor
