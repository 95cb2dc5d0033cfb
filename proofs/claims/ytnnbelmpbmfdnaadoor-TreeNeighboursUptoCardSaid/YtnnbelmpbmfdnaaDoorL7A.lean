/- Own work: entries as plain data; what is done below one node does not touch what is below another one: plain. -/
import Derived.Test.YtnnbelmpbmfdnaaDoorTree4
import Derived.Test.YtnnbelmpbmfdnaaDoorTree3
namespace Go.Proofs.YtnnbelmpbmfdnaaDoor
open Go

structure En where
  zx : Int
  ses : Int
  xid : Int
  x : Pt
  subs : List Pt
def enC (e : En) : List Value := [vint e.zx, vint e.ses, vint e.xid] ++ ptC e.x
def appE (τ : Tr) (e : En) : Tr := (applyZ τ e.zx e.x e.subs).1
def appL (τ : Tr) (l : List En) : Tr := l.foldl appE τ
theorem appL_nil (τ : Tr) : appL τ [] = τ := rfl
theorem appL_snoc (τ : Tr) (l : List En) (e : En) : appL τ (l ++ [e]) = appE (appL τ l) e := by unfold appL; rw [List.foldl_append]; rfl
theorem appL_step (τ : Tr) {l : List En} {i : Nat} (hi : i < l.length) : appL τ (l.take (i + 1)) = appE (appL τ (l.take i)) l[i] := by
  rw [List.take_succ_eq_append_getElem hi, appL_snoc]
/-- A part without lists. -/
def ptS (kind : Int) (path data : Bs) (num : Int) : Pt := ⟨kind, path, data, .slice none 0 0, [], 0, num, 0, .slice none 0 0⟩
def enS (zx kind : Int) (path data : Bs) (num : Int) : En := ⟨zx, 0, 0, ptS kind path data num, []⟩
theorem rd_none (sz : Nat) (h : Hp) : rdS sz h (.slice none 0 0) 0 [] := .inl ⟨rfl, rfl, none, 0, rfl⟩
theorem ptS_ok (p : HP) {kind : Int} {path data : Bs} {num : Int} (hp : path.length ≤ 1048576) : PtA p (ptS kind path data num) := ⟨fun h _ => rd_none 2 h, Nat.zero_le _, hp, rfl, rfl⟩
theorem txS_ok (p : HP) {kind : Int} {path data : Bs} {num : Int} (hp : path.length ≤ 1048576) : TxA p (ptS kind path data num) [] := ⟨ptS_ok p hp, fun h _ => rd_none 8 h, Nat.zero_le _, fun y hy => by cases hy⟩
/-! ### Raw acts -/
abbrev Ac0 := Int × (Int × (Int × (Bs × Value)))
def ac0C (a : Ac0) : List Value := [vint a.1, vint a.2.1, vint a.2.2.1, vstr a.2.2.2.1, a.2.2.2.2]
structure Acts0 (p : HP) (v : Value) (xs : List Ac0) : Prop where
  cells : ∀ h : Hp, p h → rdS 5 h v xs.length (xs.flatMap ac0C)
  len : xs.length ≤ 1048576
  ok : ∀ a ∈ xs, (-9223372036854775808 ≤ a.1 ∧ a.1 ≤ 9223372036854775807) ∧ (-9223372036854775808 ≤ a.2.1 ∧ a.2.1 ≤ 9223372036854775807) ∧ (-9223372036854775808 ≤ a.2.2.1 ∧ a.2.2.1 ≤ 9223372036854775807) ∧ a.2.2.2.1.length ≤ 1048576
theorem ac0_cell {l : List Ac0} {i k : Nat} (hi : i < l.length) (hk : k < 5) : (l.flatMap ac0C)[i * 5 + k]? = (ac0C l[i])[k]? := flatMap_cell (f := ac0C) (sz := 5) (fun _ _ => rfl) hi hk
def undNames : List Bs := [[120], [121], [122], [120, 47, 120], [120, 47, 121], [121, 47, 120]]
def undName (k : Int) : Bs := undNames.getD k.toNat []
theorem undName_at {k : Int} (h0 : 0 ≤ k) (h6 : k < 6) : (undNames.map vstr)[0 + k.toNat * 1]? = some (vstr (undName k)) := by
  have : 0 + k.toNat * 1 < undNames.length := by show _ < 6; omega
  rw [List.getElem?_map, List.getElem?_eq_getElem this]
  unfold undName
  rw [List.getD_eq_getElem?_getD, List.getElem?_eq_getElem (by show _ < 6; omega)]
  simp
theorem undName_len (k : Int) : (undName k).length ≤ 3 := by
  unfold undName undNames
  rcases Nat.lt_or_ge k.toNat 6 with h | h
  · rw [List.getD_eq_getElem?_getD]
    match k.toNat, h with
    | 0, _ => decide
    | 1, _ => decide
    | 2, _ => decide
    | 3, _ => decide
    | 4, _ => decide
    | 5, _ => decide
  · rw [List.getD_eq_getElem?_getD, List.getElem?_eq_none (by simpa using h)]; decide
def undE (q : Bs) (i : Nat) (a : Ac0) : En := enS (10 + i) (1 + pickZ a.1 4) (q ++ [47] ++ undName (pickZ a.2.1 6)) a.2.2.2.1 (pickZ a.2.2.1 9)
def undTo (q : Bs) (xs : List Ac0) : Nat → List En
  | 0 => []
  | i + 1 => undTo q xs i ++ [undE q i (xs.getD i (0, (0, (0, ([], .bool false)))))]
theorem undTo_len (q : Bs) (xs : List Ac0) (i : Nat) : (undTo q xs i).length = i := by
  induction i with
  | zero => rfl
  | succ i ih => unfold undTo; rw [List.length_append, ih]; rfl
def undL (q : Bs) (xs : List Ac0) : List En := undTo q xs (min 60 xs.length)
theorem undTo_mem {q : Bs} {xs : List Ac0} {i : Nat} {e : En} (h : e ∈ undTo q xs i) : ∃ zx kind k data num, e = enS zx kind (q ++ [47] ++ undName k) data num ∧ 1 ≤ kind ∧ kind ≤ 4 ∧ 0 ≤ k ∧ k < 6 := by
  induction i with
  | zero => cases h
  | succ i ih =>
    unfold undTo at h
    rcases List.mem_append.1 h with h | h
    · exact ih h
    · rw [List.mem_singleton] at h; subst h
      have h1 := pickZ_range (xs.getD i (0, (0, (0, ([], .bool false))))).1 (n := 4) (by decide)
      have h2 := pickZ_range (xs.getD i (0, (0, (0, ([], .bool false))))).2.1 (n := 6) (by decide)
      exact ⟨_, _, _, _, _, rfl, by omega, by omega, h2.1, h2.2⟩
/-! ### Parts touch what is theirs -/
theorem parent_kid {r : Bs} (hr : r = [47, 97] ∨ r = [47, 98]) {k : Int} (h0 : 0 ≤ k) (h6 : k < 6) : parentZ (r ++ [47] ++ undName k) = r ∨ ∃ c, parentZ (r ++ [47] ++ undName k) = r ++ [47] ++ c := by
  have : k = 0 ∨ k = 1 ∨ k = 2 ∨ k = 3 ∨ k = 4 ∨ k = 5 := by omega
  rcases hr with rfl | rfl
  · rcases this with rfl | rfl | rfl | rfl | rfl | rfl
    · exact .inl (by decide)
    · exact .inl (by decide)
    · exact .inl (by decide)
    · exact .inr ⟨[120], by decide⟩
    · exact .inr ⟨[120], by decide⟩
    · exact .inr ⟨[121], by decide⟩
  · rcases this with rfl | rfl | rfl | rfl | rfl | rfl
    · exact .inl (by decide)
    · exact .inl (by decide)
    · exact .inl (by decide)
    · exact .inr ⟨[120], by decide⟩
    · exact .inr ⟨[120], by decide⟩
    · exact .inr ⟨[121], by decide⟩
theorem part_local {A : Bs → Prop} {τ τ' : Tr} {x : Pt} {zx : Int} (hp : A x.path) (hu : A (parentZ x.path)) (h : ∀ q, A q → alook τ.nodes q = alook τ'.nodes q) : ∀ q, A q → alook (partZ τ x zx).1.nodes q = alook (partZ τ' x zx).1.nodes q := by
  intro q hq
  have t1 : thereT τ x.path ↔ thereT τ' x.path := by unfold thereT; rw [h _ hp]
  have t2 : thereT τ (parentZ x.path) ↔ thereT τ' (parentZ x.path) := by unfold thereT; rw [h _ hu]
  unfold partZ
  simp only [t1]
  split
  · unfold createZ
    simp only [t2]
    split
    · show alook (amod (sset _ _ _) _ _) q = alook (amod (sset _ _ _) _ _) q
      rw [al_amod, al_amod, al_sset, al_sset, h q hq]
    · exact h q hq
  split
  · unfold eraseZ
    split
    · show alook (amod (τ.nodes.filter _) _ _) q = alook (amod (τ'.nodes.filter _) _ _) q
      rw [al_amod, al_amod, al_filter (fun k => !hitT k x.path), al_filter (fun k => !hitT k x.path), h q hq]
    · exact h q hq
  split
  · show alook (amod _ _ _) q = alook (amod _ _ _) q
    rw [al_amod, al_amod, h q hq]
  split
  · show alook (amod _ _ _) q = alook (amod _ _ _) q
    rw [al_amod, al_amod, h q hq]
  · exact h q hq
theorem part_else {A : Bs → Prop} {τ : Tr} {x : Pt} {zx : Int} (hp : A x.path) (hu : A (parentZ x.path)) (hh : ∀ q, hitT q x.path = true → A q) : ∀ q, ¬ A q → alook (partZ τ x zx).1.nodes q = alook τ.nodes q := by
  intro q hq
  have n1 : ¬ q = x.path := fun e => hq (e ▸ hp)
  have n2 : ¬ q = parentZ x.path := fun e => hq (e ▸ hu)
  have n3 : hitT q x.path = false := by
    cases e : hitT q x.path with
    | false => rfl
    | true => exact absurd (hh q e) hq
  unfold partZ
  split
  · unfold createZ
    split
    · show alook (amod (sset _ _ _) _ _) q = _
      rw [al_amod, if_neg n2, al_sset, if_neg n1]
    · rfl
  split
  · unfold eraseZ
    split
    · show alook (amod (τ.nodes.filter _) _ _) q = _
      rw [al_amod, if_neg n2, al_filter (fun k => !hitT k x.path), n3]; rfl
    · rfl
  split
  · show alook (amod _ _ _) q = _
    rw [al_amod, if_neg n1]
  split
  · show alook (amod _ _ _) q = _
    rw [al_amod, if_neg n1]
  · rfl
theorem part_sess (τ : Tr) (x : Pt) (zx : Int) : (partZ τ x zx).1.sess = τ.sess := by
  unfold partZ createZ eraseZ
  repeat' split
  all_goals rfl
theorem enS_app (τ : Tr) {zx kind : Int} {path data : Bs} {num : Int} (h1 : 1 ≤ kind) (h4 : kind ≤ 4) : appE τ (enS zx kind path data num) = (partZ (zxT τ zx) (ptS kind path data num) zx).1 := by
  unfold appE applyZ enS
  dsimp only
  rw [if_neg (by show ¬ kind = 5; omega), if_neg (by show ¬ kind = 6; omega), if_neg (by show ¬ kind = 7; omega), if_neg (by show ¬ kind = 8; omega)]
/-- Below a node. -/
def inR (r q : Bs) : Prop := q = r ∨ ∃ c, q = r ++ [47] ++ c
theorem inR_hit {r n q : Bs} (h : hitT q (r ++ [47] ++ n) = true) : inR r q := by
  unfold hitT at h
  rw [Bool.or_eq_true, decide_eq_true_iff, decide_eq_true_iff] at h
  rcases h with rfl | ⟨h, -⟩
  · exact .inr ⟨n, rfl⟩
  · unfold pfx at h
    have : ∃ d, q = kidZ (r ++ [47] ++ n) [] ++ d := ⟨q.drop (kidZ (r ++ [47] ++ n) []).length, by
      conv => lhs; rw [← List.take_append_drop (kidZ (r ++ [47] ++ n) []).length q, h]⟩
    obtain ⟨d, rfl⟩ := this
    unfold kidZ
    split
    · rename_i e
      right
      have := congrArg List.length e
      simp at this
      have hr : r = [] := List.eq_nil_of_length_eq_zero (by omega)
      have hn : n = [] := List.eq_nil_of_length_eq_zero (by omega)
      subst hr; subst hn
      exact ⟨d, by simp⟩
    · exact .inr ⟨n ++ [47] ++ d, by simp⟩
theorem parts_local {r : Bs} {l : List En} (hl : ∀ e ∈ l, ∃ zx kind n data num, e = enS zx kind (r ++ [47] ++ n) data num ∧ 1 ≤ kind ∧ kind ≤ 4 ∧ inR r (parentZ (r ++ [47] ++ n))) {τ τ' : Tr} (h : ∀ q, inR r q → alook τ.nodes q = alook τ'.nodes q) :
    (∀ q, inR r q → alook (appL τ l).nodes q = alook (appL τ' l).nodes q) ∧ (∀ q, ¬ inR r q → alook (appL τ l).nodes q = alook τ.nodes q) ∧ (appL τ l).sess = τ.sess := by
  induction l generalizing τ τ' with
  | nil => exact ⟨h, fun q _ => rfl, rfl⟩
  | cons e l ih =>
    obtain ⟨zx, kind, n, data, num, rfl, h1, h4, hu⟩ := hl e List.mem_cons_self
    have hp : inR r (ptS kind (r ++ [47] ++ n) data num).path := .inr ⟨n, rfl⟩
    have e1 := part_local (A := inR r) (τ := zxT τ zx) (τ' := zxT τ' zx) (x := ptS kind (r ++ [47] ++ n) data num) (zx := zx) hp hu h
    have e2 := part_else (A := inR r) (τ := zxT τ zx) (x := ptS kind (r ++ [47] ++ n) data num) (zx := zx) hp hu (fun q hq => inR_hit hq)
    obtain ⟨g1, g2, g3⟩ := ih (fun e he => hl e (List.mem_cons_of_mem _ he)) (τ := appE τ (enS zx kind (r ++ [47] ++ n) data num)) (τ' := appE τ' (enS zx kind (r ++ [47] ++ n) data num)) (by rw [enS_app _ h1 h4, enS_app _ h1 h4]; exact e1)
    refine ⟨g1, fun q hq => ?_, ?_⟩
    · show alook (appL (appE τ _) l).nodes q = _
      rw [g2 q hq, enS_app _ h1 h4, e2 q hq]; rfl
    · show (appL (appE τ _) l).sess = _
      rw [g3, enS_app _ h1 h4, part_sess]; rfl
theorem und_kinds {r : Bs} (hr : r = [47, 97] ∨ r = [47, 98]) (xs : List Ac0) : ∀ e ∈ undL r xs, ∃ zx kind n data num, e = enS zx kind (r ++ [47] ++ n) data num ∧ 1 ≤ kind ∧ kind ≤ 4 ∧ inR r (parentZ (r ++ [47] ++ n)) := fun e he => by
  obtain ⟨zx, kind, k, data, num, rfl, h1, h2, h3, h4⟩ := undTo_mem he
  exact ⟨zx, kind, _, data, num, rfl, h1, h2, parent_kid hr h3 h4⟩
theorem inR_apart {q : Bs} (h1 : inR [47, 97] q) (h2 : inR [47, 98] q) : False := by
  have key : q.getD 1 0 = 97 := by
    rcases h1 with rfl | ⟨c, rfl⟩ <;> rfl
  have key2 : q.getD 1 0 = 98 := by
    rcases h2 with rfl | ⟨c, rfl⟩ <;> rfl
  rw [key] at key2; cases key2
theorem enS_ok {τ : Tr} {N : Nat} (h : τ.Ok N) {e : En} (he : e.x.acl.length ≤ 1048576) (hs : e.subs = []) : (appE τ e).Ok (N + 1) := by
  have := h.apply e.zx e.x e.subs he (by rw [hs]; simp)
  rw [hs] at this
  exact (by unfold appE; rw [hs]; exact this)
theorem und_ok {τ : Tr} {N : Nat} (h : τ.Ok N) : ∀ l : List En, (∀ e ∈ l, e.x.acl = [] ∧ e.subs = []) → (appL τ l).Ok (N + l.length) := by
  intro l
  induction l generalizing τ N with
  | nil => intro _; exact h
  | cons e l ih =>
    intro hl
    obtain ⟨h1, h2⟩ := hl e List.mem_cons_self
    have := ih (enS_ok h (e := e) (by rw [h1]; simp) h2) (fun e he => hl e (List.mem_cons_of_mem _ he))
    show (appL (appE τ e) l).Ok _
    exact this.more (by rw [List.length_cons]; omega)
theorem und_plain {q : Bs} {xs : List Ac0} : ∀ e ∈ undL q xs, e.x.acl = [] ∧ e.subs = [] ∧ ∃ kind k data num, e.x = ptS kind (q ++ [47] ++ undName k) data num := fun e he => by
  obtain ⟨zx, kind, k, data, num, rfl, -⟩ := undTo_mem he
  exact ⟨rfl, rfl, kind, k, data, num, rfl⟩
/-- The law. -/
theorem neighbours {τ : Tr} {N : Nat} (ho : τ.Ok N) (xs ys : List Ac0) : zxT (appL (appL τ (undL [47, 97] xs)) (undL [47, 98] ys)) 9 = zxT (appL (appL τ (undL [47, 98] ys)) (undL [47, 97] xs)) 9 := by
  have ka := und_kinds (.inl rfl) xs
  have kb := und_kinds (.inr rfl) ys
  have pa : ∀ e ∈ undL [47, 97] xs, e.x.acl = [] ∧ e.subs = [] := fun e he => ⟨(und_plain e he).1, (und_plain e he).2.1⟩
  have pb : ∀ e ∈ undL [47, 98] ys, e.x.acl = [] ∧ e.subs = [] := fun e he => ⟨(und_plain e he).1, (und_plain e he).2.1⟩
  obtain ⟨a1, a2, a3⟩ := parts_local ka (τ := τ) (τ' := τ) (fun _ _ => rfl)
  obtain ⟨b1, b2, b3⟩ := parts_local kb (τ := τ) (τ' := τ) (fun _ _ => rfl)
  obtain ⟨c1, c2, c3⟩ := parts_local kb (τ := appL τ (undL [47, 97] xs)) (τ' := τ) (fun q hq => a2 q (fun g => inR_apart g hq))
  obtain ⟨d1, d2, d3⟩ := parts_local ka (τ := appL τ (undL [47, 98] ys)) (τ' := τ) (fun q hq => b2 q (fun g => inR_apart hq g))
  refine Tr.ext' (sorted_same linB (und_ok (und_ok ho _ pa) _ pb).sorted (und_ok (und_ok ho _ pb) _ pa).sorted fun q => ?_) ?_ rfl
  · show alook (appL (appL τ _) _).nodes q = alook (appL (appL τ _) _).nodes q
    by_cases hA : inR [47, 97] q
    · rw [c2 q (fun g => inR_apart hA g), d1 q hA]
    · by_cases hB : inR [47, 98] q
      · rw [c1 q hB, d2 q hA]
      · rw [c2 q hB, a2 q hA, d2 q hA, b2 q hB]
  · show (appL (appL τ _) _).sess = (appL (appL τ _) _).sess
    rw [c3, a3, d3, b3]
/-! ### The chapter's examples -/
def aw7x : Pt := ptS 1 [47, 97] [120] 1
def aw7y : Pt := ptS 1 [47, 98, 47, 99] [] 1
def aw7A : Tr := (applyZ newT 5 aw7x []).1
def aw7B : Tr := (applyZ aw7A 6 aw7y []).1
theorem aw7_1 : (applyZ newT 5 aw7x []).2 = ([(1, ([47, 97], 5)), (4, ([47], 5))], 0) := by decide
theorem aw7_2 : (applyZ aw7A 6 aw7y []).2 = ([], 0) := by decide
theorem aw7_3 : dataD aw7B [47, 97] = [120] ∧ statD aw7B [47, 97] = ⟨5, 5, 5, 0, 0, 0, 0, 1, 0⟩ ∧ thereT aw7B [47, 97] := by decide
theorem aw7_4 : statD aw7B [47] = ⟨0, 0, 5, 0, 1, 0, 0, 0, 1⟩ ∧ thereT aw7B [47] := by decide
theorem aw7_5 : aw7B.zx = 6 := by decide
theorem aw7_okA : aw7A.Ok 2 := newT_ok.apply 5 aw7x [] (by decide) (by simp)
theorem aw7_okB : aw7B.Ok 3 := aw7_okA.apply 6 aw7y [] (by decide) (by simp)
end Go.Proofs.YtnnbelmpbmfdnaaDoor
