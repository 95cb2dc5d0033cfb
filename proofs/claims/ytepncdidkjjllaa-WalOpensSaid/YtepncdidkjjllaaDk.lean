/- Own work: a disk as plain data, and what stands for it in memory. -/
import Derived.Test.YtepncdidkjjllaaFacts
namespace Go.Proofs.Ytepncdidkjjllaa
open Go

def zs : List UInt8 := List.replicate 64 0
theorem zs_len : zs.length = 64 := rfl
structure Dk where
  now : List (List UInt8)
  old : List (Int × List UInt8)
  acts : Int
  left : Int
  dead : Bool
structure Dk.Ok (δ : Dk) : Prop where
  sec : ∀ s ∈ δ.now, s.length = 64
  olds : ∀ x ∈ δ.old, x.2.length = 64 ∧ 0 ≤ x.1 ∧ x.1 < δ.now.length
  nodup : (δ.old.map (·.1)).Nodup
  big : δ.now.length ≤ 32768
  acts0 : 0 ≤ δ.acts
  left0 : 0 ≤ δ.left ∧ δ.left ≤ 9223372036854775807
abbrev bys (s : List UInt8) : List Value := s.map vbyte
def secV (s : List UInt8) : Value := .agg (bys s).toArray
def secsC (l : List (List UInt8)) : List Value := l.flatMap bys
def oldsV (m : List (Int × List UInt8)) : List (Value × Value) := m.map fun x => (vint x.1, secV x.2)
theorem bys_cell (s : List UInt8) : ∀ v ∈ bys s, isCell v = true := by simp [isCell]
theorem secsC_length {l : List (List UInt8)} (h : ∀ s ∈ l, s.length = 64) : (secsC l).length = l.length * 64 := by
  induction l with
  | nil => rfl
  | cons s l ih => simp [secsC] at *; rw [ih h.2, h.1]; omega
theorem secsC_at {l : List (List UInt8)} (h : ∀ s ∈ l, s.length = 64) {n : Nat} (hn : n < l.length) : ((secsC l).drop (n * 64)).take 64 = bys l[n] := by
  induction l generalizing n with
  | nil => simp at hn
  | cons s l ih =>
    have hs := h s (by simp)
    have hl : ∀ t ∈ l, t.length = 64 := fun t ht => h t (List.mem_cons_of_mem _ ht)
    cases n with
    | zero => simp [secsC, List.take_append, hs]
    | succ n =>
      have : (n + 1) * 64 = s.length + n * 64 := by omega
      rw [show secsC (s :: l) = bys s ++ secsC l from by simp [secsC], this]
      rw [List.drop_append, List.drop_eq_nil_of_le (by simp), List.nil_append]
      simp only [List.length_map, Nat.add_sub_cancel_left]
      exact ih hl (by simpa using hn)
theorem secsC_set {l : List (List UInt8)} (h : ∀ s ∈ l, s.length = 64) {n : Nat} (hn : n < l.length) {t : List UInt8} (ht : t.length = 64) : spl (secsC l) (n * 64) (bys t) = secsC (l.set n t) := by
  induction l generalizing n with
  | nil => simp at hn
  | cons s l ih =>
    have hs := h s (by simp)
    have hl : ∀ t ∈ l, t.length = 64 := fun t ht => h t (List.mem_cons_of_mem _ ht)
    cases n with
    | zero =>
      simp only [Nat.zero_mul, List.set_cons_zero]
      simp [spl, secsC, ht, hs, List.drop_append]
    | succ n =>
      have e : (n + 1) * 64 = s.length + n * 64 := by omega
      have := ih hl (n := n) (by simpa using hn)
      simp only [List.set_cons_succ]
      rw [show secsC (s :: l) = bys s ++ secsC l from by simp [secsC], show secsC (s :: l.set n t) = bys s ++ secsC (l.set n t) from by simp [secsC], ← this, e]
      simp [spl, List.take_append, List.drop_append, List.take_of_length_le, List.drop_eq_nil_of_le, Nat.add_sub_cancel_left, Nat.add_assoc]
def dkR (d : Nat) (δ : Dk) : HP := fun h => ∃ x : Nat × Nat, δ.Ok ∧
  sep [ptc d [.slice (some ⟨x.1, 0, none⟩) δ.now.length δ.now.length, .map (some x.2), vint δ.acts, vint δ.left, .bool δ.dead] 100,
    ptc x.1 (secsC δ.now) 106, mapR x.2 (oldsV δ.old)] h
section
variable {W : World} {n : Nat} {ds : List Deferred} {E : Env} {L R : List HP} {X : Act → World → Prop}
theorem G.dkOpen {d : Nat} {δ : Dk} (hL : Pick (dkR d δ) L R) (h : ∀ nb ob, δ.Ok → G W n ds E (ptc d [.slice (some ⟨nb, 0, none⟩) δ.now.length δ.now.length, .map (some ob), vint δ.acts, vint δ.left, .bool δ.dead] 100 ::
    ptc nb (secsC δ.now) 106 :: mapR ob (oldsV δ.old) :: R) X) : G W n ds E L X :=
  G.focus hL (G.open (q := fun x : Nat × Nat => [ptc d [.slice (some ⟨x.1, 0, none⟩) δ.now.length δ.now.length, .map (some x.2), vint δ.acts, vint δ.left, .bool δ.dead] 100,
    ptc x.1 (secsC δ.now) 106, mapR x.2 (oldsV δ.old)]) (φ := fun _ => δ.Ok) (fun _ hp => hp) fun x hx => h x.1 x.2 hx)
theorem G.dkFold {d nb ob : Nat} {δ : Dk} {l l1 : List Value} {ents : List (Value × Value)} (hL : Picks [ptc d l 100, ptc nb l1 106, mapR ob ents] L R)
    (h1 : l = [.slice (some ⟨nb, 0, none⟩) δ.now.length δ.now.length, .map (some ob), vint δ.acts, vint δ.left, .bool δ.dead]) (h2 : l1 = secsC δ.now) (h3 : ents = oldsV δ.old) (hok : δ.Ok)
    (h : G W n ds E (dkR d δ :: R) X) : G W n ds E L X := by
  subst h1; subst h2; subst h3
  exact G.fold hL (fun _ hp => ⟨(nb, ob), hok, hp⟩) h
end

def Dk.new (n : Int) : Dk := ⟨List.replicate n.toNat zs, [], 0, 0, false⟩
def actE (left : Int) : Int := if left = 0 then 0 else if left - 1 > 0 then 0 else 2
def actL (left : Int) : Int := if left = 0 then 0 else left - 1
def actD (left : Int) (dead : Bool) : Bool := if left = 0 then dead else if left - 1 > 0 then dead else true
def Dk.act (δ : Dk) : Dk × Int := ({ δ with acts := δ.acts + 1, left := actL δ.left, dead := actD δ.left δ.dead }, actE δ.left)
def Dk.has (δ : Dk) (n : Int) : Bool := decide (0 ≤ n) && decide (n < δ.now.length)
def Dk.read (δ : Dk) (n : Int) : List UInt8 × Int :=
  if δ.dead then ([], 2) else if δ.has n = false then ([], 20) else (δ.now.getD n.toNat [], 0)
def Dk.put (δ : Dk) (n : Int) (s : List UInt8) : Dk :=
  { δ with now := δ.now.set n.toNat s, old := if (alook δ.old n).isSome then δ.old else aset δ.old n (δ.now.getD n.toNat []) }
def Dk.write (δ : Dk) (n : Int) (s : List UInt8) : Dk × Int :=
  if δ.dead then (δ, 2) else if δ.has n = false ∨ s.length ≠ 64 then (δ, 20) else (δ.put n s).act
def Dk.sync (δ : Dk) : Dk × Int :=
  if δ.dead then (δ, 2) else if δ.act.2 = 0 then ({ δ.act.1 with old := [] }, 0) else (δ.act.1, δ.act.2)
def Dk.arm (δ : Dk) (n : Int) : Dk × Int :=
  if δ.dead then (δ, 2) else if n < 0 then (δ, 1) else ({ δ with left := n }, 0)
theorem Dk.Ok.acted {δ : Dk} (h : δ.Ok) : δ.act.1.Ok := by
  obtain ⟨a, b, c, d, e, f⟩ := h
  refine ⟨a, b, c, d, by simp [Dk.act]; omega, ?_⟩
  simp only [Dk.act, actL]
  split <;> omega
theorem alook_mem {β : Type} {m : List (Int × β)} {k : Int} {b : β} (h : alook m k = some b) : (k, b) ∈ m := by
  induction m with
  | nil => cases h
  | cons x m ih =>
    obtain ⟨a, c⟩ := x
    by_cases hk : k = a
    · subst hk; simp [alook] at h; simp [h]
    · simp [alook, hk] at h; exact List.mem_cons_of_mem _ (ih h)
theorem alook_none {β : Type} {m : List (Int × β)} {k : Int} (h : alook m k = none) : k ∉ m.map (·.1) := by
  induction m with
  | nil => simp
  | cons x m ih =>
    obtain ⟨a, c⟩ := x
    by_cases hk : k = a
    · subst hk; simp [alook] at h
    · simp [alook, hk] at h; simp [hk, ih h]
theorem has_lt {δ : Dk} {n : Int} (h : δ.has n = true) : 0 ≤ n ∧ n < δ.now.length ∧ n.toNat < δ.now.length := by
  simp [Dk.has] at h; omega
theorem Dk.Ok.putOk {δ : Dk} (h : δ.Ok) {n : Int} {s : List UInt8} (hn : δ.has n = true) (hs : s.length = 64) : (δ.put n s).Ok := by
  obtain ⟨a, b, c, d, e, f⟩ := h
  obtain ⟨h0, h1, h2⟩ := has_lt hn
  have hget : δ.now.getD n.toNat [] = δ.now[n.toNat] := by simp [h2]
  refine ⟨fun t ht => ?_, fun x hx => ?_, ?_, by simpa [Dk.put] using d, e, f⟩
  · simp only [Dk.put] at ht
    rcases List.mem_or_eq_of_mem_set ht with ht | rfl
    · exact a t ht
    · exact hs
  · simp only [Dk.put, List.length_set] at hx ⊢
    split at hx
    · exact b x hx
    · rename_i hn'
      rw [aset_none (by simpa using hn')] at hx
      simp only [List.mem_append, List.mem_singleton] at hx
      rcases hx with hx | rfl
      · exact b x hx
      · exact ⟨by rw [hget]; exact a _ (List.getElem_mem _), h0, h1⟩
  · simp only [Dk.put]
    split
    · exact c
    · rename_i hn'
      have hn' : alook δ.old n = none := by simpa using hn'
      rw [aset_none hn', List.map_append]
      refine List.nodup_append.2 ⟨c, by simp, fun a ha b hb => ?_⟩
      simp at hb; subst hb
      exact fun hab => alook_none hn' (hab ▸ ha)
theorem Dk.Ok.cleared {δ : Dk} (h : δ.Ok) : ({ δ with old := [] } : Dk).Ok := ⟨h.sec, by simp, by simp, h.big, h.acts0, h.left0⟩
theorem oldsV_set {m : List (Int × List UInt8)} {k : Int} {s : List UInt8} : (aset m k s).map (fun x => (vint x.1, secV x.2)) = oldsV (aset m k s) := rfl
theorem zeros64 : (List.replicate 64 (Value.int .u8 0)).length = 64 := by simp
end Go.Proofs.Ytepncdidkjjllaa
