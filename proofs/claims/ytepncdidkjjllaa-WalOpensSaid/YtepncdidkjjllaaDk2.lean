/- Own work: a disk's pending sectors and its crash, as plain data. -/
import Derived.Test.YtepncdidkjjllaaRef03
import Derived.Test.YtepncdidkjjllaaSlKeys
import Derived.Test.YtepncdidkjjllaaSlSort
namespace Go.Proofs.Ytepncdidkjjllaa
open Go Go.RowKit

def Dk.pend (δ : Dk) : List Int := sortI (δ.old.map (·.1))
theorem Dk.pend_len (δ : Dk) : δ.pend.length = δ.old.length := by rw [Dk.pend, sortI_length, List.length_map]
theorem nodup_lenN : ∀ {n : Nat} {l : List Nat}, l.Nodup → (∀ x ∈ l, x < n) → l.length ≤ n := by
  intro n
  induction n with
  | zero => intro l _ h; cases l with | nil => simp | cons a l => exact absurd (h a (by simp)) (by omega)
  | succ n ih =>
    intro l hn h
    have h1 := ih (hn.erase n) (fun x hx => by
      have := (hn.mem_erase_iff).1 hx
      have := h x this.2; omega)
    rw [List.length_erase] at h1
    split at h1 <;> omega
theorem nodup_len {l : List Int} (hn : l.Nodup) {n : Nat} (h : ∀ x ∈ l, 0 ≤ x ∧ x < n) : l.length ≤ n := by
  have h1 : (l.map Int.toNat).Nodup := List.Pairwise.map _ (S := fun a b : Nat => a ≠ b) (R := fun a b : Int => (0 ≤ a ∧ 0 ≤ b) ∧ a ≠ b) (fun a b hab => by omega)
    (List.Pairwise.imp_of_mem (fun {a b} ha hb hab => ⟨⟨(h a ha).1, (h b hb).1⟩, hab⟩) hn)
  have h3 := nodup_lenN (n := n) h1 (fun x hx => by
    obtain ⟨y, hy, rfl⟩ := List.mem_map.1 hx
    have := h y hy
    omega)
  simpa using h3
theorem Dk.Ok.oldlen {δ : Dk} (h : δ.Ok) : δ.old.length ≤ δ.now.length := by
  have := nodup_len h.nodup (n := δ.now.length) (fun x hx => by
    obtain ⟨y, hy, rfl⟩ := List.mem_map.1 hx
    exact (h.olds y hy).2)
  simpa using this
theorem mem_alook {β : Type} {m : List (Int × β)} {k : Int} (h : k ∈ m.map (·.1)) : ∃ b, alook m k = some b := by
  rcases e : alook m k with _ | b
  · exact absurd h (alook_none e)
  · exact ⟨b, rfl⟩
theorem Dk.pend_at {δ : Dk} (h : δ.Ok) {k : Nat} (hk : k < δ.pend.length) : 0 ≤ δ.pend.getD k 0 ∧ (δ.pend.getD k 0).toNat < δ.now.length ∧ δ.pend.getD k 0 < δ.now.length ∧ ∃ o, alook δ.old (δ.pend.getD k 0) = some o ∧ o.length = 64 := by
  have e : δ.pend.getD k 0 = δ.pend[k] := by simp [hk]
  have hm : δ.pend[k] ∈ δ.old.map (·.1) := sortI_mem.1 (List.getElem_mem hk)
  obtain ⟨o, ho⟩ := mem_alook hm
  have := h.olds _ (alook_mem ho)
  rw [e]
  exact ⟨this.2.1, by omega, this.2.2, o, ho, this.1⟩
def Dk.crash1 (δ : Dk) (f : Int) (n : Int) : Dk :=
  { δ with now := if f % 3 = 0 then δ.now.set n.toNat ((alook δ.old n).getD []) else if f % 3 = 2 then δ.now.set n.toNat ((δ.now.getD n.toNat []).take ((f / 3) % 65).toNat ++ ((alook δ.old n).getD []).drop ((f / 3) % 65).toNat) else δ.now }
def Dk.crashTo (δ : Dk) (how : List Int) : Nat → Dk
  | 0 => δ
  | k + 1 => (δ.crashTo how k).crash1 (fateOf how k) (δ.pend.getD k 0)
def Dk.crash (δ : Dk) (how : List Int) : Dk := { δ.crashTo how δ.pend.length with old := [], dead := false, left := 0 }
theorem Dk.crash1_len (δ : Dk) (f n : Int) : (δ.crash1 f n).now.length = δ.now.length := by
  simp only [Dk.crash1]
  split
  · simp
  · split <;> simp
theorem Dk.Ok.crash1 {δ : Dk} (h : δ.Ok) (f : Int) {n : Int} {o : List UInt8} (ho : alook δ.old n = some o) (hl : o.length = 64) (hn : n.toNat < δ.now.length) : (δ.crash1 f n).Ok := by
  have h1 := getD_mem64 h.sec hn
  have hb : ((f / 3) % 65).toNat ≤ 64 := by omega
  refine ⟨fun s hs => ?_, fun x hx => by rw [Dk.crash1_len]; exact h.olds x hx, h.nodup, by rw [Dk.crash1_len]; exact h.big, h.acts0, h.left0⟩
  simp only [Dk.crash1, ho, Option.getD_some] at hs
  split at hs
  · rcases List.mem_or_eq_of_mem_set hs with hs | rfl
    · exact h.sec s hs
    · exact hl
  · split at hs
    · rcases List.mem_or_eq_of_mem_set hs with hs | rfl
      · exact h.sec s hs
      · rw [List.length_append, List.length_take, List.length_drop, h1, hl]; omega
    · exact h.sec s hs
theorem Dk.crashTo_same (δ : Dk) (how : List Int) : ∀ k, (δ.crashTo how k).old = δ.old ∧ (δ.crashTo how k).acts = δ.acts ∧ (δ.crashTo how k).left = δ.left ∧ (δ.crashTo how k).dead = δ.dead ∧ (δ.crashTo how k).now.length = δ.now.length := by
  intro k
  induction k with
  | zero => exact ⟨rfl, rfl, rfl, rfl, rfl⟩
  | succ k ih =>
    obtain ⟨h1, h2, h3, h4, h5⟩ := ih
    exact ⟨h1, h2, h3, h4, by rw [Dk.crashTo, Dk.crash1_len, h5]⟩
theorem Dk.crashTo_ok {δ : Dk} (h : δ.Ok) (how : List Int) : ∀ k, k ≤ δ.pend.length → (δ.crashTo how k).Ok := by
  intro k
  induction k with
  | zero => exact fun _ => h
  | succ k ih =>
    intro hk
    obtain ⟨e1, -, -, -, e2⟩ := δ.crashTo_same how k
    obtain ⟨q0, q1, q2, o, q3, q4⟩ := Dk.pend_at h (k := k) (by omega)
    exact (ih (by omega)).crash1 _ (by rw [e1]; exact q3) q4 (by rw [e2]; exact q1)
theorem Dk.Ok.crashed {δ : Dk} (h : δ.Ok) (how : List Int) : (δ.crash how).Ok := by
  have := Dk.crashTo_ok h how δ.pend.length (Nat.le_refl _)
  exact ⟨this.sec, by simp [Dk.crash], by simp [Dk.crash], this.big, this.acts0, by simp [Dk.crash]⟩
theorem Dk.new_ok {n : Int} (h : n.toNat ≤ 32768) : (Dk.new n).Ok :=
  ⟨by simp [Dk.new, zs_len], by simp [Dk.new], by simp [Dk.new], by simpa [Dk.new] using h, by simp [Dk.new], by simp [Dk.new]⟩
theorem bys_zs : bys zs = List.replicate 64 (Value.int .u8 0) := by rw [bys, zs, List.map_replicate]; rfl
theorem secsC_new (n : Nat) : secsC (List.replicate n zs) = List.replicate (n * 64) (Value.int .u8 0) := by
  induction n with
  | zero => rfl
  | succ n ih =>
    have : secsC (List.replicate (n + 1) zs) = bys zs ++ secsC (List.replicate n zs) := by simp [secsC, List.replicate_succ]
    rw [this, ih, bys_zs, List.replicate_append_replicate]
    congr 1; omega
theorem secsC_take {l : List (List UInt8)} (h : ∀ s ∈ l, s.length = 64) {n : Nat} (hn : n < l.length) {m off j : Nat} (ho : off = n * 64) (hj : j = m) (hm : m ≤ 64) : ((secsC l).drop off).take j = bys (l[n].take m) := by
  subst ho hj
  rw [show bys (l[n].take j) = (bys l[n]).take j from List.map_take, ← secsC_at h hn, List.take_take, Nat.min_eq_left hm]
section
variable {P : Program} {E : Env} {L R : List HP} {ty kt et : TypeId} {K β : Type} [DecidableEq K] {kv : K → Value} {enc : β → Value}
theorem Quiet.lookupS (hl : KeyLaw P kt kv) {t : TypeId} {x y : Operand} {m : List (K × β)} {r : Nat} {k : K} {b : β} {z : Value} {ents : List (Value × Value)} (hb : alook m k = some b) (hx : ev E x = some (.map (some r))) (hy : ev E y = some (kv k)) (ht : P.underlying t = some (.map kt et)) (hz : zeroOf P et = some z)
    (hL : Pick (mapR r ents) L R) (he : ents = m.map fun x => (kv x.1, enc x.2)) : Quiet P ⟨none, .lookup t x y false, ty, "", #[], none⟩ E L (enc b) := by
  have q := Quiet.lookup (enc := enc) (ty := ty) hl hx hy ht hz hL he
  rw [hb] at q
  exact q
end
theorem keysD_spec (mb : Option Nat) : Fn Try.prog 102 #[.map mb] [] fun v L => ∃ b, v = .func (.func 129) #[] #[vptr b] ∧ L = [ptc b [.map mb] 98] :=
  keys_fn Try.keysA mb
theorem sortedD_spec {b r : Nat} {T : TypeId} (m : List (Int × List UInt8)) (hnd : (m.map (·.1)).Nodup) (hbd : ∀ x ∈ m, -9223372036854775808 ≤ x.1 ∧ x.1 ≤ 9223372036854775807) (hlen : m.length ≤ 1099511627776) :
    Fn Try.prog 100 #[.func (.func 129) #[] #[vptr b]] [ptc b [.map (some r)] T, mapR r (oldsV m)] fun v L => (∃ a c, v = .slice a m.length c) ∧ L = [intR v (sortI (m.map (·.1))), mapR r (oldsV m)] := by
  have q := sorted_fn Try.keysA Try.sortedA Try.sortA rfl (enters_of Try.func98 rfl rfl) (enters_of Try.func129 rfl rfl) Try.underlying3 (enc := secV) (b := b) (r := r) (T := T) m hnd hbd hlen
  intro F w hs
  refine (q F w hs).mono ?_
  rintro e w' ⟨v, L', ⟨h1, rfl⟩, h2, h3⟩
  refine ⟨v, _, ⟨h1, ?_⟩, h2, h3⟩
  have : (sortI (m.map (·.1))).length = m.length := by rw [sortI_length, List.length_map]
  show _ = [slR _ 1 v (sortI (m.map (·.1))).length _, _]
  rw [this]; rfl
end Go.Proofs.Ytepncdidkjjllaa
