/- Own work, some of it printed by program, texts that were built one by one and are laid one behind the other here: a writer and a reader of bytes in memory. | structs that are compared, and structs as keys of maps. | package codec: walked. | entries in memory. | package wire, entries: walked. | package wire: entries laid and read: walked. | a disk as plain data, and what stands for it in memory. | numbers as bytes, sums, records and marks, as plain data. | numbers as bytes, sums, records, marks: walked. | package disk, function by function. | records, marks, areas: walked. | marks that are found, bytes that are parted, a log that is opened: plain data. | found, parted: walked. | parted: walked. | Clip, Clone; Open: walked. | what the calls of a log do, in plain words. -/
import Derived.Test.YtidjhgbdokcphaaGreatCLLastsP0
import Derived.Laws.StructEq
set_option linter.unusedSimpArgs false
set_option linter.unusedVariables false
set_option maxRecDepth 100000
/- Own work: a writer and a reader of bytes in memory. -/

namespace Go.Proofs.YtidjhgbdokcphaaGreat
open Go

def wrR (w : Nat) (bs : Bs) : HP := fun h => ∃ y : Option Addr × Nat, True ∧ sep [ptc w [.slice y.1 bs.length y.2, vint 0] 188, bytR (.slice y.1 bs.length y.2) bs] h
def rdW (r : Nat) (s : Bs) (at' : Nat) (e : Int) : HP := fun h => ∃ y : Nat × Nat, (at' ≤ s.length ∧ s.length ≤ 2147483648) ∧ sep [ptc r [.slice (some ⟨y.1, 0, none⟩) s.length y.2, vint at', vint e] 200, bytR (.slice (some ⟨y.1, 0, none⟩) s.length y.2) s] h
def stW (s : Bs) (at' : Nat) (e : Int) : Rs := if e = 0 then some (s.drop at') else none
def rdR (r : Nat) (st : Rs) : HP := fun h => ∃ y : Bs × (Nat × Int), stW y.1 y.2.1 y.2.2 = st ∧ sep [rdW r y.1 y.2.1 y.2.2] h
section
variable {P : Program} {W : World} {n : Nat} {ds : List Deferred} {E : Env} {L R : List HP} {X : Act → World → Prop}
theorem G.wrOpen {w : Nat} {bs : Bs} (hL : Pick (wrR w bs) L R) (h : ∀ a c, G W n ds E (ptc w [.slice a bs.length c, vint 0] 188 :: bytR (.slice a bs.length c) bs :: R) X) : G W n ds E L X :=
  G.focus hL (G.open (q := fun y : Option Addr × Nat => [ptc w [.slice y.1 bs.length y.2, vint 0] 188, bytR (.slice y.1 bs.length y.2) bs]) (φ := fun _ => True) (fun _ hp => hp) fun y _ => h y.1 y.2)
theorem G.wrFold {w : Nat} (bs : Bs) {l xs : List Value} {a : Option Addr} {c m : Nat} (hL : Picks [ptc w l 188, slR 5 1 (.slice a m c) m xs] L R) (hl : l = [.slice a m c, vint 0]) (hm : m = bs.length) (hx : xs = bysL bs) (h : G W n ds E (wrR w bs :: R) X) : G W n ds E L X := by
  subst hl; subst hm; subst hx
  exact G.fold hL (fun _ hp => ⟨(a, c), trivial, hp⟩) h
theorem G.rdOpen {r : Nat} {s : Bs} {k : Nat} {e : Int} (hL : Pick (rdW r s k e) L R) (h : ∀ a c, k ≤ s.length → s.length ≤ 2147483648 → G W n ds E (ptc r [.slice (some ⟨a, 0, none⟩) s.length c, vint k, vint e] 200 :: bytR (.slice (some ⟨a, 0, none⟩) s.length c) s :: R) X) : G W n ds E L X :=
  G.focus hL (G.open (q := fun y : Nat × Nat => [ptc r [.slice (some ⟨y.1, 0, none⟩) s.length y.2, vint k, vint e] 200, bytR (.slice (some ⟨y.1, 0, none⟩) s.length y.2) s]) (φ := fun _ => k ≤ s.length ∧ s.length ≤ 2147483648) (fun _ hp => hp) fun y hy => h y.1 y.2 hy.1 hy.2)
theorem G.rdFold {r : Nat} (s : Bs) (k : Nat) (e : Int) {l : List Value} {a c : Nat} (hL : Picks [ptc r l 200, bytR (.slice (some ⟨a, 0, none⟩) s.length c) s] L R) (hl : l = [.slice (some ⟨a, 0, none⟩) s.length c, vint k, vint e]) (hk : k ≤ s.length) (hs : s.length ≤ 2147483648) (h : G W n ds E (rdW r s k e :: R) X) : G W n ds E L X := by
  subst hl
  exact G.fold hL (fun _ hp => ⟨(a, c), ⟨hk, hs⟩, hp⟩) h
theorem Fn.rdUp {f : FuncId} {args : Array Value} {r : Nat} {α : Type} {d : α} {p : Pa α} {v : α → Value} (h : ∀ s k e, Fn P f args [rdW r s k e] fun u L => ∃ k' e', stW s k' e' = (runP d p (stW s k e)).2 ∧ u = v (runP d p (stW s k e)).1 ∧ L = [rdW r s k' e']) (st : Rs) :
    Fn P f args [rdR r st] fun u L => u = v (runP d p st).1 ∧ L = [rdR r (runP d p st).2] := by
  intro F w hs
  obtain ⟨h1, h2, hd, a1, a2, ⟨y, hy, hp⟩, hF⟩ := hs
  subst hy
  have hs' : St ([rdW r y.1 y.2.1 y.2.2] ++ F) w := sep_flat ⟨h1, h2, hd, a1, a2, hp, hF⟩
  refine (h _ _ _ F w hs').mono ?_
  rintro e w' ⟨u, L, ⟨k', e', h3, rfl, rfl⟩, he, hs2, hk⟩
  refine ⟨_, _, ⟨rfl, rfl⟩, he, sep_imp (fun hh hq => ⟨(y.1, (k', e')), h3, hh, fun _ => none, fun _ => .inr rfl, fun _ _ e => e, fun _ _ e => (by cases e), hq, trivial⟩) hs2, hk⟩
theorem Fn.rdEnd {f : FuncId} {args : Array Value} {r : Nat} (h : ∀ s k e, Fn P f args [rdW r s k e] fun u L => ∃ e1, (e1 = 0 ↔ stW s k e = some []) ∧ u = vint e1 ∧ L = [rdW r s k e1]) (st : Rs) :
    Fn P f args [rdR r st] fun u L => ∃ e1, (e1 = 0 ↔ st = some []) ∧ u = vint e1 ∧ ∃ st', L = [rdR r st'] := by
  intro F w hs
  obtain ⟨h1, h2, hd, a1, a2, ⟨y, hy, hp⟩, hF⟩ := hs
  subst hy
  have hs' : St ([rdW r y.1 y.2.1 y.2.2] ++ F) w := sep_flat ⟨h1, h2, hd, a1, a2, hp, hF⟩
  refine (h _ _ _ F w hs').mono ?_
  rintro e w' ⟨u, L, ⟨e1, h3, rfl, rfl⟩, he, hs2, hk⟩
  refine ⟨_, _, ⟨e1, h3, rfl, _, rfl⟩, he, sep_imp (fun hh hq => ⟨(y.1, (y.2.1, e1)), rfl, hh, fun _ => none, fun _ => .inr rfl, fun _ _ e => e, fun _ _ e => (by cases e), hq, trivial⟩) hs2, hk⟩
theorem rdW_up {r : Nat} {s : Bs} {k : Nat} {e : Int} {h : Hp} (hp : sep [rdW r s k e] h) : rdR r (stW s k e) h := ⟨(s, (k, e)), rfl, hp⟩
theorem G.rdUpF {r : Nat} {s : Bs} {k : Nat} {e : Int} {st : Rs} (hL : Pick (rdW r s k e) L R) (hs : stW s k e = st) (h : G W n ds E (rdR r st :: R) X) : G W n ds E L X := by
  subst hs; exact G.fold (.cons hL .nil) (fun _ hp => rdW_up hp) h
end
theorem slR_mid {b i j c : Nat} {s : Bs} {h : Hp} (hi : i ≤ j) (hj : j ≤ s.length) (hp : bytR (.slice (some ⟨b, 0, none⟩) s.length c) s h) : rdS 1 h (.slice (some (if c = i then ⟨b, 0, none⟩ else ⟨b, 0 + i * 1, none⟩)) (j - i) (c - i)) ((s.take j).drop i).length (((s.take j).drop i).map vbyte) := by
  obtain ⟨⟨rest, fr⟩, h1, h2, h3, h4, h5⟩ := slR_get hp
  have hl : ((s.take j).drop i).length = j - i := by rw [List.length_drop, List.length_take]; omega
  rcases Nat.lt_or_ge i j with g | g
  · refine .inr ⟨b, i, c - i, bysL s ++ rest, 5, fr, ?_, h1, ?_, ?_, by omega⟩
    · rw [if_neg (by omega), hl]; simp
    · rw [hl, Nat.mul_one, List.drop_append_of_le_length (by simp [bysL]; omega), List.take_append_of_le_length (by simp [bysL]; omega)]
      unfold bysL
      rw [← List.map_drop, ← List.map_take, List.drop_take]
    · rw [hl]; simp [bysL]; omega
  · refine .inl ⟨by omega, ?_, ?_⟩
    · rw [List.drop_eq_nil_of_le (by rw [List.length_take]; omega)]; rfl
    · rw [show j - i = 0 by omega]; exact ⟨_, _, rfl⟩
/-! ### Bits -/
theorem u64wrap (x : Int) : IntKind.u64.wrap x = x % 18446744073709551616 := rfl
theorem u8wrap (x : Int) : IntKind.u8.wrap x = x % 256 := rfl
theorem bv8_or : ∀ b : BitVec 8, (b ||| 128#8).toNat = b.toNat % 128 + 128 := by decide +kernel
theorem byte_or (u : Nat) : Value.int .u8 (IntKind.u8.wrap (BitVec.ofInt IntKind.u8.bits (IntKind.u8.wrap (u : Int)) ||| BitVec.ofInt IntKind.u8.bits 128).toNat) = vbyte (UInt8.ofNat (u % 128 + 128)) := by
  show Value.int .u8 _ = Value.int .u8 _
  congr 1
  have h : (BitVec.ofInt 8 (IntKind.u8.wrap (u : Int)) ||| BitVec.ofInt 8 128).toNat = u % 128 + 128 := by
    rw [show BitVec.ofInt 8 128 = 128#8 from rfl, bv8_or, BitVec.toNat_ofInt, u8wrap]
    omega
  show IntKind.u8.wrap ((BitVec.ofInt 8 (IntKind.u8.wrap (u : Int)) ||| BitVec.ofInt 8 128).toNat : Int) = _
  rw [h, u8wrap, u8_ofNat (by omega)]
  omega
theorem byte_low {u : Nat} (h : u < 128) : Value.int .u8 (IntKind.u8.wrap (u : Int)) = vbyte (UInt8.ofNat u) := by
  show Value.int .u8 _ = Value.int .u8 _
  rw [u8wrap, u8_ofNat (by omega)]
  congr 1; omega
theorem zig_bits {n : Int} (h : -9223372036854775808 ≤ n ∧ n ≤ 9223372036854775807) : IntKind.u64.wrap (BitVec.ofInt IntKind.u64.bits (IntKind.u64.wrap (IntKind.u64.wrap n * 2 ^ min (1 : Int).toNat IntKind.u64.bits)) ^^^ BitVec.ofInt IntKind.u64.bits (IntKind.u64.wrap (n.fdiv (2 ^ min (63 : Int).toNat IntKind.i64.bits)))).toNat = (zigZ n : Int) := by
  have e1 : (2 : Int) ^ min (1 : Int).toNat IntKind.u64.bits = 2 := rfl
  have e2 : (2 : Int) ^ min (63 : Int).toNat IntKind.i64.bits = 9223372036854775808 := rfl
  rw [e1, e2, Int.fdiv_eq_ediv_of_nonneg _ (by decide)]
  show IntKind.u64.wrap ((BitVec.ofInt 64 (IntKind.u64.wrap (IntKind.u64.wrap n * 2)) ^^^ BitVec.ofInt 64 (IntKind.u64.wrap (n / 9223372036854775808))).toNat : Int) = _
  unfold zigZ
  by_cases h0 : 0 ≤ n
  · rw [if_pos h0, show n / 9223372036854775808 = 0 by omega, show BitVec.ofInt 64 (IntKind.u64.wrap 0) = 0#64 from rfl, BitVec.xor_zero, BitVec.toNat_ofInt, u64wrap, u64wrap, u64wrap]
    omega
  · rw [if_neg h0, show n / 9223372036854775808 = -1 by omega, show BitVec.ofInt 64 (IntKind.u64.wrap (-1)) = BitVec.allOnes 64 from rfl, BitVec.xor_allOnes, BitVec.toNat_not, BitVec.toNat_ofInt, u64wrap, u64wrap, u64wrap]
    omega
theorem u64_and1 (u : Nat) : IntKind.u64.wrap (BitVec.ofInt IntKind.u64.bits (u : Int) &&& BitVec.ofInt IntKind.u64.bits 1).toNat = ((u % 2 : Nat) : Int) := by
  show IntKind.u64.wrap ((BitVec.ofInt 64 (u : Int) &&& BitVec.ofInt 64 1).toNat : Int) = _
  have h : (BitVec.ofInt 64 (u : Int) &&& BitVec.ofInt 64 1).toNat = u % 2 := by
    rw [BitVec.toNat_and, show (BitVec.ofInt 64 1).toNat = 1 from rfl, Nat.and_one_is_mod, BitVec.toNat_ofInt]
    have e : ((2 ^ 64 : Nat) : Int) = 18446744073709551616 := rfl
    rw [e]; omega
  rw [h, u64wrap]; omega
theorem zag_bits {u : Nat} (h : u < U64) : IntKind.i64.wrap (BitVec.ofInt IntKind.i64.bits (IntKind.i64.wrap ((u : Int).fdiv (2 ^ min (1 : Int).toNat IntKind.u64.bits))) ^^^ BitVec.ofInt IntKind.i64.bits (-((u % 2 : Nat) : Int))).toNat = zagZ u := by
  have e1 : (2 : Int) ^ min (1 : Int).toNat IntKind.u64.bits = 2 := rfl
  have e64 : ((2 ^ 64 : Nat) : Int) = 18446744073709551616 := rfl
  unfold U64 at h
  rw [e1, Int.fdiv_eq_ediv_of_nonneg _ (by decide)]
  show IntKind.i64.wrap ((BitVec.ofInt 64 (IntKind.i64.wrap ((u : Int) / 2)) ^^^ BitVec.ofInt 64 (-((u % 2 : Nat) : Int))).toNat : Int) = _
  have e3 : IntKind.i64.wrap ((u : Int) / 2) = (u : Int) / 2 := i64w (by omega)
  rw [e3]
  unfold zagZ
  by_cases h0 : u % 2 = 0
  · rw [if_pos h0, h0, show BitVec.ofInt 64 (-((0 : Nat) : Int)) = 0#64 from rfl, BitVec.xor_zero, BitVec.toNat_ofInt, wrap64, e64]
    omega
  · rw [if_neg h0, show u % 2 = 1 by omega, show BitVec.ofInt 64 (-((1 : Nat) : Int)) = BitVec.allOnes 64 from rfl, BitVec.xor_allOnes, BitVec.toNat_not, BitVec.toNat_ofInt, wrap64, e64]
    omega
theorem bv8_and : ∀ b : BitVec 8, (b &&& 127#8).toNat = b.toNat % 128 := by decide +kernel
theorem byte_and (c : UInt8) : IntKind.u64.wrap (IntKind.u8.wrap (BitVec.ofInt IntKind.u8.bits (c.toNat : Int) &&& BitVec.ofInt IntKind.u8.bits 127).toNat) = ((c.toNat % 128 : Nat) : Int) := by
  have hc := c.toNat_lt
  have h : (BitVec.ofInt 8 (c.toNat : Int) &&& BitVec.ofInt 8 127).toNat = c.toNat % 128 := by
    rw [show BitVec.ofInt 8 127 = 127#8 from rfl, bv8_and, BitVec.toNat_ofInt]
    have e : ((2 ^ 8 : Nat) : Int) = 256 := rfl
    rw [e]; omega
  show IntKind.u64.wrap (IntKind.u8.wrap ((BitVec.ofInt 8 (c.toNat : Int) &&& BitVec.ofInt 8 127).toNat : Int)) = _
  rw [h, u8wrap, u64wrap]; omega
theorem pow7 (k : Nat) : (2 : Nat) ^ (7 * k) = 128 ^ k := by rw [Nat.pow_mul]
theorem sev_bits {k u x : Nat} (hk : k ≤ 9) (hu : u < 128 ^ k) (hx : x < 128) (h9 : k = 9 → x ≤ 1) :
    IntKind.u64.wrap (BitVec.ofInt IntKind.u64.bits (u : Int) ||| BitVec.ofInt IntKind.u64.bits (IntKind.u64.wrap ((x : Int) * 2 ^ min (7 * (k : Int)).toNat IntKind.u64.bits))).toNat = ((u + x * 128 ^ k : Nat) : Int) := by
  have em : min (7 * (k : Int)).toNat IntKind.u64.bits = 7 * k := by
    have : IntKind.u64.bits = 64 := rfl
    omega
  have hb : x * 128 ^ k < 18446744073709551616 := by
    rcases Nat.lt_or_ge k 9 with g | g
    · have h4 : 128 ^ k ≤ 128 ^ 8 := Nat.pow_le_pow_right (by decide) (by omega)
      have e8 : (128 : Nat) ^ 8 = 72057594037927936 := by decide
      have : x * 128 ^ k ≤ 127 * 128 ^ 8 := Nat.mul_le_mul (by omega) h4
      omega
    · have : k = 9 := by omega
      subst this
      have := h9 rfl
      have e9 : (128 : Nat) ^ 9 = 9223372036854775808 := by decide
      have : x * 128 ^ 9 ≤ 1 * 128 ^ 9 := Nat.mul_le_mul_right _ (by omega)
      omega
  have hu64 : u < 18446744073709551616 := by
    have h4 : 128 ^ k ≤ 128 ^ 9 := Nat.pow_le_pow_right (by decide) hk
    have e9 : (128 : Nat) ^ 9 = 9223372036854775808 := by decide
    omega
  have hs : u + x * 128 ^ k < 18446744073709551616 := by
    rcases Nat.lt_or_ge k 9 with g | g
    · have h4 : 128 ^ (k + 1) ≤ 128 ^ 9 := Nat.pow_le_pow_right (by decide) (by omega)
      have e9 : (128 : Nat) ^ 9 = 9223372036854775808 := by decide
      have : x * 128 ^ k ≤ 127 * 128 ^ k := Nat.mul_le_mul_right _ (by omega)
      rw [Nat.pow_succ] at h4
      omega
    · have : k = 9 := by omega
      subst this
      have := h9 rfl
      have e9 : (128 : Nat) ^ 9 = 9223372036854775808 := by decide
      have : x * 128 ^ 9 ≤ 1 * 128 ^ 9 := Nat.mul_le_mul_right _ (by omega)
      omega
  rw [em]
  have e2 : (x : Int) * 2 ^ (7 * k) = ((x * 128 ^ k : Nat) : Int) := by
    rw [← pow7]; simp
  have e4 : IntKind.u64.wrap ((x * 128 ^ k : Nat) : Int) = ((x * 128 ^ k : Nat) : Int) := by rw [u64wrap]; exact Int.emod_eq_of_lt (by omega) (by omega)
  rw [e2, e4]
  show IntKind.u64.wrap ((BitVec.ofInt 64 (u : Int) ||| BitVec.ofInt 64 ((x * 128 ^ k : Nat) : Int)).toNat : Int) = _
  have e3 : (BitVec.ofInt 64 (u : Int) ||| BitVec.ofInt 64 ((x * 128 ^ k : Nat) : Int)).toNat = u + x * 128 ^ k := by
    have e64 : ((2 ^ 64 : Nat) : Int) = 18446744073709551616 := rfl
    have f1 : (BitVec.ofInt 64 (u : Int)).toNat = u := by rw [BitVec.toNat_ofInt, e64]; omega
    have f2 : (BitVec.ofInt 64 ((x * 128 ^ k : Nat) : Int)).toNat = x * 128 ^ k := by rw [BitVec.toNat_ofInt, e64]; omega
    rw [BitVec.toNat_or, f1, f2, Nat.or_comm, ← pow7, ← Nat.shiftLeft_eq, ← Nat.shiftLeft_add_eq_or_of_lt (by rw [pow7]; exact hu), Nat.add_comm]
  rw [e3, u64wrap]
  omega
end Go.Proofs.YtidjhgbdokcphaaGreat

/- Own work: structs that are compared, and structs as keys of maps. -/

namespace Go.Proofs.YtidjhgbdokcphaaGreat
open Go

def FEq (P : Program) (d : Nat) (xs ys : Array Value) (f : Field) (r : Bool) : Prop :=
  f.name ≠ "_" ∧ ∀ w, ∃ a b, (part f.type xs f.offset).run P w = .ok a w ∧ (part f.type ys f.offset).run P w = .ok b w ∧ (Op.equalIn d f.type a b).run P w = .ok r w
inductive FEqs (P : Program) (d : Nat) (xs ys : Array Value) : List Field → List Bool → Prop
  | nil : FEqs P d xs ys [] []
  | cons {f fs r rs} : FEq P d xs ys f r → FEqs P d xs ys fs rs → FEqs P d xs ys (f :: fs) (r :: rs)
section parts
variable {P : Program} {w : World}
end parts
section
variable {P : Program} {E : Env} {L R : List HP} {ty : TypeId} {w : World}
end
/-! ### Structs of bigger parts -/
def placesN (P : Program) (fs : Array Field) : Option (List (Nat × Nat)) := fs.toList.mapM fun f => (P.info? f.type).map fun i => (f.offset, i.size)
theorem mapM_placesN {P : Program} {fs : Array Field} {pl : List (Nat × Nat)} (h : placesN P fs = some pl) (w : World) : (fs.mapM (m := Sem) fun f => do pure (f.offset, ← sizeOf f.type)).run P w = .ok pl.toArray w := by
  have key : ∀ (l : List Field) (pl : List (Nat × Nat)), (l.mapM fun f => (P.info? f.type).map fun i => (f.offset, i.size)) = some pl → (l.mapM (m := Sem) fun f => do pure (f.offset, ← sizeOf f.type)).run P w = .ok pl w := by
    intro l
    induction l with
    | nil => intro pl h; simp at h; subst h; rfl
    | cons f l ih =>
      intro pl h
      rw [List.mapM_cons] at h
      simp only [bind, Option.bind_eq_some_iff, pure, Option.some.injEq, Option.map_eq_some_iff] at h
      obtain ⟨a, ⟨i, hi, rfl⟩, bs, hb, rfl⟩ := h
      rw [List.mapM_cons]
      have h2 : sizeOf' P f.type = some i.size := by unfold sizeOf'; rw [hi]; rfl
      rw [run_bind (a := (f.offset, i.size)) (w' := w) (by rw [run_bind (run_sizeOf h2)]; rfl), run_bind (ih bs hb)]
      rfl
  have hm : (fs.mapM (m := Sem) fun f => do pure (f.offset, ← sizeOf f.type)) = (Functor.map List.toArray (fs.toList.mapM (m := Sem) fun f => do pure (f.offset, ← sizeOf f.type))) := by
    rw [Array.mapM_eq_mapM_toList]
  rw [hm]
  rw [show (Functor.map List.toArray (fs.toList.mapM (m := Sem) fun f => do pure (f.offset, ← sizeOf f.type)) : Sem _) = ((fs.toList.mapM (m := Sem) fun f => do pure (f.offset, ← sizeOf f.type)) >>= fun l => pure l.toArray) from rfl]
  rw [run_bind (key _ _ h)]
  rfl
theorem Quiet.buildN {P : Program} {E : Env} {L : List HP} {ty : TypeId} {t : TypeId} {parts : Array (Nat × Operand)} {fs : Array Field} {pl : List (Nat × Nat)} {zl cells : List Value} {us : List (Nat × Value)} (hus : P.underlying t = some (.struct fs)) (hpl : placesN P fs = some pl) (hz : zeroOf P t = some (.agg zl.toArray))
    (hu : parts.toList.map (fun p => (p.1, ev E p.2)) = us.map (fun p => (p.1, some p.2))) (hfill : Instr.fill (fun i => pl.toArray[i]?) zl.toArray us = some cells.toArray) : Quiet P ⟨none, .build t parts, ty, "", #[], none⟩ E L (.agg cells.toArray) := by
  intro ρ w ha _
  refine run_v ?_
  show (Instr.build t (parts.map fun p => (p.1, ρ p.2))).run P w = _
  unfold Instr.build
  rw [run_bind (run_zero hz)]
  dsimp only
  rw [run_bind (run_underlying hus)]
  dsimp only
  rw [run_bind (mapM_placesN hpl w)]
  have hparts : (parts.map fun p => (p.1, ρ p.2)).toList = us := by
    rw [Array.toList_map]; exact agree_parts ha _ _ hu
  rw [hparts]
  rw [show Value.cells (.agg zl.toArray) = zl.toArray from rfl, hfill]
  rfl
/-! ### Keys -/
end Go.Proofs.YtidjhgbdokcphaaGreat

/- Own work, by program: package codec: walked. -/
namespace Go.Proofs.YtidjhgbdokcphaaGreat
open Go
theorem cnew_spec : Fn Tryz.prog 101 #[] [] fun v L => ∃ w, v = vptr w ∧ L = [wrR w []] := by
 refine Fn.intro (vs := []) Tryz.func101 rfl rfl ?_
 intro F W
 refine G.seq (G.region (G.ag rfl rfl (G.nil (G.then_n (G.seq (G.region ?_))))))
 refine G.q (Quiet.to (v' := .agg [.slice none 0 0, vint 0].toArray) (Quiet.buildN (pl := [(0, 2)]) (us := []) (cells := [.slice none 0 0, vint 0]) Tryz.underlying188 (by kernel_rfl) ze_188 rfl rfl) rfl) rfl ?_
 refine G.oq (OpSpec.box rfl) ?nx3
 rintro v L' ⟨w, rfl, rfl⟩
 refine G.ag rfl rfl (G.nil (G.then_n (G.ret (G.add (slR_nil 5 1) ?_))))
 refine G.wrFold (w := w) [] (a := none) (c := 0) (m := 0) (by (repeat' constructor)) rfl rfl rfl ?_
 exact G.dn (l := [.tmp 0]) rfl rfl ⟨w, rfl, rfl⟩

theorem cput_spec (w : Nat) (bs cs : Bs) (va : Value) (p : HP) (hp : ∀ h : Hp, p h → rdS 1 h va cs.length (bysL cs)) (hl : bs.length + cs.length ≤ 4294967296) : Fn Tryz.prog 188 #[vptr w, va] [wrR w bs, p] fun v L => v = .tuple #[] ∧ L = [wrR w (bs ++ cs), p] := by
 refine Fn.intro (vs := [vptr w, va]) Tryz.func188 rfl rfl ?_
 intro F W
 refine G.wrOpen (by (repeat' constructor)) fun wa wc => ?_
 refine G.region (G.mv rfl rfl (G.mv rfl rfl (G.q (Quiet.nilp rfl) rfl (G.q (Quiet.fieldAddr rfl fo_186_0) rfl ?_))))
 refine G.q (Quiet.ld rfl ag_125) rfl ?_
 refine G.mv rfl rfl ?_
 refine G.oq (OpSpec.append (n := bs.length) (m := cs.length) (ys := bysL cs) (p := p) rfl rfl rfl el_125 (.inl ⟨_, Tryz.underlying125⟩) ze_5 rfl rfl ?hc7 hp ?hb8 (by decide)) ?nx9
 case hc7 => exact bysL_cell _
 case hb8 => omega
 rintro v L' ⟨⟨a6, c6, rfl⟩, rfl⟩
 refine G.q (Quiet.nilp rfl) rfl (G.q (Quiet.fieldAddr rfl fo_186_0) rfl ?_)
 refine G.oq (OpSpec.store rfl rfl rfl sz_125 ?c13 ?c14) ?nx15
 case c13 => first | decide | (simp; omega) | simp
 case c14 => exact nfz0 _ _
 rintro v L' rfl
 refine G.nil (G.done_n ?_)
 refine G.wrFold (w := w) (bs ++ cs) (a := a6) (c := c6) (by (repeat' constructor)) (by rfl) (by simp) (by rw [bysL_append]) ?_
 exact G.dn (l := []) rfl rfl ⟨rfl, rfl⟩

theorem sev_step {u : Nat} (h : 127 < u) (bs : Bs) : bs ++ [UInt8.ofNat (u % 128 + 128)] ++ sevZ (u / 128) = bs ++ sevZ u := by
  rw [sevZ.eq_1 u, if_neg (by omega), List.append_assoc]; rfl
theorem sev_last {u : Nat} (h : ¬ 127 < u) (bs : Bs) : bs ++ [UInt8.ofNat u] = bs ++ sevZ u := by
  rw [sevZ.eq_1 u, if_pos (by omega)]
theorem shr7 (u : Nat) : Value.int .u64 ((u : Int).fdiv (2 ^ min (7 : Int).toNat IntKind.u64.bits)) = .int .u64 ((u / 128 : Nat) : Int) := by
  have e1 : (2 : Int) ^ min (7 : Int).toNat IntKind.u64.bits = 128 := rfl
  rw [e1, Int.fdiv_eq_ediv_of_nonneg _ (by decide)]; rfl
theorem csevens_spec (w : Nat) (bs0 : Bs) (u0 : Nat) (hu : u0 < U64) (hl : bs0.length ≤ 4294967200) : Fn Tryz.prog 152 #[vptr w, .int .u64 u0] [wrR w bs0] fun v L => v = .tuple #[] ∧ L = [wrR w (bs0 ++ sevZ u0)] := by
 refine Fn.intro (vs := [vptr w, .int .u64 u0]) Tryz.func152 rfl rfl ?_
 intro F W
 have hs10 := sev_len10 hu
 refine G.seq (G.block ?_)
 refine G.loopK (ι := Nat × Bs) (fun q E => (1, .int .u64 q.1) :: E) (fun q => [wrR w q.2]) (fun q => q.1 ≤ u0 ∧ q.2 ++ sevZ q.1 = bs0 ++ sevZ u0) (fun q => q.1) (u0, bs0) (ts := [0]) (.cons rfl (.nil)) (⟨Nat.le_refl _, rfl⟩) ⟨rfl, rfl, trivial⟩ (by (repeat' constructor)) ?_
 rintro ⟨u, bs⟩ ⟨hu0, heq⟩
 dsimp only
 dsimp only at hu0 heq
 have hbl := congrArg List.length heq
 simp only [List.length_append] at hbl
 have hsl := sev_len u
 refine G.seq (G.seq (G.region (G.mv rfl rfl (G.q (Quiet.int rfl rfl rfl) rfl (G.nil (G.then_n ?_))))))
 refine G.condD rfl (fun h5 => ?_) (fun h5 => ?_)
 ·have h127 : 127 < u := by omega
  refine G.skip (G.then_n (G.seq (G.block (G.region (G.mv rfl rfl (G.q (Quiet.nilp rfl) rfl (G.q (Quiet.fieldAddr rfl fo_188_0) rfl (G.mv rfl rfl (G.q (Quiet.conv rfl Tryz.underlying190 Tryz.underlying5) rfl ?_)))))))))
  refine G.q (Quiet.as (v' := vbyte (UInt8.ofNat (u % 128 + 128))) (by exact byte_or u) (Quiet.or rfl rfl)) rfl ?_
  refine G.oq (OpSpec.buildSlice1 (vs := [_]) el_125 ze_5 rfl rfl rfl rfl rfl (by decide)) ?nx9
  rintro v L' ⟨b2, rfl, rfl⟩
  refine G.slMake (b := b2) (n := 1) (c := 1) (xs := [vbyte (UInt8.ofNat (u % 128 + 128))]) (by (repeat' constructor)) (by decide) (by simp) rfl ?_
  refine G.oq (OpSpec.call Tryz.func188 rfl rfl (vs := [_, _]) rfl (cput_spec w bs [(UInt8.ofNat (u % 128 + 128))] _ (slR 5 1 (.slice (some ⟨b2, 0, none⟩) 1 1) 1 [vbyte (UInt8.ofNat (u % 128 + 128))]) (fun h hp => slR_rd hp) (by simp; omega))) ?nx11
  rintro v L' ⟨rfl, rfl⟩
  refine G.nil (G.blk_n (G.then_n (G.region (G.mv rfl rfl ?_))))
  refine G.q (Quiet.as (v' := .int .u64 ((u / 128 : Nat) : Int)) (by exact shr7 u) (Quiet.shr rfl rfl (by first | decide | omega))) rfl ?_
  refine G.ag rfl rfl (G.nil (G.then_n ?_))
  exact G.roundK ((u / 128, bs ++ [(UInt8.ofNat (u % 128 + 128))])) (⟨by dsimp only; omega, by dsimp only; rw [sev_step (by omega)]; exact heq⟩) (by dsimp only; omega) ⟨rfl, rfl, trivial⟩ (by (repeat' constructor)) (by ((repeat (apply Have.cons; (repeat (first | exact Pick.here | apply Pick.there)))); apply Have.base; repeat' constructor))
 ·have h127 : ¬ 127 < u := by omega
  refine G.exit (G.then_e (G.then_e (G.blk_e (G.then_n (G.region (G.mv rfl rfl (G.q (Quiet.nilp rfl) rfl (G.q (Quiet.fieldAddr rfl fo_188_0) rfl (G.mv rfl rfl ?_)))))))))
  refine G.q (Quiet.as (v' := vbyte (UInt8.ofNat u)) (by exact byte_low (by omega)) (Quiet.conv rfl Tryz.underlying190 Tryz.underlying5)) rfl ?_
  refine G.oq (OpSpec.buildSlice1 (vs := [_]) el_125 ze_5 rfl rfl rfl rfl rfl (by decide)) ?nx20
  rintro v L' ⟨b3, rfl, rfl⟩
  refine G.slMake (b := b3) (n := 1) (c := 1) (xs := [vbyte (UInt8.ofNat u)]) (by (repeat' constructor)) (by decide) (by simp) rfl ?_
  refine G.oq (OpSpec.call Tryz.func188 rfl rfl (vs := [_, _]) rfl (cput_spec w bs [(UInt8.ofNat u)] _ (slR 5 1 (.slice (some ⟨b3, 0, none⟩) 1 1) 1 [vbyte (UInt8.ofNat u)]) (fun h hp => slR_rd hp) (by simp; omega))) ?nx22
  rintro v L' ⟨rfl, rfl⟩
  refine G.nil (G.done_n ?_)
  rw [sev_last h127, heq]
  exact G.dn (l := []) rfl rfl ⟨rfl, rfl⟩

theorem cnum_spec (w : Nat) (bs : Bs) (n : Int) (hn : -9223372036854775808 ≤ n ∧ n ≤ 9223372036854775807) (hl : bs.length ≤ 4294967200) : Fn Tryz.prog 102 #[vptr w, vint n] [wrR w bs] fun v L => v = .tuple #[] ∧ L = [wrR w (bs ++ numB n)] := by
 refine Fn.intro (vs := [vptr w, vint n]) Tryz.func102 rfl rfl ?_
 intro F W
 have hz := zig_lt hn
 refine G.region (G.mv rfl rfl (G.mv rfl rfl (G.q (Quiet.conv rfl Tryz.underlying3 Tryz.underlying190) rfl ?_)))
 refine G.q (Quiet.shl rfl rfl (by first | decide | omega)) rfl ?_
 refine G.mv rfl rfl ?_
 refine G.q (Quiet.shr rfl rfl (by first | decide | omega)) rfl ?_
 refine G.q (Quiet.conv rfl Tryz.underlying3 Tryz.underlying190) rfl ?_
 refine G.q (Quiet.as (v' := .int .u64 (zigZ n : Nat)) (by exact congrArg (Value.int .u64) (zig_bits hn)) (Quiet.xor rfl rfl)) rfl ?_
 refine G.oq (OpSpec.call Tryz.func152 rfl rfl (vs := [_, _]) rfl (csevens_spec _ _ _ ?hu9 ?hl10)) ?nx11
 case hu9 => assumption
 case hl10 => omega
 rintro v L' ⟨rfl, rfl⟩
 refine G.nil (G.done_n ?_)
 exact G.dn (l := []) rfl rfl ⟨rfl, rfl⟩

theorem ccount_spec (w : Nat) (bs : Bs) (n : Nat) (hn : n ≤ 4294967296) (hl : bs.length ≤ 4294967200) : Fn Tryz.prog 103 #[vptr w, vint n] [wrR w bs] fun v L => v = .tuple #[] ∧ L = [wrR w (bs ++ cntB n)] := by
 refine Fn.intro (vs := [vptr w, vint n]) Tryz.func103 rfl rfl ?_
 intro F W
 have hz : n < U64 := by unfold U64; omega
 refine G.region (G.mv rfl rfl (G.mv rfl rfl (G.q (Quiet.max2 rfl rfl) rfl ?_)))
 refine G.q (Quiet.as (v' := .int .u64 (n : Nat)) (by exact congrArg (Value.int .u64) (by rw [u64wrap]; omega)) (Quiet.conv rfl Tryz.underlying3 Tryz.underlying190)) rfl ?_
 refine G.oq (OpSpec.call Tryz.func152 rfl rfl (vs := [_, _]) rfl (csevens_spec _ _ _ ?hu5 ?hl6)) ?nx7
 case hu5 => assumption
 case hl6 => omega
 rintro v L' ⟨rfl, rfl⟩
 refine G.nil (G.done_n ?_)
 exact G.dn (l := []) rfl rfl ⟨rfl, rfl⟩

theorem ctext_spec (w : Nat) (bs s : Bs) (hl : bs.length + s.length ≤ 4294967000) : Fn Tryz.prog 209 #[vptr w, vstr s] [wrR w bs] fun v L => v = .tuple #[] ∧ L = [wrR w (bs ++ txtB s)] := by
 refine Fn.intro (vs := [vptr w, vstr s]) Tryz.func209 rfl rfl ?_
 intro F W
 have hc : (cntB s.length).length ≤ 10 := sev_len10 (by unfold U64; omega)
 refine G.seq (G.region (G.mv rfl rfl (G.mv rfl rfl (G.q (Quiet.strlen rfl Tryz.underlying9 rfl) rfl ?_))))
 refine G.oq (OpSpec.call Tryz.func103 rfl rfl (vs := [_, _]) rfl (ccount_spec _ _ _ ?hn4 ?hb5)) ?nx6
 case hn4 => first | assumption | omega
 case hb5 => omega
 rintro v L' ⟨rfl, rfl⟩
 refine G.nil (G.then_n (G.region (G.mv rfl rfl (G.q (Quiet.nilp rfl) rfl (G.q (Quiet.fieldAddr rfl fo_188_0) rfl (G.mv rfl rfl ?_))))))
 refine G.oq (OpSpec.strBytes rfl Tryz.underlying9 Tryz.underlying125 Tryz.underlying5) ?nx12
 rintro v L' ⟨rfl, b8, c8, rfl⟩
 refine G.oq (OpSpec.call Tryz.func188 rfl rfl (vs := [_, _]) rfl (cput_spec w (bs ++ cntB s.length) s _ (slR 5 1 (.slice (some ⟨b8, 0, none⟩) s.length c8) s.length (s.map vbyte)) (fun h hp => slR_rd hp) (by simp; omega))) ?nx14
 rintro v L' ⟨rfl, rfl⟩
 refine G.nil (G.done_n ?_)
 rw [List.append_assoc]
 exact G.dn (l := []) rfl rfl ⟨rfl, rfl⟩

theorem cbytes_spec (w : Nat) (bs : Bs) : Fn Tryz.prog 104 #[vptr w] [wrR w bs] fun v L => v = vstr bs ∧ L = [wrR w bs] := by
 refine Fn.intro (vs := [vptr w]) Tryz.func104 rfl rfl ?_
 intro F W
 refine G.wrOpen (by (repeat' constructor)) fun wa wc => ?_
 refine G.seq (G.region (G.ag rfl rfl (G.nil (G.then_n (G.seq (G.region (G.mv rfl rfl (G.q (Quiet.nilp rfl) rfl (G.q (Quiet.fieldAddr rfl fo_188_0) rfl (G.q (Quiet.fieldAddr rfl fo_186_0) rfl ?_))))))))))
 refine G.q (Quiet.ld rfl ag_125) rfl ?_
 refine G.q (Quiet.bytesBy (cs := bs) (n := bs.length) (p := bytR (.slice wa bs.length wc) bs) rfl Tryz.underlying125 Tryz.underlying5 Tryz.underlying9 (fun h hp => slR_rd hp) (by (repeat' constructor))) rfl ?_
 refine G.ag rfl rfl (G.nil (G.then_n (G.ret ?_)))
 refine G.wrFold (w := w) bs (by (repeat' constructor)) rfl rfl rfl ?_
 exact G.dn (l := [.tmp 2]) rfl rfl ⟨rfl, rfl⟩

theorem rleft_spec (r : Nat) (s : Bs) (k : Nat) (e : Int) : Fn Tryz.prog 162 #[vptr r] [rdW r s k e] fun v L => v = vint ((s.length : Int) - k) ∧ L = [rdW r s k e] := by
 refine Fn.intro (vs := [vptr r]) Tryz.func162 rfl rfl ?_
 intro F W
 refine G.rdOpen (by (repeat' constructor)) fun ra rc hkl hsz => ?_
 refine G.seq (G.region (G.ag rfl rfl (G.nil (G.then_n (G.seq ?_)))))
 refine G.draw [] [[0, 1, 2, 3, 4, 5, 6, 7, 8, 9, 10]] mixed (by kernel_rfl) ?_
 refine Phases.go [] (by (repeat' constructor)) ?_
 refine D.kw [1, 2, 3, 4, 9, 10] rfl (Quiet.move rfl) ?_
 refine D.kw [2, 3, 4, 9, 10] rfl (Quiet.nilp rfl) ?_
 refine D.kw [3, 4, 9, 10] rfl (Quiet.fieldAddr rfl fo_186_0) ?_
 refine D.kw [4, 9, 10] rfl (Quiet.ld rfl ag_125) ?_
 refine D.kw [9, 10] rfl (Quiet.slen rfl Tryz.underlying125 rfl) ?_
 refine D.kw [6, 7, 8, 9, 10] rfl (Quiet.move rfl) ?_
 refine D.kw [7, 8, 9, 10] rfl (Quiet.nilp rfl) ?_
 refine D.kw [8, 9, 10] rfl (Quiet.fieldAddr rfl fo_186_1) ?_
 refine D.kw [9, 10] rfl (Quiet.ld rfl ag_3) ?_
 refine D.kw [10] rfl (Quiet.sub rfl rfl (by omega)) ?_
 refine D.kw [] rfl (Quiet.assign rfl) ?_
 refine D.ph (Phases.fin (G.then_n (G.ret ?_)))
 refine G.rdFold (r := r) s (k) (e) (by (repeat' constructor)) (by first | rfl | (simp only [List.set]; congr; omega)) (by omega) hsz ?_
 exact G.dn (l := [.tmp 2]) rfl rfl ⟨rfl, rfl⟩

theorem rfails_spec (r : Nat) (s : Bs) (k : Nat) (e e' : Int) : Fn Tryz.prog 161 #[vptr r, vint e'] [rdW r s k e] fun v L => v = .tuple #[] ∧ L = [rdW r s k (if e = 0 then e' else e)] := by
 refine Fn.intro (vs := [vptr r, vint e']) Tryz.func161 rfl rfl ?_
 intro F W
 refine G.rdOpen (by (repeat' constructor)) fun ra rc hkl hsz => ?_
 refine G.seq (G.region (G.mv rfl rfl (G.q (Quiet.nilp rfl) rfl (G.q (Quiet.fieldAddr rfl fo_200_1) rfl ?_))))
 refine G.q (Quiet.ld rfl ag_25) rfl ?_
 refine G.q (Quiet.int rfl rfl rfl) rfl (G.nil (G.then_n ?_))
 refine G.condD rfl (fun h8 => ?_) (fun h8 => ?_)
 ·refine G.region (G.mv rfl rfl (G.mv rfl rfl (G.q (Quiet.nilp rfl) rfl (G.q (Quiet.fieldAddr rfl fo_200_1) rfl ?_))))
  refine G.oq (OpSpec.store rfl rfl rfl sz_25 ?c10 ?c11) ?nx12
  case c10 => first | decide | (simp; omega) | simp
  case c11 => exact nfz0 _ _
  rintro v L' rfl
  refine G.nil (G.done_n ?_)
  refine G.rdFold (r := r) s (k) (if e = 0 then e' else e) (by (repeat' constructor)) (by rw [if_pos h8]; rfl) (by omega) hsz ?_
  exact G.dn (l := []) rfl rfl ⟨rfl, rfl⟩
 ·refine G.skip (G.done_n ?_)
  refine G.rdFold (r := r) s (k) (if e = 0 then e' else e) (by (repeat' constructor)) (by rw [if_neg h8]) (by omega) hsz ?_
  exact G.dn (l := []) rfl rfl ⟨rfl, rfl⟩

theorem rfail_spec (r : Nat) (s : Bs) (k : Nat) (e : Int) : Fn Tryz.prog 163 #[vptr r] [rdW r s k e] fun v L => v = .tuple #[] ∧ L = [rdW r s k (if e = 0 then 11 else e)] := by
 refine Fn.intro (vs := [vptr r]) Tryz.func163 rfl rfl ?_
 intro F W
 refine G.region (G.mv rfl rfl ?_)
 refine G.oq (OpSpec.call Tryz.func161 rfl rfl (vs := [_, _]) rfl (rfails_spec _ _ _ _ _)) ?nx2
 rintro v L' ⟨rfl, rfl⟩
 refine G.nil (G.done_n ?_)
 exact G.dn (l := []) rfl rfl ⟨rfl, rfl⟩

def SevA (s : Bs) (k : Nat) (e : Int) (u m : Nat) (e' : Int) : Prop :=
  ((e ≠ 0 ∨ sevP 0 0 (s.drop k) = none) ∧ u = 0 ∧ m = 0 ∧ e' ≠ 0) ∨ (e = 0 ∧ e' = 0 ∧ k + m ≤ s.length ∧ sevP 0 0 (s.drop k) = some (u, s.drop (k + m)))
def badB (k : Nat) (c : UInt8) : Prop := (k = 9 ∧ 1 < c.toNat) ∨ (c.toNat = 0 ∧ 0 < k)
instance (k : Nat) (c : UInt8) : Decidable (badB k c) := inferInstanceAs (Decidable (_ ∨ _))
theorem sevP_at {s : Bs} {k j u : Nat} (h : k + j < s.length) : sevP j u (s.drop (k + j)) = if badB j s[k + j] then none else if s[k + j].toNat < 128 then some (u + s[k + j].toNat % 128 * 128 ^ j, s.drop (k + j + 1)) else sevP (j + 1) (u + s[k + j].toNat % 128 * 128 ^ j) (s.drop (k + j + 1)) := by
  rw [List.drop_eq_getElem_cons h]
  conv => lhs; unfold sevP
  rfl
theorem sevP_out {s : Bs} {k j u : Nat} (h : s.length ≤ k + j) : sevP j u (s.drop (k + j)) = none := by
  rw [List.drop_eq_nil_of_le h]; unfold sevP; rfl
theorem rsevens_spec (r : Nat) (s : Bs) (k : Nat) (e : Int) : Fn Tryz.prog 160 #[vptr r] [rdW r s k e] fun v L => ∃ u m e', SevA s k e u m e' ∧ v = .tuple #[.int .u64 (u : Nat), vint (m : Nat)] ∧ L = [rdW r s k e'] := by
 refine Fn.intro (vs := [vptr r]) Tryz.func160 rfl rfl ?_
 intro F W
 refine G.rdOpen (by (repeat' constructor)) fun ra rc hkl hsz => ?_
 refine G.seq (G.region (G.ag rfl rfl (G.ag rfl rfl (G.nil (G.then_n (G.seq (G.seq (G.region ?_))))))))
 rcases Decidable.em (e = 0) with he0 | he0
 ·subst he0
  refine G.mv rfl rfl (G.q (Quiet.nilp rfl) rfl (G.q (Quiet.fieldAddr rfl fo_200_1) rfl ?_))
  refine G.q (Quiet.ld rfl ag_25) rfl ?_
  refine G.q (Quiet.as (v' := .bool false) (by rfl) (Quiet.int rfl rfl rfl)) rfl ?_
  refine G.nil (G.then_n (G.condF rfl (G.skip (G.then_n (G.seq (G.region (G.ag rfl rfl (G.nil (G.then_n (G.seq (G.seq (G.region (G.mv rfl rfl (G.q (Quiet.nilp rfl) rfl (G.q (Quiet.fieldAddr rfl fo_200_0) rfl ?_)))))))))))))))
  refine G.rdFold (r := r) s (k) (0) (by (repeat' constructor)) (by first | rfl | (simp only [List.set]; congr; omega)) (by omega) hsz ?_
  refine G.oq (OpSpec.call Tryz.func162 rfl rfl (vs := [_]) rfl (rleft_spec r s k 0)) ?nx12
  rintro v L' ⟨rfl, rfl⟩
  refine G.mv rfl rfl (G.nil ?_)
  refine G.rdOpen (by (repeat' constructor)) fun ra1 rc1 _ _ => ?_
  refine G.then_n (G.block ?_)
  refine G.loopK (ι := Nat × Nat) (fun q E => (16, vint q.1) :: (4, .int .u64 q.2) :: E) (fun q => []) (fun q => k + q.1 ≤ s.length ∧ q.1 ≤ 9 ∧ q.2 < 128 ^ q.1 ∧ sevP q.1 q.2 (s.drop (k + q.1)) = sevP 0 0 (s.drop k)) (fun q => s.length - q.1) (0, 0) (ts := [0, 15]) (.cons rfl (.cons rfl (.nil))) (⟨by dsimp only; omega, by dsimp only; omega, by dsimp only; decide, rfl⟩) ⟨rfl, rfl, rfl, rfl, trivial⟩ (by (repeat' constructor)) ?_
  rintro ⟨j, u⟩ ⟨hj, hj9, huj, hsv⟩
  dsimp only
  dsimp only at hj hj9 huj hsv
  refine G.seq (G.region (G.q (Quiet.int rfl rfl rfl) rfl (G.nil (G.then_n (G.seq ?_)))))
  refine G.condD rfl (fun h17 => ?_) (fun h17 => ?_)
  ·have hlt : k + j < s.length := by omega
   have hxl := s[k + j].toNat_lt
   refine G.skip (G.then_n (G.seq (G.block (G.seq (G.region (G.mv rfl rfl (G.ag rfl rfl (G.nil (G.then_n (G.seq ?_))))))))))
   refine G.draw [] [[0, 1, 2, 3, 4, 5, 6, 7, 8, 9, 10, 11, 12, 13, 14]] mixed (by kernel_rfl) ?_
   refine Phases.go [] (by (repeat' constructor)) ?_
   refine D.kw [1, 2, 3, 4, 12, 13, 14] rfl (Quiet.move rfl) ?_
   refine D.kw [2, 3, 4, 12, 13, 14] rfl (Quiet.nilp rfl) ?_
   refine D.kw [3, 4, 12, 13, 14] rfl (Quiet.fieldAddr rfl fo_200_0) ?_
   refine D.kw [4, 12, 13, 14] rfl (Quiet.fieldAddr rfl fo_186_0) ?_
   refine D.kw [12, 13, 14] rfl (Quiet.ld rfl ag_125) ?_
   refine D.kw [6, 7, 8, 9, 11, 12, 13, 14] rfl (Quiet.move rfl) ?_
   refine D.kw [7, 8, 9, 11, 12, 13, 14] rfl (Quiet.nilp rfl) ?_
   refine D.kw [8, 9, 11, 12, 13, 14] rfl (Quiet.fieldAddr rfl fo_200_0) ?_
   refine D.kw [9, 11, 12, 13, 14] rfl (Quiet.fieldAddr rfl fo_186_1) ?_
   refine D.kw [11, 12, 13, 14] rfl (Quiet.ld rfl ag_3) ?_
   refine D.kw [11, 12, 13, 14] rfl (Quiet.move rfl) ?_
   refine D.kw [12, 13, 14] rfl (Quiet.add rfl rfl (by omega)) ?_
   refine D.kw [13, 14] rfl (Quiet.indexAddr rfl rfl el_125 (by omega)) ?_
   refine D.kw [14] rfl (Quiet.loadRd (sz := 1) (j := k + j) (p := bytR (.slice _ s.length _) s) (v := vbyte s[k + j]) rfl ag_5 (by (repeat' constructor)) (fun h hp => slR_rd hp) (by omega) (by simp [bysL, List.getElem?_eq_getElem hlt])) ?_
   refine D.kw [] rfl (Quiet.assign rfl) ?_
   refine D.ph (Phases.fin (G.then_n (G.seq (G.seq ?_))))
   refine G.joinK (ι := Bool) (fun q E => (46, .bool q) :: E) (fun q => []) (fun q => q = decide (badB j s[k + j])) (pre := []) (ts := [0, 4, 5, 6, 15, 16, 17, 18, 19, 20, 21, 22, 23, 24, 25, 26, 27, 28, 29, 30, 31, 32]) (.cons rfl (.cons rfl (.cons rfl (.cons rfl (.cons rfl (.cons rfl (.cons rfl (.cons rfl (.cons rfl (.cons rfl (.cons rfl (.cons rfl (.cons rfl (.cons rfl (.cons rfl (.cons rfl (.cons rfl (.cons rfl (.cons rfl (.cons rfl (.cons rfl (.cons rfl (.nil))))))))))))))))))))))) (by (repeat' constructor)) ?_ ?_
   ·refine G.region (G.mv rfl rfl (G.q (Quiet.int rfl rfl rfl) rfl (G.mv rfl rfl ?_)))
    refine G.dec (t := 35) rfl (fun h8_35 => ?_) (fun h8_35 => ?_)
    ·refine G.kDT (t := 34) rfl h8_35 (G.grun (t := 35) rfl rfl rfl (G.mv rfl rfl (G.grun (t := 35) rfl rfl rfl (G.q (Quiet.int rfl rfl rfl) rfl (G.q (Quiet.pickT rfl rfl) rfl (G.mv rfl rfl ?_))))))
     refine G.dec (t := 39) rfl (fun h8_39 => ?_) (fun h8_39 => ?_)
     ·refine G.kDT (t := 37) rfl h8_39 (G.kDT (t := 38) rfl h8_39 (G.gskip (t := 39) rfl rfl rfl rfl (G.gskip (t := 39) rfl rfl rfl rfl (G.gskip (t := 39) rfl rfl rfl rfl (G.gskipU (t := 42) rfl rfl rfl (G.gskipU (t := 42) rfl rfl rfl (G.gskip (t := 39) rfl rfl rfl rfl (G.q (Quiet.pickT rfl rfl) rfl (G.nil (G.then_n ?_))))))))))
      exact G.meetK (true) ((by rw [decide_eq_true]; exact .inl ⟨by omega, by omega⟩)) ⟨rfl, rfl, rfl, rfl, rfl, rfl, rfl, rfl, rfl, rfl, rfl, rfl, rfl, rfl, rfl, rfl, rfl, rfl, rfl, rfl, rfl, rfl, rfl, trivial⟩ (by (repeat' constructor)) (by ((repeat (apply Have.cons; (repeat (first | exact Pick.here | apply Pick.there)))); apply Have.base; repeat' constructor))
     ·refine G.kDF (t := 37) rfl h8_39 (G.kDF (t := 38) rfl h8_39 (G.grun (t := 39) rfl rfl rfl (G.mv rfl rfl (G.grun (t := 39) rfl rfl rfl (G.q (Quiet.int rfl rfl rfl) rfl (G.grun (t := 39) rfl rfl rfl (G.mv rfl rfl ?_)))))))
      refine G.dec (t := 42) rfl (fun h8_42 => ?_) (fun h8_42 => ?_)
      ·refine G.kDT (t := 41) rfl h8_42 (G.grun (t := 42) rfl rfl rfl (G.mv rfl rfl (G.grun (t := 42) rfl rfl rfl (G.q (Quiet.int rfl rfl rfl) rfl (G.grun (t := 39) rfl rfl rfl (G.q (Quiet.pickT rfl rfl) rfl (G.q (Quiet.pickF rfl rfl) rfl (G.nil (G.then_n ?_)))))))))
       exact G.meetK ((decide ((j : Int) > 0))) ((by exact decide_eq_decide.2 ⟨fun g => .inr ⟨by omega, by omega⟩, fun g => by rcases g with ⟨g1, g2⟩ | ⟨g1, g2⟩ <;> omega⟩)) ⟨rfl, rfl, rfl, rfl, rfl, rfl, rfl, rfl, rfl, rfl, rfl, rfl, rfl, rfl, rfl, rfl, rfl, rfl, rfl, rfl, rfl, rfl, rfl, trivial⟩ (by (repeat' constructor)) (by ((repeat (apply Have.cons; (repeat (first | exact Pick.here | apply Pick.there)))); apply Have.base; repeat' constructor))
      ·refine G.kDF (t := 41) rfl h8_42 (G.gskip (t := 42) rfl rfl rfl rfl (G.gskip (t := 42) rfl rfl rfl rfl (G.grun (t := 39) rfl rfl rfl (G.q (Quiet.pickF rfl rfl) rfl (G.q (Quiet.pickF rfl rfl) rfl (G.nil (G.then_n ?_)))))))
       exact G.meetK (false) ((by exact (decide_eq_false (by rintro (⟨g1, g2⟩ | ⟨g1, g2⟩) <;> omega)).symm)) ⟨rfl, rfl, rfl, rfl, rfl, rfl, rfl, rfl, rfl, rfl, rfl, rfl, rfl, rfl, rfl, rfl, rfl, rfl, rfl, rfl, rfl, rfl, rfl, trivial⟩ (by (repeat' constructor)) (by ((repeat (apply Have.cons; (repeat (first | exact Pick.here | apply Pick.there)))); apply Have.base; repeat' constructor))
    ·refine G.kDF (t := 34) rfl h8_35 (G.gskip (t := 35) rfl rfl rfl rfl (G.gskip (t := 35) rfl rfl rfl rfl (G.q (Quiet.pickF rfl rfl) rfl (G.mv rfl rfl (G.grun (t := 39) rfl rfl rfl (G.mv rfl rfl (G.grun (t := 39) rfl rfl rfl (G.q (Quiet.int rfl rfl rfl) rfl (G.grun (t := 39) rfl rfl rfl (G.mv rfl rfl ?_))))))))))
     refine G.dec (t := 42) rfl (fun h8_42 => ?_) (fun h8_42 => ?_)
     ·refine G.kDT (t := 41) rfl h8_42 (G.grun (t := 42) rfl rfl rfl (G.mv rfl rfl (G.grun (t := 42) rfl rfl rfl (G.q (Quiet.int rfl rfl rfl) rfl (G.grun (t := 39) rfl rfl rfl (G.q (Quiet.pickT rfl rfl) rfl (G.q (Quiet.pickF rfl rfl) rfl (G.nil (G.then_n ?_)))))))))
      exact G.meetK ((decide ((j : Int) > 0))) ((by exact decide_eq_decide.2 ⟨fun g => .inr ⟨by omega, by omega⟩, fun g => by rcases g with ⟨g1, g2⟩ | ⟨g1, g2⟩ <;> omega⟩)) ⟨rfl, rfl, rfl, rfl, rfl, rfl, rfl, rfl, rfl, rfl, rfl, rfl, rfl, rfl, rfl, rfl, rfl, rfl, rfl, rfl, rfl, rfl, rfl, trivial⟩ (by (repeat' constructor)) (by ((repeat (apply Have.cons; (repeat (first | exact Pick.here | apply Pick.there)))); apply Have.base; repeat' constructor))
     ·refine G.kDF (t := 41) rfl h8_42 (G.gskip (t := 42) rfl rfl rfl rfl (G.gskip (t := 42) rfl rfl rfl rfl (G.grun (t := 39) rfl rfl rfl (G.q (Quiet.pickF rfl rfl) rfl (G.q (Quiet.pickF rfl rfl) rfl (G.nil (G.then_n ?_)))))))
      exact G.meetK (false) ((by exact (decide_eq_false (by rintro (⟨g1, g2⟩ | ⟨g1, g2⟩) <;> omega)).symm)) ⟨rfl, rfl, rfl, rfl, rfl, rfl, rfl, rfl, rfl, rfl, rfl, rfl, rfl, rfl, rfl, rfl, rfl, rfl, rfl, rfl, rfl, rfl, rfl, trivial⟩ (by (repeat' constructor)) (by ((repeat (apply Have.cons; (repeat (first | exact Pick.here | apply Pick.there)))); apply Have.base; repeat' constructor))
   ·rintro b hb
    subst hb
    refine G.condD rfl (fun h46 => ?_) (fun h46 => ?_)
    ·refine G.seq ?_
     refine G.rdFold (r := r) s (k) (0) (by (repeat' constructor)) (by first | rfl | (simp only [List.set]; congr; omega)) (by omega) hsz ?_
     refine G.region (G.mv rfl rfl ?_)
     refine G.oq (OpSpec.call Tryz.func161 rfl rfl (vs := [_, _]) rfl (rfails_spec r s k 0 11)) ?nx41
     rintro v L' ⟨rfl, rfl⟩; rw [if_pos rfl]
     refine G.nil (G.then_n (G.seq (G.region (G.ag rfl rfl (G.ag rfl rfl (G.nil (G.then_n (G.ret (G.then_r (G.blk_r (G.then_r (G.then_r (G.blk_r (G.then_r ?_))))))))))))))
     exact G.dn (l := [.tmp 2, .tmp 3]) rfl rfl ⟨0, 0, 11, .inl ⟨.inr (by rw [← hsv, sevP_at hlt, if_pos h46]), rfl, rfl, by decide⟩, rfl, rfl⟩
    ·have h9 : j = 9 → s[k + j].toNat ≤ 1 := fun g => by rcases Nat.lt_or_ge 1 s[k + j].toNat with g2 | g2; exact absurd (.inl ⟨g, g2⟩) h46; exact g2
     refine G.skip (G.then_n (G.seq (G.region (G.mv rfl rfl (G.mv rfl rfl (G.q (Quiet.and rfl rfl) rfl ?_))))))
     refine G.q (Quiet.as (v' := .int .u64 ((s[k + j].toNat % 128 : Nat) : Int)) (by exact congrArg (Value.int .u64) (byte_and _)) (Quiet.conv rfl Tryz.underlying5 Tryz.underlying190)) rfl ?_
     refine G.mv rfl rfl ?_
     refine G.q (Quiet.mul rfl rfl (by omega)) rfl ?_
     refine G.q (Quiet.shl rfl rfl (by first | decide | omega)) rfl ?_
     refine G.q (Quiet.as (v' := .int .u64 ((u + s[k + j].toNat % 128 * 128 ^ j : Nat) : Int)) (by exact congrArg (Value.int .u64) (sev_bits hj9 huj (by omega) (fun g => by have := h9 g; omega))) (Quiet.or rfl rfl)) rfl ?_
     refine G.ag rfl rfl (G.nil (G.then_n (G.seq (G.region (G.mv rfl rfl (G.q (Quiet.int rfl rfl rfl) rfl (G.nil (G.then_n ?_))))))))
     refine G.condD rfl (fun h58 => ?_) (fun h58 => ?_)
     ·refine G.seq (G.region (G.mv rfl rfl (G.mv rfl rfl ?_)))
      refine G.q (Quiet.add rfl rfl (by omega)) rfl ?_
      refine G.ag rfl rfl (G.ag rfl rfl (G.nil (G.then_n (G.ret (G.blk_r (G.then_r (G.then_r (G.blk_r (G.then_r ?_)))))))))
      refine G.rdFold (r := r) s (k) (0) (by (repeat' constructor)) (by first | rfl | (simp only [List.set]; congr; omega)) (by omega) hsz ?_
      exact G.dn (l := [.tmp 2, .tmp 3]) rfl rfl ⟨_, j + 1, 0, .inr ⟨rfl, rfl, by omega, by rw [← hsv, sevP_at hlt, if_neg h46, if_pos (by omega)]; rfl⟩, rfl, rfl⟩
     ·refine G.skip (G.blk_n (G.then_n (G.region ?_)))
      refine G.q (Quiet.add rfl rfl (by omega)) rfl ?_
      refine G.mv rfl rfl (G.nil (G.then_n ?_))
      exact G.roundK ((j + 1, u + s[k + j].toNat % 128 * 128 ^ j)) (⟨by dsimp only; omega, by dsimp only; rcases Nat.lt_or_ge j 9 with g | g; (omega); exact absurd (h9 (by omega)) (by omega), by dsimp only; rw [Nat.pow_succ]; have := Nat.mul_le_mul_right (128 ^ j) (show s[k + j].toNat % 128 ≤ 127 by omega); omega, by dsimp only; rw [← hsv, sevP_at hlt, if_neg h46, if_neg (by omega)]; rfl⟩) (by dsimp only; omega) ⟨rfl, rfl, rfl, rfl, trivial⟩ (by (repeat' constructor)) (by ((repeat (apply Have.cons; (repeat (first | exact Pick.here | apply Pick.there)))); apply Have.base; repeat' constructor))
  ·refine G.exit (G.then_e (G.then_e (G.blk_e (G.then_n (G.seq ?_)))))
   refine G.rdFold (r := r) s (k) (0) (by (repeat' constructor)) (by first | rfl | (simp only [List.set]; congr; omega)) (by omega) hsz ?_
   refine G.region (G.mv rfl rfl ?_)
   refine G.oq (OpSpec.call Tryz.func161 rfl rfl (vs := [_, _]) rfl (rfails_spec r s k 0 10)) ?nx59
   rintro v L' ⟨rfl, rfl⟩; rw [if_pos rfl]
   refine G.nil (G.then_n (G.seq (G.region (G.ag rfl rfl (G.ag rfl rfl (G.nil (G.then_n (G.ret ?_))))))))
   exact G.dn (l := [.tmp 2, .tmp 3]) rfl rfl ⟨0, 0, 10, .inl ⟨.inr (by rw [← hsv]; exact sevP_out (by omega)), rfl, rfl, by decide⟩, rfl, rfl⟩
 ·refine G.mv rfl rfl (G.q (Quiet.nilp rfl) rfl (G.q (Quiet.fieldAddr rfl fo_200_1) rfl ?_))
  refine G.q (Quiet.ld rfl ag_25) rfl ?_
  refine G.q (Quiet.as (v' := .bool true) (by simp [he0]) (Quiet.int rfl rfl rfl)) rfl ?_
  refine G.nil (G.then_n (G.condT rfl (G.seq (G.region (G.ag rfl rfl (G.ag rfl rfl (G.nil (G.then_n (G.ret (G.then_r ?_))))))))))
  refine G.rdFold (r := r) s (k) (e) (by (repeat' constructor)) (by first | rfl | (simp only [List.set]; congr; omega)) (by omega) hsz ?_
  exact G.dn (l := [.tmp 2, .tmp 3]) rfl rfl ⟨0, 0, e, .inl ⟨.inl he0, rfl, rfl, he0⟩, rfl, rfl⟩

theorem SevA.lt {s : Bs} {k : Nat} {e : Int} {u m : Nat} {e' : Int} (h : SevA s k e u m e') : u < U64 := by
  rcases h with ⟨-, rfl, -⟩ | ⟨-, -, -, h⟩
  · decide
  · exact sevP_lt 0 0 _ _ _ h (by decide) (by decide)
theorem SevA.le {s : Bs} {k : Nat} {e : Int} {u m : Nat} {e' : Int} (h : SevA s k e u m e') (hk : k ≤ s.length) : k + m ≤ s.length := by
  rcases h with ⟨-, -, rfl, -⟩ | ⟨-, -, h, -⟩
  · exact hk
  · exact h
theorem SevA.num {s : Bs} {k : Nat} {e : Int} {u m : Nat} {e' : Int} (h : SevA s k e u m e') : stW s (k + m) e' = (runP 0 numP (stW s k e)).2 ∧ zagZ u = (runP 0 numP (stW s k e)).1 := by
  rcases h with ⟨h1, rfl, rfl, h2⟩ | ⟨rfl, rfl, -, h⟩
  · have e2 : stW s (k + 0) e' = none := if_neg h2
    rw [e2]
    rcases h1 with h1 | h1
    · have e1 : stW s k e = none := if_neg h1
      rw [e1]; exact ⟨rfl, rfl⟩
    · unfold stW
      split
      · unfold runP numP; dsimp only; rw [h1]; exact ⟨rfl, rfl⟩
      · exact ⟨rfl, rfl⟩
  · have e1 : stW s k 0 = some (s.drop k) := if_pos rfl
    have e2 : stW s (k + m) 0 = some (s.drop (k + m)) := if_pos rfl
    rw [e1, e2]
    unfold runP numP; dsimp only; rw [h]; exact ⟨rfl, rfl⟩
theorem SevA.cntT {s : Bs} {k : Nat} {e : Int} {u m : Nat} {e' : Int} {most : Nat} (h : SevA s k e u m e') (hm : most < u) : runP 0 (cntP most) (stW s k e) = (0, none) := by
  rcases h with ⟨h1, rfl, rfl, h2⟩ | ⟨rfl, rfl, -, h⟩
  · omega
  · have e1 : stW s k 0 = some (s.drop k) := if_pos rfl
    rw [e1]
    unfold runP cntP; dsimp only; rw [h]; dsimp only; rw [if_pos hm]
theorem SevA.cntF {s : Bs} {k : Nat} {e : Int} {u m : Nat} {e' : Int} {most : Nat} (h : SevA s k e u m e') (hm : ¬ most < u) : stW s (k + m) e' = (runP 0 (cntP most) (stW s k e)).2 ∧ u = (runP 0 (cntP most) (stW s k e)).1 := by
  rcases h with ⟨h1, rfl, rfl, h2⟩ | ⟨rfl, rfl, -, h⟩
  · have e2 : stW s (k + 0) e' = none := if_neg h2
    rw [e2]
    rcases h1 with h1 | h1
    · have e1 : stW s k e = none := if_neg h1
      rw [e1]; exact ⟨rfl, rfl⟩
    · unfold stW
      split
      · unfold runP cntP; dsimp only; rw [h1]; exact ⟨rfl, rfl⟩
      · exact ⟨rfl, rfl⟩
  · have e1 : stW s k 0 = some (s.drop k) := if_pos rfl
    have e2 : stW s (k + m) 0 = some (s.drop (k + m)) := if_pos rfl
    rw [e1, e2]
    unfold runP cntP; dsimp only; rw [h]; dsimp only; rw [if_neg hm]; exact ⟨rfl, rfl⟩
theorem st_none {s : Bs} {k : Nat} {e x : Int} (hx : x ≠ 0) : stW s k (if e = 0 then x else e) = none := by
  refine if_neg ?_
  split
  · exact hx
  · assumption
theorem txt_run {s : Bs} {k : Nat} {e : Int} {most n k1 : Nat} {e1 : Int} (h1 : stW s k1 e1 = (runP 0 (cntP most) (stW s k e)).2) (hn : n = (runP 0 (cntP most) (stW s k e)).1) (hk : k1 ≤ s.length) :
    ((s.length : Int) - k1 < n → runP [] (txtP most) (stW s k e) = ([], none)) ∧ (¬ (s.length : Int) - k1 < n → stW s (k1 + n) e1 = (runP [] (txtP most) (stW s k e)).2 ∧ (s.take (k1 + n)).drop k1 = (runP [] (txtP most) (stW s k e)).1) := by
  cases hst : stW s k e with
  | none =>
    rw [hst] at h1 hn
    have h1 : stW s k1 e1 = none := h1
    have hn : n = 0 := hn
    subst hn
    refine ⟨fun h => by omega, fun _ => ⟨?_, ?_⟩⟩
    · unfold stW at h1 ⊢
      split at h1
      · cases h1
      · rename_i g; rw [if_neg g]; rfl
    · rw [Nat.add_zero, List.drop_eq_nil_of_le (by rw [List.length_take]; omega)]; rfl
  | some q =>
    rw [hst] at h1 hn
    cases hc : cntP most q with
    | none =>
      have f : runP 0 (cntP most) (some q) = (0, none) := by unfold runP; dsimp only; rw [hc]
      have f2 : runP [] (txtP most) (some q) = ([], none) := by unfold runP txtP; dsimp only; rw [hc]
      rw [f] at h1 hn
      rw [f2]
      have h1 : stW s k1 e1 = none := h1
      have hn : n = 0 := hn
      subst hn
      refine ⟨fun h => by omega, fun _ => ⟨?_, ?_⟩⟩
      · unfold stW at h1 ⊢
        split at h1
        · cases h1
        · rename_i g; rw [if_neg g]
      · rw [Nat.add_zero, List.drop_eq_nil_of_le (by rw [List.length_take]; omega)]
    | some x =>
      obtain ⟨m, z⟩ := x
      have f : runP 0 (cntP most) (some q) = (m, some z) := by unfold runP; dsimp only; rw [hc]
      rw [f] at h1 hn
      have h1 : stW s k1 e1 = some z := h1
      have hn : n = m := hn
      subst hn
      unfold stW at h1
      split at h1
      · rename_i g
        subst g
        have h1 : s.drop k1 = z := Option.some.inj h1
        subst h1
        have hl : (s.drop k1).length = s.length - k1 := List.length_drop
        refine ⟨fun h => ?_, fun h => ?_⟩
        · unfold runP txtP; dsimp only; rw [hc]; dsimp only; rw [if_pos (by omega)]
        · have e2 : stW s (k1 + n) 0 = some (s.drop (k1 + n)) := if_pos rfl
          have f2 : runP [] (txtP most) (some q) = ((s.drop k1).take n, some ((s.drop k1).drop n)) := by unfold runP txtP; dsimp only; rw [hc]; dsimp only; rw [if_neg (by omega)]
          rw [e2, f2, List.drop_drop, List.drop_take]
          exact ⟨rfl, by rw [show k1 + n - k1 = n by omega]⟩
      · cases h1
theorem rnumW_spec (r : Nat) (s : Bs) (k : Nat) (e : Int) : Fn Tryz.prog 118 #[vptr r] [rdW r s k e] fun v L => ∃ k' e', stW s k' e' = (runP 0 numP (stW s k e)).2 ∧ v = vint (runP 0 numP (stW s k e)).1 ∧ L = [rdW r s k' e'] := by
 refine Fn.intro (vs := [vptr r]) Tryz.func118 rfl rfl ?_
 intro F W
 refine G.seq (G.region (G.ag rfl rfl (G.nil (G.then_n (G.seq (G.region (G.mv rfl rfl ?_)))))))
 refine G.oq (OpSpec.call Tryz.func160 rfl rfl (vs := [_]) rfl (rsevens_spec r s k e)) ?nx3
 rintro v L' ⟨u, m, e', hA, rfl, rfl⟩; have hu := hA.lt
 refine G.mv rfl rfl (G.q (Quiet.extract rfl rfl) rfl (G.q (Quiet.extract rfl rfl) rfl (G.ag rfl rfl (G.ag rfl rfl (G.nil (G.then_n (G.seq ?_)))))))
 refine G.rdOpen (by (repeat' constructor)) fun ra rc hkl hsz => ?_
 have hkm := hA.le hkl
 refine G.region (G.mv rfl rfl (G.q (Quiet.nilp rfl) rfl (G.q (Quiet.fieldAddr rfl fo_200_0) rfl (G.q (Quiet.fieldAddr rfl fo_186_1) rfl ?_))))
 refine G.q (Quiet.ld rfl ag_3) rfl ?_
 refine G.mv rfl rfl ?_
 refine G.q (Quiet.add rfl rfl (by omega)) rfl ?_
 refine G.q (Quiet.nilp rfl) rfl (G.q (Quiet.fieldAddr rfl fo_200_0) rfl (G.q (Quiet.fieldAddr rfl fo_186_1) rfl ?_))
 refine G.oq (OpSpec.store rfl rfl rfl sz_3 ?c16 ?c17) ?nx18
 case c16 => first | decide | (simp; omega) | simp
 case c17 => exact nfz0 _ _
 rintro v L' rfl
 refine G.nil (G.then_n (G.seq (G.region (G.mv rfl rfl ?_))))
 refine G.q (Quiet.shr rfl rfl (by first | decide | omega)) rfl ?_
 refine G.q (Quiet.conv rfl Tryz.underlying190 Tryz.underlying3) rfl (G.mv rfl rfl ?_)
 refine G.q (Quiet.as (v' := .int .u64 ((u % 2 : Nat) : Int)) (by exact congrArg (Value.int .u64) (u64_and1 u)) (Quiet.and rfl rfl)) rfl ?_
 refine G.q (Quiet.as (v' := vint ((u % 2 : Nat) : Int)) (by rw [i64w (by omega)]) (Quiet.conv rfl Tryz.underlying190 Tryz.underlying3)) rfl ?_
 refine G.q (Quiet.neg rfl (by omega)) rfl ?_
 refine G.q (Quiet.as (v' := vint (zagZ u)) (by exact congrArg (Value.int .i64) (zag_bits hu)) (Quiet.xor rfl rfl)) rfl ?_
 refine G.ag rfl rfl (G.nil (G.then_n (G.ret ?_)))
 refine G.rdFold (r := r) s (k + m) (e') (by (repeat' constructor)) (by first | rfl | (simp only [List.set]; congr; omega)) (by omega) hsz ?_
 rw [hA.num.2]
 exact G.dn (l := [.tmp 2]) rfl rfl ⟨k + m, e', hA.num.1, rfl, rfl⟩

theorem rcountW_spec (r most : Nat) (hm : most ≤ 4294967296) (s : Bs) (k : Nat) (e : Int) : Fn Tryz.prog 119 #[vptr r, vint most] [rdW r s k e] fun v L => ∃ k' e', stW s k' e' = (runP 0 (cntP most) (stW s k e)).2 ∧ v = vint ((runP 0 (cntP most) (stW s k e)).1 : Nat) ∧ L = [rdW r s k' e'] := by
 refine Fn.intro (vs := [vptr r, vint most]) Tryz.func119 rfl rfl ?_
 intro F W
 refine G.seq (G.region (G.ag rfl rfl (G.nil (G.then_n (G.seq (G.region (G.mv rfl rfl ?_)))))))
 refine G.oq (OpSpec.call Tryz.func160 rfl rfl (vs := [_]) rfl (rsevens_spec r s k e)) ?nx3
 rintro v L' ⟨u, m, e', hA, rfl, rfl⟩; have hu := hA.lt
 refine G.mv rfl rfl (G.q (Quiet.extract rfl rfl) rfl (G.q (Quiet.extract rfl rfl) rfl (G.ag rfl rfl (G.ag rfl rfl (G.nil (G.then_n (G.seq (G.seq (G.region (G.mv rfl rfl (G.mv rfl rfl (G.q (Quiet.max2 rfl rfl) rfl ?_))))))))))))
 refine G.q (Quiet.as (v' := .int .u64 (most : Nat)) (by exact congrArg (Value.int .u64) (by rw [u64wrap]; omega)) (Quiet.conv rfl Tryz.underlying3 Tryz.underlying190)) rfl ?_
 refine G.q (Quiet.int rfl rfl rfl) rfl (G.nil (G.then_n ?_))
 refine G.condD rfl (fun h16 => ?_) (fun h16 => ?_)
 ·refine G.seq (G.region (G.mv rfl rfl ?_))
  refine G.oq (OpSpec.call Tryz.func161 rfl rfl (vs := [_, _]) rfl (rfails_spec r s k e' 12)) ?nx12
  rintro v L' ⟨rfl, rfl⟩
  refine G.nil (G.then_n (G.seq (G.region (G.ag rfl rfl (G.nil (G.then_n (G.ret (G.then_r ?_))))))))
  rw [hA.cntT (most := most) (by omega)]
  exact G.dn (l := [.tmp 4]) rfl rfl ⟨k, _, st_none (x := 12) (by decide), rfl, rfl⟩
 ·refine G.skip (G.then_n (G.seq ?_))
  refine G.rdOpen (by (repeat' constructor)) fun ra rc hkl hsz => ?_
  have hkm := hA.le hkl
  refine G.region (G.mv rfl rfl (G.q (Quiet.nilp rfl) rfl (G.q (Quiet.fieldAddr rfl fo_200_0) rfl (G.q (Quiet.fieldAddr rfl fo_186_1) rfl ?_))))
  refine G.q (Quiet.ld rfl ag_3) rfl ?_
  refine G.mv rfl rfl ?_
  refine G.q (Quiet.add rfl rfl (by omega)) rfl ?_
  refine G.q (Quiet.nilp rfl) rfl (G.q (Quiet.fieldAddr rfl fo_200_0) rfl (G.q (Quiet.fieldAddr rfl fo_186_1) rfl ?_))
  refine G.oq (OpSpec.store rfl rfl rfl sz_3 ?c24 ?c25) ?nx26
  case c24 => first | decide | (simp; omega) | simp
  case c25 => exact nfz0 _ _
  rintro v L' rfl
  refine G.nil (G.then_n (G.seq (G.region (G.mv rfl rfl ?_))))
  refine G.q (Quiet.as (v' := vint (u : Nat)) (by rw [i64w (by omega)]) (Quiet.conv rfl Tryz.underlying190 Tryz.underlying3)) rfl ?_
  refine G.ag rfl rfl (G.nil (G.then_n (G.ret ?_)))
  refine G.rdFold (r := r) s (k + m) (e') (by (repeat' constructor)) (by first | rfl | (simp only [List.set]; congr; omega)) (by omega) hsz ?_
  obtain ⟨hc1, hc2⟩ := hA.cntF (most := most) (by omega)
  rw [hc2]
  exact G.dn (l := [.tmp 4]) rfl rfl ⟨k + m, e', hc1, rfl, rfl⟩

theorem rtextW_spec (r most : Nat) (hm : most ≤ 4294967296) (s : Bs) (k : Nat) (e : Int) : Fn Tryz.prog 212 #[vptr r, vint most] [rdW r s k e] fun v L => ∃ k' e', stW s k' e' = (runP [] (txtP most) (stW s k e)).2 ∧ v = vstr (runP [] (txtP most) (stW s k e)).1 ∧ L = [rdW r s k' e'] := by
 refine Fn.intro (vs := [vptr r, vint most]) Tryz.func212 rfl rfl ?_
 intro F W
 refine G.rdOpen (by (repeat' constructor)) fun ra rc hkl hsz => ?_
 refine G.seq (G.region (G.ag rfl rfl (G.nil (G.then_n (G.seq (G.region (G.mv rfl rfl (G.q (Quiet.nilp rfl) rfl (G.q (Quiet.fieldAddr rfl fo_200_0) rfl (G.q (Quiet.fieldAddr rfl fo_186_1) rfl ?_))))))))))
 refine G.q (Quiet.ld rfl ag_3) rfl ?_
 refine G.ag rfl rfl (G.nil ?_)
 refine G.rdFold (r := r) s (k) (e) (by (repeat' constructor)) (by first | rfl | (simp only [List.set]; congr; omega)) (by omega) hsz ?_
 refine G.then_n (G.seq (G.region (G.mv rfl rfl (G.mv rfl rfl ?_))))
 refine G.oq (OpSpec.call Tryz.func119 rfl rfl (vs := [_, _]) rfl (rcountW_spec r most hm s k e)) ?nx9
 rintro v L' ⟨k1, e1, hs1, rfl, rfl⟩
 obtain ⟨n, hn⟩ : ∃ n, n = (runP 0 (cntP most) (stW s k e)).1 := ⟨_, rfl⟩
 rw [← hn]
 refine G.ag rfl rfl (G.nil ?_)
 refine G.rdOpen (by (repeat' constructor)) fun ra2 rc2 hk1 _ => ?_
 have hrun := txt_run hs1 hn hk1
 refine G.rdFold (r := r) s k1 e1 (by (repeat' constructor)) rfl hk1 hsz ?_
 refine G.then_n (G.seq (G.seq (G.region (G.mv rfl rfl (G.q (Quiet.nilp rfl) rfl (G.q (Quiet.fieldAddr rfl fo_200_0) rfl ?_))))))
 refine G.oq (OpSpec.call Tryz.func162 rfl rfl (vs := [_]) rfl (rleft_spec r s k1 e1)) ?nx14
 rintro v L' ⟨rfl, rfl⟩
 refine G.mv rfl rfl (G.q (Quiet.int rfl rfl rfl) rfl (G.nil (G.then_n ?_)))
 refine G.condD rfl (fun h20 => ?_) (fun h20 => ?_)
 ·refine G.seq ?_
  refine G.rdOpen (by (repeat' constructor)) fun ra3 rc3 _ _ => ?_
  refine G.region (G.mv rfl rfl (G.mv rfl rfl (G.q (Quiet.nilp rfl) rfl (G.q (Quiet.fieldAddr rfl fo_200_0) rfl (G.q (Quiet.fieldAddr rfl fo_186_1) rfl ?_)))))
  refine G.oq (OpSpec.store rfl rfl rfl sz_3 ?c21 ?c22) ?nx23
  case c21 => first | decide | (simp; omega) | simp
  case c22 => exact nfz0 _ _
  rintro v L' rfl
  refine G.nil ?_
  refine G.rdFold (r := r) s (k) (e1) (by (repeat' constructor)) (by first | rfl | (simp only [List.set]; congr; omega)) (by omega) hsz ?_
  refine G.then_n (G.seq (G.region (G.mv rfl rfl ?_)))
  refine G.oq (OpSpec.call Tryz.func161 rfl rfl (vs := [_, _]) rfl (rfails_spec r s k e1 10)) ?nx25
  rintro v L' ⟨rfl, rfl⟩
  refine G.nil (G.then_n (G.seq (G.region (G.ag rfl rfl (G.nil (G.then_n (G.ret (G.then_r ?_))))))))
  rw [hrun.1 h20]
  exact G.dn (l := [.tmp 4]) rfl rfl ⟨k, _, st_none (x := 10) (by decide), rfl, rfl⟩
 ·refine G.skip (G.then_n (G.seq ?_))
  refine G.rdOpen (by (repeat' constructor)) fun ra3 rc3 _ _ => ?_
  obtain ⟨hr1, hr2⟩ := hrun.2 h20
  refine G.region (G.mv rfl rfl (G.q (Quiet.nilp rfl) rfl (G.q (Quiet.fieldAddr rfl fo_200_0) rfl (G.q (Quiet.fieldAddr rfl fo_186_1) rfl ?_))))
  refine G.q (Quiet.ld rfl ag_3) rfl ?_
  refine G.mv rfl rfl ?_
  refine G.q (Quiet.add rfl rfl (by omega)) rfl ?_
  refine G.q (Quiet.nilp rfl) rfl (G.q (Quiet.fieldAddr rfl fo_200_0) rfl (G.q (Quiet.fieldAddr rfl fo_186_1) rfl ?_))
  refine G.oq (OpSpec.store rfl rfl rfl sz_3 ?c37 ?c38) ?nx39
  case c37 => first | decide | (simp; omega) | simp
  case c38 => exact nfz0 _ _
  rintro v L' rfl
  refine G.nil ?_
  refine G.ptCast (b := r) (l' := [.slice (some ⟨ra3, 0, none⟩) s.length rc3, vint ((k1 + n : Nat) : Int), vint e1]) (by (repeat' constructor)) rfl ?_
  refine G.slAddr (by (repeat' constructor)) fun hcap _ => ?_
  refine G.then_n (G.seq ?_)
  refine G.draw [] [[0, 1, 2, 3, 4, 5, 6, 7, 8, 9, 10, 11, 12, 13, 14, 15, 16, 17, 18, 19]] mixed (by kernel_rfl) ?_
  refine Phases.go [] (by (repeat' constructor)) ?_
  refine D.kw [1, 2, 3, 4, 17, 18, 19] rfl (Quiet.move rfl) ?_
  refine D.kw [2, 3, 4, 17, 18, 19] rfl (Quiet.nilp rfl) ?_
  refine D.kw [3, 4, 17, 18, 19] rfl (Quiet.fieldAddr rfl fo_200_0) ?_
  refine D.kw [4, 17, 18, 19] rfl (Quiet.fieldAddr rfl fo_186_0) ?_
  refine D.kw [17, 18, 19] rfl (Quiet.ld rfl ag_125) ?_
  refine D.kw [6, 7, 8, 9, 11, 17, 18, 19] rfl (Quiet.move rfl) ?_
  refine D.kw [7, 8, 9, 11, 17, 18, 19] rfl (Quiet.nilp rfl) ?_
  refine D.kw [8, 9, 11, 17, 18, 19] rfl (Quiet.fieldAddr rfl fo_200_0) ?_
  refine D.kw [9, 11, 17, 18, 19] rfl (Quiet.fieldAddr rfl fo_186_1) ?_
  refine D.kw [11, 17, 18, 19] rfl (Quiet.ld rfl ag_3) ?_
  refine D.kw [11, 17, 18, 19] rfl (Quiet.move rfl) ?_
  refine D.kw [17, 18, 19] rfl (Quiet.as (v' := vint (k1 : Nat)) (by congr 1; omega) (Quiet.sub rfl rfl (by omega))) ?_
  refine D.kw [13, 14, 15, 16, 17, 18, 19] rfl (Quiet.move rfl) ?_
  refine D.kw [14, 15, 16, 17, 18, 19] rfl (Quiet.nilp rfl) ?_
  refine D.kw [15, 16, 17, 18, 19] rfl (Quiet.fieldAddr rfl fo_200_0) ?_
  refine D.kw [16, 17, 18, 19] rfl (Quiet.fieldAddr rfl fo_186_1) ?_
  refine D.kw [17, 18, 19] rfl (Quiet.ld rfl ag_3) ?_
  refine D.kw [18, 19] rfl (Quiet.to (v' := .slice (some (if rc3 = k1 then ⟨ra3, 0, none⟩ else ⟨ra3, 0 + k1 * 1, none⟩)) (k1 + n - k1) (rc3 - k1)) (Quiet.slSlice (i := (k1 : Int)) (j := ((k1 + n : Nat) : Int)) rfl el_125 (by exact rfl) (by exact rfl) (by omega)) (by simp only [Int.toNat_natCast])) ?_
  refine D.kw [19] rfl (Quiet.bytesBy (cs := (s.take (k1 + n)).drop k1) (n := ((s.take (k1 + n)).drop k1).length) (p := bytR (.slice (some ⟨ra3, 0, none⟩) s.length rc3) s) rfl Tryz.underlying125 Tryz.underlying5 Tryz.underlying9 (fun h hp => slR_mid (by omega) (by omega) hp) (by (repeat' constructor))) ?_
  refine D.kw [] rfl (Quiet.assign rfl) ?_
  refine D.ph (Phases.fin (G.then_n (G.ret ?_)))
  refine G.rdFold (r := r) s (k1 + n) (e1) (by (repeat' constructor)) (by first | rfl | (simp only [List.set]; congr; omega)) (by omega) hsz ?_
  rw [hr2]
  exact G.dn (l := [.tmp 4]) rfl rfl ⟨k1 + n, e1, hr1, rfl, rfl⟩

theorem end_T {s : Bs} {k : Nat} {e : Int} (h : k < s.length) : (if e = 0 then (11 : Int) else e) = 0 ↔ stW s k e = some [] := by
  have hl : (s.drop k).length = s.length - k := List.length_drop
  unfold stW
  split
  · refine ⟨fun g => absurd g (by decide), fun g => ?_⟩
    rw [Option.some.inj g] at hl; simp at hl; omega
  · rename_i g; exact ⟨fun q => absurd q g, fun q => by cases q⟩
theorem end_F {s : Bs} {k : Nat} {e : Int} (h : s.length ≤ k) : e = 0 ↔ stW s k e = some [] := by
  unfold stW
  split
  · rename_i g; exact ⟨fun _ => by rw [List.drop_eq_nil_of_le h], fun _ => g⟩
  · rename_i g; exact ⟨fun q => absurd q g, fun q => by cases q⟩
theorem rendW_spec (r : Nat) (s : Bs) (k : Nat) (e : Int) : Fn Tryz.prog 120 #[vptr r] [rdW r s k e] fun v L => ∃ e1, (e1 = 0 ↔ stW s k e = some []) ∧ v = vint e1 ∧ L = [rdW r s k e1] := by
 refine Fn.intro (vs := [vptr r]) Tryz.func120 rfl rfl ?_
 intro F W
 refine G.rdOpen (by (repeat' constructor)) fun ra rc hkl hsz => ?_
 refine G.rdFold (r := r) s (k) (e) (by (repeat' constructor)) (by first | rfl | (simp only [List.set]; congr; omega)) (by omega) hsz ?_
 refine G.seq (G.region (G.ag rfl rfl (G.nil (G.then_n (G.seq (G.seq (G.region (G.mv rfl rfl (G.q (Quiet.nilp rfl) rfl (G.q (Quiet.fieldAddr rfl fo_200_0) rfl ?_))))))))))
 refine G.oq (OpSpec.call Tryz.func162 rfl rfl (vs := [_]) rfl (rleft_spec r s k e)) ?nx5
 rintro v L' ⟨rfl, rfl⟩
 refine G.q (Quiet.int rfl rfl rfl) rfl (G.nil (G.then_n ?_))
 refine G.condD rfl (fun h7 => ?_) (fun h7 => ?_)
 ·refine G.region (G.mv rfl rfl ?_)
  refine G.oq (OpSpec.call Tryz.func163 rfl rfl (vs := [_]) rfl (rfail_spec r s k e)) ?nx9
  rintro v L' ⟨rfl, rfl⟩
  refine G.nil (G.then_n (G.seq ?_))
  refine G.rdOpen (by (repeat' constructor)) fun ra3 rc3 _ _ => ?_
  refine G.region (G.mv rfl rfl (G.q (Quiet.nilp rfl) rfl (G.q (Quiet.fieldAddr rfl fo_200_1) rfl ?_)))
  refine G.q (Quiet.ld rfl ag_25) rfl ?_
  refine G.ag rfl rfl (G.nil (G.then_n (G.ret ?_)))
  refine G.rdFold (r := r) s (k) (if e = 0 then 11 else e) (by (repeat' constructor)) (by first | rfl | (simp only [List.set]; congr; omega)) (by omega) hsz ?_
  exact G.dn (l := [.tmp 2]) rfl rfl ⟨_, end_T (by omega), rfl, rfl⟩
 ·refine G.skip (G.then_n (G.seq ?_))
  refine G.rdOpen (by (repeat' constructor)) fun ra3 rc3 _ _ => ?_
  refine G.region (G.mv rfl rfl (G.q (Quiet.nilp rfl) rfl (G.q (Quiet.fieldAddr rfl fo_200_1) rfl ?_)))
  refine G.q (Quiet.ld rfl ag_25) rfl ?_
  refine G.ag rfl rfl (G.nil (G.then_n (G.ret ?_)))
  refine G.rdFold (r := r) s (k) (e) (by (repeat' constructor)) (by first | rfl | (simp only [List.set]; congr; omega)) (by omega) hsz ?_
  exact G.dn (l := [.tmp 2]) rfl rfl ⟨_, end_F (by omega), rfl, rfl⟩

theorem cread_spec (s : Bs) (hs : s.length ≤ 2147483648) : Fn Tryz.prog 117 #[vstr s] [] fun v L => ∃ r, v = vptr r ∧ L = [rdR r (some s)] := by
 refine Fn.intro (vs := [vstr s]) Tryz.func117 rfl rfl ?_
 intro F W
 refine G.seq (G.region (G.ag rfl rfl (G.nil (G.then_n (G.seq (G.region (G.mv rfl rfl ?_)))))))
 refine G.oq (OpSpec.strBytes rfl Tryz.underlying9 Tryz.underlying125 Tryz.underlying5) ?nx3
 rintro v L' ⟨rfl, b8, c8, rfl⟩
 refine G.q (Quiet.to (v' := .agg [.slice (some ⟨b8, 0, none⟩) s.length c8, vint 0].toArray) (Quiet.build (us := [(0, _)]) fl_186 ze_186 rfl rfl (by simp [isCell])) rfl) rfl ?_
 refine G.q (Quiet.to (v' := .agg [.slice (some ⟨b8, 0, none⟩) s.length c8, vint 0, vint 0].toArray) (Quiet.buildN (pl := [(0, 2), (2, 1)]) (us := [(0, _)]) (cells := [.slice (some ⟨b8, 0, none⟩) s.length c8, vint 0, vint 0]) Tryz.underlying200 (by kernel_rfl) ze_200 rfl rfl) rfl) rfl ?_
 refine G.oq (OpSpec.box rfl) ?nx7
 rintro v L' ⟨r, rfl, rfl⟩
 refine G.ag rfl rfl (G.nil (G.then_n (G.ret ?_)))
 refine G.rdFold (r := r) s 0 0 (by (repeat' constructor)) rfl (Nat.zero_le _) hs ?_
 refine G.rdUpF (r := r) (st := some s) (by (repeat' constructor)) rfl ?_
 exact G.dn (l := [.tmp 2]) rfl rfl ⟨r, rfl, rfl⟩

theorem rnum_spec (r : Nat) (st : Rs) : Fn Tryz.prog 118 #[vptr r] [rdR r st] fun v L => v = vint (runP 0 numP st).1 ∧ L = [rdR r (runP 0 numP st).2] := Fn.rdUp (v := vint) (fun s k e => rnumW_spec r s k e) st
theorem rcount_spec (r most : Nat) (hm : most ≤ 4294967296) (st : Rs) : Fn Tryz.prog 119 #[vptr r, vint most] [rdR r st] fun v L => v = vint ((runP 0 (cntP most) st).1 : Nat) ∧ L = [rdR r (runP 0 (cntP most) st).2] := Fn.rdUp (v := fun n : Nat => vint n) (fun s k e => rcountW_spec r most hm s k e) st
theorem rtext_spec (r most : Nat) (hm : most ≤ 4294967296) (st : Rs) : Fn Tryz.prog 212 #[vptr r, vint most] [rdR r st] fun v L => v = vstr (runP [] (txtP most) st).1 ∧ L = [rdR r (runP [] (txtP most) st).2] := Fn.rdUp (v := vstr) (fun s k e => rtextW_spec r most hm s k e) st
theorem rend_spec (r : Nat) (st : Rs) : Fn Tryz.prog 120 #[vptr r] [rdR r st] fun v L => ∃ e1, (e1 = 0 ↔ st = some []) ∧ v = vint e1 ∧ ∃ st', L = [rdR r st'] := Fn.rdEnd (fun s k e => rendW_spec r s k e) st
end Go.Proofs.YtidjhgbdokcphaaGreat

/- Own work: entries in memory. -/
namespace Go.Proofs.YtidjhgbdokcphaaGreat
open Go

def Pt.wa (y : Pt) (v : Value) : Pt := ⟨y.kind, y.path, y.data, v, y.acl, y.own, y.num, y.err, y.subsV⟩
def Pt.ws (y : Pt) (v : Value) : Pt := ⟨y.kind, y.path, y.data, y.aclV, y.acl, y.own, y.num, y.err, v⟩
def aclR (y : Pt) : HP := slR 210 2 y.aclV y.acl.length (y.acl.flatMap acC)
def subsR (e : En) : HP := slR 36 8 e.x.subsV e.subs.length (e.subs.flatMap ptC)
def entR (e : En) : HP := sep [aclR e.x, subsR e, bigR aclR e.subs]
structure PtW (p : HP) (y : Pt) : Prop where
  i : PtI y
  acl : ∀ h : Hp, p h → rdS 2 h y.aclV y.acl.length (y.acl.flatMap acC)
structure EnW (p : HP) (e : En) : Prop where
  i : EnI e
  acl : ∀ h : Hp, p h → rdS 2 h e.x.aclV e.x.acl.length (e.x.acl.flatMap acC)
  subs : ∀ h : Hp, p h → rdS 8 h e.x.subsV e.subs.length (e.subs.flatMap ptC)
  each : ∀ y ∈ e.subs, ∀ h : Hp, p h → rdS 2 h y.aclV y.acl.length (y.acl.flatMap acC)
theorem EnW.x {p : HP} {e : En} (h : EnW p e) : PtW p e.x := ⟨h.i.x, h.acl⟩
theorem EnW.sub {p : HP} {e : En} (h : EnW p e) {y : Pt} (hy : y ∈ e.subs) : PtW p y := ⟨h.i.subs y hy, h.each y hy⟩
theorem fm_take {α : Type} (f : α → Bs) (l : List α) (j : Nat) : ((l.take j).flatMap f).length ≤ (l.flatMap f).length := by
  conv => rhs; rw [← List.take_append_drop j l]
  rw [List.flatMap_append, List.length_append]; omega
theorem fm_step {α : Type} (f : α → Bs) {l : List α} {j : Nat} (hj : j < l.length) : (l.take (j + 1)).flatMap f = (l.take j).flatMap f ++ f l[j] := by
  rw [List.take_succ_eq_append_getElem hj, List.flatMap_append]; simp
theorem fm_stepL {α : Type} (f : α → Bs) {l : List α} {j : Nat} (hj : j < l.length) : ((l.take j).flatMap f).length + (f l[j]).length ≤ (l.flatMap f).length := by
  have := fm_take f l (j + 1)
  rw [fm_step f hj, List.length_append] at this
  exact this
theorem many_len {α : Type} (f : Rn α) (st : Rs) : ∀ n, (manyR f n st).1.length = n
  | 0 => rfl
  | n + 1 => by show ((manyR f n st).1 ++ [_]).length = n + 1; rw [List.length_append, many_len f st n]; rfl
theorem cntR_le (st : Rs) : (cntR st).1 ≤ 256 := by
  unfold cntR runP
  split
  · exact Nat.zero_le _
  · split
    · rename_i x hx; exact (cnt_form hx).2
    · exact Nat.zero_le _
theorem one_sep {p : HP} {h : Hp} (hp : p h) : sep [p] h := ⟨h, fun _ => none, fun _ => .inr rfl, fun _ _ e => e, fun _ _ e => (by cases e), hp, trivial⟩
theorem sep_one {b : Nat} {l : List Value} {T : TypeId} {h : Hp} (hp : sep [ptc b l T] h) : ptc b l T h := sep_pt hp
theorem big_one {α : Type} {f : α → HP} {l : List α} {y : α} {h : Hp} (hs : sep [f y, bigR f l] h) : bigR f (l ++ [y]) h :=
  big_perm (List.perm_append_comm (l₁ := [y])) (big_of_cons hs)
section
variable {P : Program} {W : World} {n : Nat} {ds : List Deferred} {E : Env} {L R : List HP} {X : Act → World → Prop} {ty : TypeId}
theorem G.bigAdd {α : Type} {f : α → HP} {l : List α} (y : α) {p : HP} (hp : p = f y) (hL : Picks [p, bigR f l] L R) (h : G W n ds E (bigR f (l ++ [y]) :: R) X) : G W n ds E L X := by
  subst hp
  exact G.fold hL (fun w hw => big_one hw) h
theorem G.wrCast {w : Nat} {bs bs' : Bs} (hL : Pick (wrR w bs) L R) (hb : bs = bs') (h : G W n ds E (wrR w bs' :: R) X) : G W n ds E L X := by
  subst hb; exact G.perm hL.perm h
theorem OpSpec.inL {o : Oper} {p p' q : HP} (h : OpSpec P o E [p] fun _ L' => L' = [p']) : OpSpec P o E [sep [p, q]] fun _ L' => L' = [sep [p', q]] := by
  intro ρ w F ha hs
  have hs' : St ([p] ++ ([q] ++ F)) w := sep_flat (L1 := [p, q]) hs
  refine (h ρ w _ ha hs').mono ?_
  rintro v w' ⟨L', rfl, hs2, hk⟩
  exact ⟨_, rfl, sep_fold (L1 := [p', q]) hs2, hk⟩
theorem OpSpec.inR {o : Oper} {p q q' : HP} (h : OpSpec P o E [q] fun _ L' => L' = [q']) : OpSpec P o E [sep [p, q]] fun _ L' => L' = [sep [p, q']] := by
  intro ρ w F ha hs
  have hs1 : St (p :: q :: F) w := sep_flat (L1 := [p, q]) hs
  have hs' : St ([q] ++ ([p] ++ F)) w := sep_swap hs1
  refine (h ρ w _ ha hs').mono ?_
  rintro v w' ⟨L', rfl, hs2, hk⟩
  exact ⟨_, rfl, sep_fold (L1 := [p, q']) (sep_swap hs2), hk⟩
end
def addrV (a : Nat × Nat) : Value := .pointer (some ⟨a.1, a.2, none⟩)
end Go.Proofs.YtidjhgbdokcphaaGreat

/- Own work, by program: package wire, entries: walked. -/
namespace Go.Proofs.YtidjhgbdokcphaaGreat
open Go
theorem wnums_spec (w : Nat) (bs : Bs) (va : Value) (ns : List Int) (p : HP) (hp : ∀ h : Hp, p h → rdS 1 h va ns.length (ints ns)) (hi : ∀ n ∈ ns, I64 n) (hl : bs.length + (ns.flatMap numB).length ≤ 4294900000) (hn : ns.length ≤ 1048576) : Fn Tryz.prog 189 #[vptr w, va] [wrR w bs, p] fun v L => v = .tuple #[] ∧ L = [wrR w (bs ++ ns.flatMap numB), p] := by
 refine Fn.intro (vs := [vptr w, va]) Tryz.func189 rfl rfl ?_
 intro F W
 refine G.rdAny (p := p) hp (by (repeat' constructor)) fun aa ca e0 _ => ?_
 subst e0
 refine G.seq (G.region (G.mv rfl rfl (G.q (Quiet.slen rfl Tryz.underlying31 rfl) rfl (G.mv rfl rfl (G.nil (G.then_n (G.block ?_)))))))
 refine G.wrCast (w := w) (bs' := bs ++ (ns.take 0).flatMap numB) (by (repeat' constructor)) (by simp) ?_
 refine G.loopK (ι := Nat) (fun q E => (8, vint q) :: E) (fun q => [wrR w (bs ++ (ns.take q).flatMap numB)]) (fun q => q ≤ ns.length) (fun q => ns.length - q) (0) (ts := [0, 6, 7]) (.cons rfl (.cons rfl (.cons rfl (.nil)))) (Nat.zero_le _) ⟨rfl, rfl, rfl, rfl, trivial⟩ (by (repeat' constructor)) ?_
 rintro j hj
 refine G.seq (G.region (G.q (Quiet.int rfl rfl rfl) rfl (G.nil (G.then_n (G.seq ?_)))))
 refine G.condD rfl (fun h9 => ?_) (fun h9 => ?_)
 ·have hj2 : j < ns.length := by omega
  have hft := fm_take numB ns j
  refine G.rdShape (p := p) hp (by (repeat' constructor)) (by omega) fun ba oa e => ?_
  subst e
  refine G.skip (G.then_n (G.seq (G.block (G.seq (G.region ?_)))))
  refine G.q (Quiet.indexAddr rfl rfl el_31 (by omega)) rfl ?_
  refine G.q (Quiet.loadEl (p := p) (i := j * 1) (v := vint ns[j]) rfl ag_3 (by (repeat' constructor)) hp (by simp [hj2])) rfl ?_
  refine G.ag rfl rfl (G.nil (G.then_n (G.region (G.mv rfl rfl (G.mv rfl rfl ?_)))))
  refine G.oq (OpSpec.call Tryz.func102 rfl rfl (vs := [_, _]) rfl (cnum_spec w _ ns[j] (hi _ (List.getElem_mem hj2)) ?hb8)) ?nx9
  case hb8 => rw [List.length_append]; omega
  rintro v L' ⟨rfl, rfl⟩
  refine G.nil (G.blk_n (G.then_n (G.region ?_)))
  refine G.q (Quiet.add rfl rfl (by omega)) rfl ?_
  refine G.mv rfl rfl (G.nil (G.then_n ?_))
  refine G.wrCast (w := w) (bs' := bs ++ (ns.take (j + 1)).flatMap numB) (by (repeat' constructor)) (by rw [fm_step numB hj2, List.append_assoc]) ?_
  exact G.roundK (j + 1) (by omega) (by omega) ⟨rfl, rfl, rfl, rfl, trivial⟩ (by (repeat' constructor)) (by ((repeat (apply Have.cons; (repeat (first | exact Pick.here | apply Pick.there)))); apply Have.base; repeat' constructor))
 ·have hjj : j = ns.length := by omega
  rw [hjj, List.take_length]
  refine G.exit (G.then_e (G.then_e (G.blk_e (G.done_n ?_))))
  exact G.dn (l := []) rfl rfl ⟨rfl, rfl⟩

theorem wacl_spec (w : Nat) (bs : Bs) (a : Ac) (hi : AcI a) (hl : bs.length + (acB a).length ≤ 4294900000) : Fn Tryz.prog 211 #[vptr w, .agg (acC a).toArray] [wrR w bs] fun v L => v = .tuple #[] ∧ L = [wrR w (bs ++ acB a)] := by
 refine Fn.intro (vs := [vptr w, .agg (acC a).toArray]) Tryz.func211 rfl rfl ?_
 intro F W
 have hab : (acB a).length = (numB a.1).length + ((cntB a.2.length).length + a.2.length) := by unfold acB txtB; simp
 refine G.seq (G.region ?_)
 refine G.oq (OpSpec.box rfl) ?nx1
 rintro v L' ⟨b3, rfl, rfl⟩
 refine G.nil ?_
 refine G.ptCast (b := b3) (l' := acC a) (by (repeat' constructor)) rfl ?_
 refine G.then_n (G.seq (G.region (G.mv rfl rfl (G.q (Quiet.fieldAddr rfl fo_210_0) rfl ?_))))
 refine G.q (Quiet.ld rfl ag_3) rfl ?_
 refine G.oq (OpSpec.call Tryz.func102 rfl rfl (vs := [_, _]) rfl (cnum_spec w bs a.1 hi.n (by omega))) ?nx6
 rintro v L' ⟨rfl, rfl⟩
 refine G.nil (G.then_n (G.region (G.mv rfl rfl (G.q (Quiet.fieldAddr rfl fo_210_1) rfl ?_))))
 refine G.q (Quiet.ld rfl ag_9) rfl ?_
 refine G.oq (OpSpec.call Tryz.func209 rfl rfl (vs := [_, _]) rfl (ctext_spec w _ a.2 ?hb11)) ?nx12
 case hb11 => rw [List.length_append]; omega
 rintro v L' ⟨rfl, rfl⟩
 refine G.nil (G.done_n ?_)
 refine G.wrCast (w := w) (bs' := bs ++ acB a) (by (repeat' constructor)) (by unfold acB; rw [List.append_assoc]) ?_
 exact G.dn (l := []) rfl rfl ⟨rfl, rfl⟩

theorem wacls_spec (w : Nat) (bs : Bs) (va : Value) (l : List Ac) (p : HP) (hp : ∀ h : Hp, p h → rdS 2 h va l.length (l.flatMap acC)) (hi : ∀ a ∈ l, AcI a) (hl : bs.length + (cntB l.length ++ l.flatMap acB).length ≤ 4294900000) (hn : l.length ≤ 1048576) : Fn Tryz.prog 210 #[vptr w, va, .func (.func 211) #[] #[]] [wrR w bs, p] fun v L => v = .tuple #[] ∧ L = [wrR w (bs ++ (cntB l.length ++ l.flatMap acB)), p] := by
 refine Fn.intro (vs := [vptr w, va, .func (.func 211) #[] #[]]) Tryz.func210 rfl rfl ?_
 intro F W
 refine G.rdAny (p := p) hp (by (repeat' constructor)) fun aa ca e0 _ => ?_
 subst e0
 rw [List.length_append] at hl
 refine G.seq (G.region (G.mv rfl rfl (G.mv rfl rfl (G.q (Quiet.slen rfl Tryz.underlying33 rfl) rfl ?_))))
 refine G.oq (OpSpec.call Tryz.func103 rfl rfl (vs := [_, _]) rfl (ccount_spec w bs l.length (by omega) (by omega))) ?nx4
 rintro v L' ⟨rfl, rfl⟩
 refine G.nil (G.then_n (G.seq (G.region (G.mv rfl rfl (G.q (Quiet.slen rfl Tryz.underlying33 rfl) rfl (G.mv rfl rfl (G.nil (G.then_n (G.block ?_)))))))))
 refine G.wrCast (w := w) (bs' := bs ++ cntB l.length ++ (l.take 0).flatMap acB) (by (repeat' constructor)) (by simp) ?_
 refine G.loopK (ι := Nat) (fun q E => (14, vint q) :: E) (fun q => [wrR w (bs ++ cntB l.length ++ (l.take q).flatMap acB)]) (fun q => q ≤ l.length) (fun q => l.length - q) (0) (ts := [0, 2, 12, 13]) (.cons rfl (.cons rfl (.cons rfl (.cons rfl (.nil))))) (Nat.zero_le _) ⟨rfl, rfl, rfl, rfl, rfl, trivial⟩ (by (repeat' constructor)) ?_
 rintro j hj
 refine G.seq (G.region (G.q (Quiet.int rfl rfl rfl) rfl (G.nil (G.then_n (G.seq ?_)))))
 refine G.condD rfl (fun h15 => ?_) (fun h15 => ?_)
 ·have hj2 : j < l.length := by omega
  have hft := fm_stepL acB hj2
  refine G.rdShape (p := p) hp (by (repeat' constructor)) (by omega) fun ba oa e => ?_
  subst e
  refine G.skip (G.then_n (G.seq (G.block (G.seq (G.region ?_)))))
  refine G.q (Quiet.indexAddr rfl rfl el_33 (by omega)) rfl ?_
  refine G.q (Quiet.loadRdA (sz := 2) (j := j * 2) (k := 2) (p := p) (vs := acC l[j]) rfl ag_210 (by (repeat' constructor)) hp (by simp) (by omega) (by omega) (flatMap_at (f := acC) (sz := 2) (fun _ _ => rfl) (by omega))) rfl ?_
  refine G.oq (OpSpec.allocA ze_210) ?nx12
  rintro v L' ⟨b7, rfl, rfl⟩
  refine G.oq (OpSpec.storeA rfl rfl ?c14 sz_210 ?c17 ?c15 ?c16) ?nx18
  case c14 => simp [acC, isCell]
  case c17 => rfl
  case c15 => simp [acC]
  case c16 => exact nfz0 _ _
  rintro v L' rfl
  refine G.nil ?_
  refine G.ptCast (b := b7) (l' := acC l[j]) (by (repeat' constructor)) (by exact rfl) ?_
  refine G.then_n (G.region (G.mv rfl rfl (G.mv rfl rfl ?_)))
  refine G.q (Quiet.loadAs (vs := acC l[j]) rfl ag_210 (by (repeat' constructor)) (by simp [acC]) rfl) rfl ?_
  refine G.oq (OpSpec.callV Tryz.func211 rfl rfl (us := []) (vs := [_, _]) (ws := []) rfl rfl (wacl_spec w _ l[j] (hi _ (List.getElem_mem hj2)) ?hb22)) ?nx23
  case hb22 => rw [List.length_append, List.length_append]; omega
  rintro v L' ⟨rfl, rfl⟩
  refine G.nil (G.blk_n (G.then_n (G.region ?_)))
  refine G.q (Quiet.add rfl rfl (by omega)) rfl ?_
  refine G.mv rfl rfl (G.nil (G.then_n ?_))
  refine G.wrCast (w := w) (bs' := bs ++ cntB l.length ++ (l.take (j + 1)).flatMap acB) (by (repeat' constructor)) (by rw [fm_step acB hj2, ← List.append_assoc]) ?_
  exact G.roundK (j + 1) (by omega) (by omega) ⟨rfl, rfl, rfl, rfl, rfl, trivial⟩ (by (repeat' constructor)) (by ((repeat (apply Have.cons; (repeat (first | exact Pick.here | apply Pick.there)))); apply Have.base; repeat' constructor))
 ·have hjj : j = l.length := by omega
  rw [hjj, List.take_length, List.append_assoc]
  refine G.exit (G.then_e (G.then_e (G.blk_e (G.done_n ?_))))
  exact G.dn (l := []) rfl rfl ⟨rfl, rfl⟩

theorem ptB_len (y : Pt) : (ptB y).length = (numB y.kind).length + ((cntB y.path.length).length + y.path.length) + ((cntB y.data.length).length + y.data.length) + (aclB y.acl).length + ([y.own, y.num, y.err].flatMap numB).length := by unfold ptB txtB; simp only [List.length_append]
theorem wpart_spec (w : Nat) (bs : Bs) (y : Pt) (p : HP) (hy : PtW p y) (hl : bs.length + (ptB y).length ≤ 4294900000) (hn : y.acl.length ≤ 1048576) : Fn Tryz.prog 190 #[vptr w, .agg (ptC y).toArray] [wrR w bs, p] fun v L => v = .tuple #[] ∧ L = [wrR w (bs ++ ptB y), p] := by
 refine Fn.intro (vs := [vptr w, .agg (ptC y).toArray]) Tryz.func190 rfl rfl ?_
 intro F W
 have hpl := ptB_len y
 have hal : (cntB y.acl.length ++ y.acl.flatMap acB).length = (aclB y.acl).length := rfl
 have hiy := hy.i
 refine G.seq (G.region ?_)
 refine G.oq (OpSpec.box rfl) ?nx1
 rintro v L' ⟨b3, rfl, rfl⟩
 refine G.nil ?_
 refine G.ptCast (b := b3) (l' := ptC y) (by (repeat' constructor)) rfl ?_
 refine G.then_n (G.seq (G.region (G.mv rfl rfl (G.q (Quiet.fieldAddr rfl fo_36_0) rfl ?_))))
 refine G.q (Quiet.ld rfl ag_3) rfl ?_
 refine G.oq (OpSpec.call Tryz.func102 rfl rfl (vs := [_, _]) rfl (cnum_spec w bs y.kind hiy.kind (by omega))) ?nx6
 rintro v L' ⟨rfl, rfl⟩
 refine G.nil (G.then_n (G.seq (G.region (G.mv rfl rfl (G.q (Quiet.fieldAddr rfl fo_36_1) rfl ?_)))))
 refine G.q (Quiet.ld rfl ag_9) rfl ?_
 refine G.oq (OpSpec.call Tryz.func209 rfl rfl (vs := [_, _]) rfl (ctext_spec w _ y.path ?hb11)) ?nx12
 case hb11 => rw [List.length_append]; omega
 rintro v L' ⟨rfl, rfl⟩
 refine G.nil (G.then_n (G.seq (G.region (G.mv rfl rfl (G.q (Quiet.fieldAddr rfl fo_36_2) rfl ?_)))))
 refine G.q (Quiet.ld rfl ag_9) rfl ?_
 refine G.oq (OpSpec.call Tryz.func209 rfl rfl (vs := [_, _]) rfl (ctext_spec w _ y.data ?hb17)) ?nx18
 case hb17 => simp only [List.length_append, txtB]; omega
 rintro v L' ⟨rfl, rfl⟩
 refine G.nil (G.then_n (G.seq (G.region (G.mv rfl rfl (G.q (Quiet.fieldAddr rfl fo_36_3) rfl ?_)))))
 refine G.q (Quiet.ld rfl ag_33) rfl ?_
 refine G.oq (OpSpec.call Tryz.func210 rfl rfl (vs := [_, _, _]) rfl (wacls_spec w _ _ y.acl p hy.acl hiy.acl ?hb23 hn)) ?nx24
 case hb23 => rw [hal]; simp only [List.length_append, txtB]; omega
 rintro v L' ⟨rfl, rfl⟩
 refine G.nil (G.then_n (G.region (G.mv rfl rfl (G.q (Quiet.fieldAddr rfl fo_36_4) rfl ?_))))
 refine G.q (Quiet.ld rfl ag_3) rfl ?_
 refine G.q (Quiet.fieldAddr rfl fo_36_5) rfl ?_
 refine G.q (Quiet.ld rfl ag_3) rfl ?_
 refine G.q (Quiet.fieldAddr rfl fo_36_6) rfl ?_
 refine G.q (Quiet.ld rfl ag_25) rfl ?_
 refine G.oq (OpSpec.buildSlice1 (vs := [_, _, _]) el_31 ze_3 rfl rfl rfl rfl rfl (by decide)) ?nx33
 rintro v L' ⟨b5, rfl, rfl⟩
 refine G.slMake (b := b5) (n := 3) (c := 3) (xs := ints [y.own, y.num, y.err]) (by (repeat' constructor)) (by decide) (by simp) rfl ?_
 refine G.oq (OpSpec.call Tryz.func189 rfl rfl (vs := [_, _]) rfl (wnums_spec w _ _ [y.own, y.num, y.err] (slR 3 1 (.slice (some ⟨b5, 0, none⟩) 3 3) 3 (ints [y.own, y.num, y.err])) (fun h hp => slR_rd hp) (fun n hn => by simp only [List.mem_cons, List.not_mem_nil, or_false] at hn; rcases hn with rfl | rfl | rfl; exact hiy.own; exact hiy.num; exact hiy.err) ?hb35 (by simp))) ?nx36
 case hb35 => have h9 : (cntB y.acl.length ++ y.acl.flatMap acB).length = (aclB y.acl).length := rfl; simp only [List.length_append, txtB] at h9 ⊢; omega
 rintro v L' ⟨rfl, rfl⟩
 refine G.nil (G.done_n ?_)
 refine G.wrCast (w := w) (bs' := bs ++ ptB y) (by (repeat' constructor)) (by unfold ptB aclB; simp only [List.append_assoc]) ?_
 exact G.dn (l := []) rfl rfl ⟨rfl, rfl⟩

theorem wparts_spec (w : Nat) (bs : Bs) (va : Value) (l : List Pt) (p : HP) (hp : ∀ h : Hp, p h → rdS 8 h va l.length (l.flatMap ptC)) (hi : ∀ y ∈ l, PtW p y ∧ y.acl.length ≤ 1048576) (hl : bs.length + (cntB l.length ++ l.flatMap ptB).length ≤ 4294900000) (hn : l.length ≤ 1048576) (hcl : ∀ y ∈ l, ∀ v ∈ ptC y, isCell v = true) : Fn Tryz.prog 191 #[vptr w, va, .func (.func 190) #[] #[]] [wrR w bs, p] fun v L => v = .tuple #[] ∧ L = [wrR w (bs ++ (cntB l.length ++ l.flatMap ptB)), p] := by
 refine Fn.intro (vs := [vptr w, va, .func (.func 190) #[] #[]]) Tryz.func191 rfl rfl ?_
 intro F W
 refine G.rdAny (p := p) hp (by (repeat' constructor)) fun aa ca e0 _ => ?_
 subst e0
 rw [List.length_append] at hl
 refine G.seq (G.region (G.mv rfl rfl (G.mv rfl rfl (G.q (Quiet.slen rfl Tryz.underlying34 rfl) rfl ?_))))
 refine G.oq (OpSpec.call Tryz.func103 rfl rfl (vs := [_, _]) rfl (ccount_spec w bs l.length (by omega) (by omega))) ?nx4
 rintro v L' ⟨rfl, rfl⟩
 refine G.nil (G.then_n (G.seq (G.region (G.mv rfl rfl (G.q (Quiet.slen rfl Tryz.underlying34 rfl) rfl (G.mv rfl rfl (G.nil (G.then_n (G.block ?_)))))))))
 refine G.wrCast (w := w) (bs' := bs ++ cntB l.length ++ (l.take 0).flatMap ptB) (by (repeat' constructor)) (by simp) ?_
 refine G.loopK (ι := Nat) (fun q E => (14, vint q) :: E) (fun q => [wrR w (bs ++ cntB l.length ++ (l.take q).flatMap ptB)]) (fun q => q ≤ l.length) (fun q => l.length - q) (0) (ts := [0, 2, 12, 13]) (.cons rfl (.cons rfl (.cons rfl (.cons rfl (.nil))))) (Nat.zero_le _) ⟨rfl, rfl, rfl, rfl, rfl, trivial⟩ (by (repeat' constructor)) ?_
 rintro j hj
 refine G.seq (G.region (G.q (Quiet.int rfl rfl rfl) rfl (G.nil (G.then_n (G.seq ?_)))))
 refine G.condD rfl (fun h15 => ?_) (fun h15 => ?_)
 ·have hj2 : j < l.length := by omega
  have hft := fm_stepL ptB hj2
  refine G.rdShape (p := p) hp (by (repeat' constructor)) (by omega) fun ba oa e => ?_
  subst e
  refine G.skip (G.then_n (G.seq (G.block (G.seq (G.region ?_)))))
  refine G.q (Quiet.indexAddr rfl rfl el_34 (by omega)) rfl ?_
  refine G.q (Quiet.loadRdA (sz := 8) (j := j * 8) (k := 8) (p := p) (vs := ptC l[j]) rfl ag_36 (by (repeat' constructor)) hp (by simp) (by omega) (by omega) (flatMap_at (f := ptC) (sz := 8) (fun _ _ => rfl) (by omega))) rfl ?_
  refine G.oq (OpSpec.allocA ze_36) ?nx12
  rintro v L' ⟨b7, rfl, rfl⟩
  refine G.oq (OpSpec.storeA rfl rfl ?c14 sz_36 ?c17 ?c15 ?c16) ?nx18
  case c14 => exact hcl _ (List.getElem_mem hj2)
  case c17 => rfl
  case c15 => simp [ptC]
  case c16 => exact nfz0 _ _
  rintro v L' rfl
  refine G.nil ?_
  refine G.ptCast (b := b7) (l' := ptC l[j]) (by (repeat' constructor)) (by exact rfl) ?_
  refine G.then_n (G.region (G.mv rfl rfl (G.mv rfl rfl ?_)))
  refine G.q (Quiet.loadAs (vs := ptC l[j]) rfl ag_36 (by (repeat' constructor)) (by simp [ptC]) rfl) rfl ?_
  refine G.oq (OpSpec.callV Tryz.func190 rfl rfl (us := []) (vs := [_, _]) (ws := []) rfl rfl (wpart_spec w _ l[j] p (hi _ (List.getElem_mem hj2)).1 ?hb22 (hi _ (List.getElem_mem hj2)).2)) ?nx23
  case hb22 => rw [List.length_append, List.length_append]; omega
  rintro v L' ⟨rfl, rfl⟩
  refine G.nil (G.blk_n (G.then_n (G.region ?_)))
  refine G.q (Quiet.add rfl rfl (by omega)) rfl ?_
  refine G.mv rfl rfl (G.nil (G.then_n ?_))
  refine G.wrCast (w := w) (bs' := bs ++ cntB l.length ++ (l.take (j + 1)).flatMap ptB) (by (repeat' constructor)) (by rw [fm_step ptB hj2, ← List.append_assoc]) ?_
  exact G.roundK (j + 1) (by omega) (by omega) ⟨rfl, rfl, rfl, rfl, rfl, trivial⟩ (by (repeat' constructor)) (by ((repeat (apply Have.cons; (repeat (first | exact Pick.here | apply Pick.there)))); apply Have.base; repeat' constructor))
 ·have hjj : j = l.length := by omega
  rw [hjj, List.take_length, List.append_assoc]
  refine G.exit (G.then_e (G.then_e (G.blk_e (G.done_n ?_))))
  exact G.dn (l := []) rfl rfl ⟨rfl, rfl⟩

theorem enB_len (e : En) : (enB e).length = ([e.zx, e.ses, e.xid].flatMap numB).length + (ptB e.x).length + (subsB e.subs).length := by unfold enB; simp only [List.length_append]
theorem pt_cells {y : Pt} (h1 : isCell y.aclV = true) (h2 : isCell y.subsV = true) : ∀ v ∈ ptC y, isCell v = true := by
  intro v hv
  simp only [ptC, List.mem_cons, List.not_mem_nil, or_false] at hv
  rcases hv with rfl | rfl | rfl | rfl | rfl | rfl | rfl | rfl
  case inr.inr.inr.inl => exact h1
  case inr.inr.inr.inr.inr.inr.inr => exact h2
  all_goals rfl
structure EnL (p : HP) (e : En) : Prop where
  w : EnW p e
  len : (enB e).length ≤ 1073741824
  few : e.subs.length ≤ 1048576 ∧ e.x.acl.length ≤ 1048576 ∧ ∀ y ∈ e.subs, y.acl.length ≤ 1048576
  cx : isCell e.x.aclV = true ∧ isCell e.x.subsV = true
  cs : ∀ y ∈ e.subs, isCell y.aclV = true ∧ isCell y.subsV = true
theorem EnL.cells {p : HP} {e : En} (h : EnL p e) : ∀ v ∈ enC e, isCell v = true := by
  intro v hv
  unfold enC at hv
  rcases List.mem_append.1 hv with hv | hv
  · simp at hv; rcases hv with rfl | rfl | rfl <;> rfl
  · exact pt_cells h.cx.1 h.cx.2 v hv
theorem wentry_spec (w : Nat) (e : En) (p : HP) (he : EnL p e) : Fn Tryz.prog 155 #[vptr w, .agg (enC e).toArray] [wrR w [], p] fun v L => v = .tuple #[] ∧ L = [wrR w (enB e), p] := by
 refine Fn.intro (vs := [vptr w, .agg (enC e).toArray]) Tryz.func155 rfl rfl ?_
 intro F W
 have hel := enB_len e
 have hle := he.len
 have hie := he.w.i
 have hsb : (cntB e.subs.length ++ e.subs.flatMap ptB).length = (subsB e.subs).length := rfl
 refine G.seq (G.region ?_)
 refine G.oq (OpSpec.box rfl) ?nx1
 rintro v L' ⟨b3, rfl, rfl⟩
 refine G.nil ?_
 refine G.ptCast (b := b3) (l' := enC e) (by (repeat' constructor)) (by exact rfl) ?_
 refine G.then_n (G.seq (G.region (G.mv rfl rfl (G.q (Quiet.fieldAddr rfl fo_38_0) rfl ?_))))
 refine G.q (Quiet.ld rfl ag_3) rfl ?_
 refine G.q (Quiet.fieldAddr rfl fo_38_1) rfl ?_
 refine G.q (Quiet.ld rfl ag_3) rfl ?_
 refine G.q (Quiet.fieldAddr rfl fo_38_2) rfl ?_
 refine G.q (Quiet.ld rfl ag_3) rfl ?_
 refine G.oq (OpSpec.buildSlice1 (vs := [_, _, _]) el_31 ze_3 rfl rfl rfl rfl rfl (by decide)) ?nx10
 rintro v L' ⟨b4, rfl, rfl⟩
 refine G.slMake (b := b4) (n := 3) (c := 3) (xs := ints [e.zx, e.ses, e.xid]) (by (repeat' constructor)) (by decide) (by simp) rfl ?_
 refine G.oq (OpSpec.call Tryz.func189 rfl rfl (vs := [_, _]) rfl (wnums_spec w [] _ [e.zx, e.ses, e.xid] (slR 3 1 (.slice (some ⟨b4, 0, none⟩) 3 3) 3 (ints [e.zx, e.ses, e.xid])) (fun h hp => slR_rd hp) (fun n hn => by simp only [List.mem_cons, List.not_mem_nil, or_false] at hn; rcases hn with rfl | rfl | rfl; exact hie.zx; exact hie.ses; exact hie.xid) (by simp only [List.length_nil]; omega) (by simp))) ?nx12
 rintro v L' ⟨rfl, rfl⟩; rw [List.nil_append]
 refine G.nil (G.then_n (G.seq (G.region (G.mv rfl rfl (G.q (Quiet.fieldAddr rfl fo_38_3) rfl ?_)))))
 refine G.q (Quiet.loadAs (vs := ptC e.x) rfl ag_36 (by (repeat' constructor)) (by simp [enC, ptC]) rfl) rfl ?_
 refine G.oq (OpSpec.call Tryz.func190 rfl rfl (vs := [_, _]) rfl (wpart_spec w _ e.x p he.w.x ?hb17 he.few.2.1)) ?nx18
 case hb17 => omega
 rintro v L' ⟨rfl, rfl⟩
 refine G.nil (G.then_n (G.region (G.mv rfl rfl (G.q (Quiet.fieldAddr rfl fo_38_3) rfl (G.q (Quiet.fieldAddr rfl fo_36_7) rfl ?_)))))
 refine G.q (Quiet.ld rfl ag_34) rfl ?_
 refine G.oq (OpSpec.call Tryz.func191 rfl rfl (vs := [_, _, _]) rfl (wparts_spec w _ _ e.subs p he.w.subs (fun y hy => ⟨he.w.sub hy, he.few.2.2 y hy⟩) ?hb24 he.few.1 (fun y hy => pt_cells (he.cs y hy).1 (he.cs y hy).2))) ?nx25
 case hb24 => rw [hsb, List.length_append]; omega
 rintro v L' ⟨rfl, rfl⟩
 refine G.nil (G.done_n ?_)
 refine G.wrCast (w := w) (bs' := enB e) (by (repeat' constructor)) (by unfold enB subsB; simp only [List.append_assoc]) ?_
 exact G.dn (l := []) rfl rfl ⟨rfl, rfl⟩

end Go.Proofs.YtidjhgbdokcphaaGreat

/- Own work, by program: package wire: entries laid and read: walked. -/

namespace Go.Proofs.YtidjhgbdokcphaaGreat
open Go
def entC (m0 m1 m2 : Int) : List Value := [vint m0, vint m1, vint m2, vint 0, vstr [], vstr [], nilV, vint 0, vint 0, vint 0, nilV]
def entB (b3 : Nat) (n0 n1 n2 : Int) : Nat → HP
  | 0 => ptc b3 (entC 0 0 0) 38
  | 1 => ptc b3 (entC n0 0 0) 38
  | 2 => ptc b3 (entC n0 n1 0) 38
  | _ => ptc b3 (entC n0 n1 n2) 38
theorem into_ent (b3 : Nat) (st : Rs) :
    ∀ j (hj : j < [(b3, 0), (b3, 1), (b3, 2)].length) (E : Env) (x y : Operand) (ty : TypeId), ev E x = some (addrV [(b3, 0), (b3, 1), (b3, 2)][j]) → ev E y = some (vint (numR (manyR numR j st).2).1) →
    OpSpec Tryz.prog ⟨none, .store 3 x y, ty, "", #[], none⟩ E [entB b3 (numR (manyR numR 0 st).2).1 (numR (manyR numR 1 st).2).1 (numR (manyR numR 2 st).2).1 j]
      fun _ L' => L' = [entB b3 (numR (manyR numR 0 st).2).1 (numR (manyR numR 1 st).2).1 (numR (manyR numR 2 st).2).1 (j + 1)] := by
  intro j hj E x y ty hx hy
  match j, hj with
  | 0, _ => exact OpSpec.store (off := 0) hx hy rfl sz_3 (by simp [entC]) (nfz0 _ _)
  | 1, _ => exact OpSpec.store (off := 1) hx hy rfl sz_3 (by simp [entC]) (nfz0 _ _)
  | 2, _ => exact OpSpec.store (off := 2) hx hy rfl sz_3 (by simp [entC]) (nfz0 _ _)
def partC (v0 : Int) (v1 v2 : Bs) (v3 : Value) (m0 m1 : Int) : List Value := [vint v0, vstr v1, vstr v2, v3, vint m0, vint m1, vint 0, nilV]
def partB (b3 b4 : Nat) (v0 : Int) (v1 v2 : Bs) (v3 : Value) (n0 n1 n2 : Int) : Nat → HP
  | 0 => sep [ptc b3 (partC v0 v1 v2 v3 0 0) 36, ptc b4 [vint 0] 3]
  | 1 => sep [ptc b3 (partC v0 v1 v2 v3 n0 0) 36, ptc b4 [vint 0] 3]
  | 2 => sep [ptc b3 (partC v0 v1 v2 v3 n0 n1) 36, ptc b4 [vint 0] 3]
  | _ => sep [ptc b3 (partC v0 v1 v2 v3 n0 n1) 36, ptc b4 [vint n2] 3]
theorem into_part (b3 b4 : Nat) (v0 : Int) (v1 v2 : Bs) (v3 : Value) (st : Rs) :
    ∀ j (hj : j < [(b3, 4), (b3, 5), (b4, 0)].length) (E : Env) (x y : Operand) (ty : TypeId), ev E x = some (addrV [(b3, 4), (b3, 5), (b4, 0)][j]) → ev E y = some (vint (numR (manyR numR j st).2).1) →
    OpSpec Tryz.prog ⟨none, .store 3 x y, ty, "", #[], none⟩ E [partB b3 b4 v0 v1 v2 v3 (numR (manyR numR 0 st).2).1 (numR (manyR numR 1 st).2).1 (numR (manyR numR 2 st).2).1 j]
      fun _ L' => L' = [partB b3 b4 v0 v1 v2 v3 (numR (manyR numR 0 st).2).1 (numR (manyR numR 1 st).2).1 (numR (manyR numR 2 st).2).1 (j + 1)] := by
  intro j hj E x y ty hx hy
  match j, hj with
  | 0, _ => exact OpSpec.inL (OpSpec.store (off := 4) hx hy rfl sz_3 (by simp [partC]) (nfz0 _ _))
  | 1, _ => exact OpSpec.inL (OpSpec.store (off := 5) hx hy rfl sz_3 (by simp [partC]) (nfz0 _ _))
  | 2, _ => exact OpSpec.inR (OpSpec.store (off := 0) hx hy rfl sz_3 (by simp) (nfz0 _ _))
theorem wputG_spec (e : En) (p : HP) (he : EnL p e) : Fn Tryz.prog 154 #[.agg (enC e).toArray, .func (.func 155) #[] #[]] [p] fun v L => v = vstr (enB e) ∧ L = [p] := by
 refine Fn.intro (vs := [.agg (enC e).toArray, .func (.func 155) #[] #[]]) Tryz.func154 rfl rfl ?_
 intro F W
 refine G.seq (G.region ?_)
 refine G.oq (OpSpec.box rfl) ?nx1
 rintro v L' ⟨b2, rfl, rfl⟩
 refine G.ag rfl rfl (G.nil ?_)
 refine G.ptCast (b := b2) (l' := enC e) (by (repeat' constructor)) (by exact rfl) ?_
 refine G.then_n (G.seq (G.region ?_))
 refine G.oq (OpSpec.call Tryz.func101 rfl rfl (vs := []) rfl (cnew_spec)) ?nx4
 rintro v L' ⟨cw, rfl, rfl⟩
 refine G.ag rfl rfl (G.nil (G.then_n (G.seq (G.region (G.mv rfl rfl (G.mv rfl rfl ?_))))))
 refine G.q (Quiet.loadAs (vs := enC e) rfl ag_38 (by (repeat' constructor)) (by simp [enC, ptC]) rfl) rfl ?_
 refine G.oq (OpSpec.callV Tryz.func155 rfl rfl (us := []) (vs := [_, _]) (ws := []) rfl rfl (wentry_spec cw e p he)) ?nx8
 rintro v L' ⟨rfl, rfl⟩
 refine G.nil (G.then_n (G.seq (G.region (G.mv rfl rfl ?_))))
 refine G.oq (OpSpec.call Tryz.func104 rfl rfl (vs := [_]) rfl (cbytes_spec _ _)) ?nx10
 rintro v L' ⟨rfl, rfl⟩
 refine G.ag rfl rfl (G.nil (G.then_n (G.ret ?_)))
 exact G.dn (l := [.tmp 4]) rfl rfl ⟨rfl, rfl⟩

theorem wput_spec (e : En) (p : HP) (he : EnL p e) : Fn Tryz.prog 108 #[.agg (enC e).toArray] [p] fun v L => v = vstr (enB e) ∧ L = [p] := by
 refine Fn.intro (vs := [.agg (enC e).toArray]) Tryz.func108 rfl rfl ?_
 intro F W
 refine G.seq (G.region ?_)
 refine G.oq (OpSpec.box rfl) ?nx1
 rintro v L' ⟨b1, rfl, rfl⟩
 refine G.ag rfl rfl (G.nil ?_)
 refine G.ptCast (b := b1) (l' := enC e) (by (repeat' constructor)) (by exact rfl) ?_
 refine G.then_n (G.seq (G.region ?_))
 refine G.q (Quiet.loadAs (vs := enC e) rfl ag_38 (by (repeat' constructor)) (by simp [enC, ptC]) rfl) rfl ?_
 refine G.oq (OpSpec.call Tryz.func154 rfl rfl (vs := [_, _]) rfl (wputG_spec e p he)) ?nx5
 rintro v L' ⟨rfl, rfl⟩
 refine G.ag rfl rfl (G.nil (G.then_n (G.ret ?_)))
 exact G.dn (l := [.tmp 2]) rfl rfl ⟨rfl, rfl⟩

theorem wtext_spec (r : Nat) (st : Rs) : Fn Tryz.prog 192 #[vptr r] [rdR r st] fun v L => v = vstr (txtR st).1 ∧ L = [rdR r (txtR st).2] := by
 refine Fn.intro (vs := [vptr r]) Tryz.func192 rfl rfl ?_
 intro F W
 refine G.seq (G.region (G.ag rfl rfl (G.nil (G.then_n (G.seq (G.region (G.mv rfl rfl ?_)))))))
 refine G.oq (OpSpec.call Tryz.func212 rfl rfl (vs := [_, _]) rfl (rtext_spec r 4096 (by decide) st)) ?nx3
 rintro v L' ⟨rfl, rfl⟩
 refine G.ag rfl rfl (G.nil (G.then_n (G.ret ?_)))
 exact G.dn (l := [.tmp 2]) rfl rfl ⟨rfl, rfl⟩

theorem wnum_spec (r : Nat) (st : Rs) : Fn Tryz.prog 118 #[vptr r] [rdR r st] fun v L => v = vint (numR st).1 ∧ L = [rdR r (numR st).2] := rnum_spec r st
theorem winto_spec (r : Nat) (st : Rs) (va : Value) (ad : List (Nat × Nat)) (q : HP) (hq : ∀ h : Hp, q h → rdS 1 h va ad.length (ad.map addrV)) (B : Nat → HP)
    (hB : ∀ j (hj : j < ad.length) (E : Env) (x y : Operand) (ty : TypeId), ev E x = some (addrV ad[j]) → ev E y = some (vint (numR (manyR numR j st).2).1) → OpSpec Tryz.prog ⟨none, .store 3 x y, ty, "", #[], none⟩ E [B j] fun _ L' => L' = [B (j + 1)]) (hn : ad.length ≤ 1048576) :
    Fn Tryz.prog 156 #[vptr r, va] [rdR r st, q, B 0] fun v L => v = .tuple #[] ∧ L = [rdR r (manyR numR ad.length st).2, q, B ad.length] := by
 refine Fn.intro (vs := [vptr r, va]) Tryz.func156 rfl rfl ?_
 intro F W
 refine G.rdAny (p := q) hq (by (repeat' constructor)) fun aa ca e0 _ => ?_
 subst e0
 refine G.seq (G.region (G.mv rfl rfl (G.q (Quiet.slen rfl Tryz.underlying218 rfl) rfl (G.mv rfl rfl (G.nil (G.then_n (G.block ?_)))))))
 refine G.loopK (ι := Nat) (fun q E => (8, vint q) :: E) (fun q => [rdR r (manyR numR q st).2, B q]) (fun q => q ≤ ad.length) (fun q => ad.length - q) (0) (ts := [0, 6, 7]) (.cons rfl (.cons rfl (.cons rfl (.nil)))) (Nat.zero_le _) ⟨rfl, rfl, rfl, rfl, trivial⟩ (by (repeat' constructor)) ?_
 rintro j hj
 refine G.seq (G.region (G.q (Quiet.int rfl rfl rfl) rfl (G.nil (G.then_n (G.seq ?_)))))
 refine G.condD rfl (fun h9 => ?_) (fun h9 => ?_)
 ·have hj2 : j < ad.length := by omega
  refine G.rdShape (p := q) hq (by (repeat' constructor)) (by omega) fun ba oa e => ?_
  subst e
  refine G.skip (G.then_n (G.seq (G.block (G.seq (G.region ?_)))))
  refine G.q (Quiet.indexAddr rfl rfl el_218 (by omega)) rfl ?_
  refine G.q (Quiet.loadEl (p := q) (i := j * 1) (v := addrV ad[j]) rfl ag_195 (by (repeat' constructor)) hq (by simp [hj2])) rfl ?_
  refine G.ag rfl rfl (G.nil (G.then_n (G.region (G.mv rfl rfl (G.mv rfl rfl ?_)))))
  refine G.oq (OpSpec.call Tryz.func118 rfl rfl (vs := [_]) rfl (wnum_spec r _)) ?nx8
  rintro v L' ⟨rfl, rfl⟩
  refine G.q (Quiet.nilp rfl) rfl ?_
  refine G.oq (hB j hj2 _ _ _ _ rfl rfl) ?nx11
  rintro v L' rfl
  refine G.nil (G.blk_n (G.then_n (G.region ?_)))
  refine G.q (Quiet.add rfl rfl (by omega)) rfl ?_
  refine G.mv rfl rfl (G.nil (G.then_n ?_))
  exact G.roundK (j + 1) (by omega) (by omega) ⟨rfl, rfl, rfl, rfl, trivial⟩ (by (repeat' constructor)) (by ((repeat (apply Have.cons; (repeat (first | exact Pick.here | apply Pick.there)))); apply Have.base; repeat' constructor))
 ·have hjj : j = ad.length := by omega
  rw [hjj]
  refine G.exit (G.then_e (G.then_e (G.blk_e (G.done_n ?_))))
  exact G.dn (l := []) rfl rfl ⟨rfl, rfl⟩

theorem wtacl_spec (r : Nat) (st : Rs) : Fn Tryz.prog 194 #[vptr r] [rdR r st] fun v L => v = .agg (acC (acR st).1).toArray ∧ L = [rdR r (acR st).2] := by
 refine Fn.intro (vs := [vptr r]) Tryz.func194 rfl rfl ?_
 intro F W
 refine G.seq (G.region ?_)
 refine G.oq (OpSpec.allocA ze_210) ?nx1
 rintro v L' ⟨b2, rfl, rfl⟩
 refine G.nil (G.then_n (G.seq (G.region (G.mv rfl rfl ?_))))
 refine G.oq (OpSpec.call Tryz.func118 rfl rfl (vs := [_]) rfl (wnum_spec r st)) ?nx4
 rintro v L' ⟨rfl, rfl⟩
 refine G.ag rfl rfl (G.nil (G.then_n (G.seq (G.region (G.mv rfl rfl (G.mv rfl rfl ?_))))))
 refine G.oq (OpSpec.call Tryz.func192 rfl rfl (vs := [_]) rfl (wtext_spec r _)) ?nx7
 rintro v L' ⟨rfl, rfl⟩
 refine G.q (Quiet.to (v' := .agg (acC (acR st).1).toArray) (Quiet.build (us := [(0, _), (1, _)]) fl_210 ze_210 rfl rfl (by simp [isCell])) rfl) rfl ?_
 refine G.oq (OpSpec.storeA rfl rfl ?c10 sz_210 ?c13 ?c11 ?c12) ?nx14
 case c10 => simp [acC, isCell]
 case c13 => rfl
 case c11 => simp [acC]
 case c12 => exact nfz0 _ _
 rintro v L' rfl
 refine G.nil (G.then_n (G.ret ?_))
 refine G.ptCast (b := b2) (l' := acC (acR st).1) (by (repeat' constructor)) (by exact rfl) ?_
 exact G.done1 rfl (.cellA rfl ag_210 (by (repeat' constructor)) (by simp [acC]) rfl) ⟨rfl, rfl⟩ (by (repeat' constructor)) (by (repeat' constructor))

theorem wracl_spec (r : Nat) (st : Rs) : Fn Tryz.prog 193 #[vptr r, .func (.func 194) #[] #[]] [rdR r st] fun v L => ∃ a c, v = .slice a (rowsR acR st).1.length c ∧ L = [rdR r (rowsR acR st).2, slR 210 2 v (rowsR acR st).1.length ((rowsR acR st).1.flatMap acC)] := by
 refine Fn.intro (vs := [vptr r, .func (.func 194) #[] #[]]) Tryz.func193 rfl rfl ?_
 intro F W
 obtain ⟨m, hm⟩ : ∃ m, m = (cntR st).1 := ⟨_, rfl⟩
 obtain ⟨st1, hst1⟩ : ∃ s, s = (cntR st).2 := ⟨_, rfl⟩
 have hm2 := cntR_le st
 have hrow : rowsR acR st = manyR acR m st1 := by rw [hm, hst1]; rfl
 have hml := many_len acR st1 m
 rw [hrow, hml]
 refine G.seq (G.region (G.ag rfl rfl (G.nil (G.then_n (G.seq (G.add (slR_nil 210 2) (G.region (G.ag rfl rfl (G.nil (G.then_n (G.seq (G.seq (G.region (G.mv rfl rfl ?_))))))))))))))
 refine G.oq (OpSpec.call Tryz.func119 rfl rfl (vs := [_, _]) rfl (rcount_spec r 256 (by decide) st)) ?nx4
 rintro v L' ⟨rfl, rfl⟩; rw [show (runP 0 (cntP 256) st).1 = m from hm.symm, show (runP 0 (cntP 256) st).2 = st1 from hst1.symm]
 refine G.mv rfl rfl (G.nil (G.then_n (G.block ?_)))
 refine G.loopK (ι := Nat × Value) (fun q E => (8, vint q.1) :: (5, q.2) :: E) (fun q => [rdR r (manyR acR q.1 st1).2, slR 210 2 q.2 q.1 ((manyR acR q.1 st1).1.flatMap acC)]) (fun q => q.1 ≤ m ∧ ∃ a c, q.2 = .slice a q.1 c) (fun q => m - q.1) (0, .slice none 0 0) (ts := [0, 1, 4, 7]) (.cons rfl (.cons rfl (.cons rfl (.cons rfl (.nil))))) (⟨Nat.zero_le _, none, 0, rfl⟩) ⟨rfl, rfl, rfl, rfl, rfl, rfl, trivial⟩ (by (repeat' constructor)) ?_
 rintro ⟨j, u⟩ ⟨hj, au, cu, hu⟩
 dsimp only
 dsimp only at hj hu
 subst hu
 refine G.seq (G.region (G.q (Quiet.int rfl rfl rfl) rfl (G.nil (G.then_n (G.seq ?_)))))
 refine G.condD rfl (fun h9 => ?_) (fun h9 => ?_)
 ·have hj2 : j < m := by omega
  refine G.skip (G.then_n (G.seq (G.block (G.region (G.mv rfl rfl (G.mv rfl rfl (G.mv rfl rfl ?_)))))))
  refine G.oq (OpSpec.callV Tryz.func194 rfl rfl (us := []) (vs := [_]) (ws := []) rfl rfl (wtacl_spec r _)) ?nx11
  rintro v L' ⟨rfl, rfl⟩
  refine G.oq (OpSpec.buildSlice (vs := [_]) el_33 ze_210 rfl rfl rfl rfl (by first | (simp [Value.cells]; done) | (intro v hv; simp only [List.mem_cons, List.not_mem_nil, or_false] at hv; (repeat (first | (subst hv; rfl) | (rcases hv with hv | hv; (subst hv; rfl)))))) (by decide)) ?nx13
  rintro v L' ⟨b4, rfl, rfl⟩
  refine G.oq (OpSpec.append1 rfl rfl rfl el_33 ze_210 rfl rfl ?c15 ?c16 (Nat.le_refl _) ?c17 (by decide)) ?nx18
  case c15 => simp only [List.map_cons, List.map_nil, List.flatten_cons, List.flatten_nil, List.append_nil]; simp [Value.cells, acC, isCell]
  case c16 => rfl
  case c17 => omega
  rintro v L' ⟨⟨a5, c5, rfl⟩, rfl⟩
  refine G.ag rfl rfl (G.nil (G.blk_n (G.then_n (G.region ?_))))
  refine G.q (Quiet.add rfl rfl (by omega)) rfl ?_
  refine G.mv rfl rfl (G.nil (G.then_n ?_))
  refine G.slCast (T := 210) (sz := 2) (m' := j + 1) (xs' := (manyR acR (j + 1) st1).1.flatMap acC) (by (repeat' constructor)) (by exact rfl) (by show _ = ((manyR acR j st1).1 ++ [_]).flatMap acC; rw [List.flatMap_append]; simp [Value.cells, acC]) ?_
  exact G.roundK ((j + 1, .slice a5 (j + 1) c5)) (⟨by dsimp only; omega, _, _, rfl⟩) (by dsimp only; omega) ⟨rfl, rfl, rfl, rfl, rfl, rfl, trivial⟩ (by (repeat' constructor)) (by ((repeat (apply Have.cons; (repeat (first | exact Pick.here | apply Pick.there)))); apply Have.base; repeat' constructor))
 ·have hjj : j = m := by omega
  subst hjj
  refine G.exit (G.then_e (G.then_e (G.blk_e (G.then_n (G.seq (G.region (G.mv rfl rfl (G.ag rfl rfl (G.nil (G.then_n (G.ret ?_)))))))))))
  exact G.dn (l := [.tmp 4]) rfl rfl ⟨_, _, rfl, rfl⟩

theorem wtpart_spec (r : Nat) (st : Rs) : Fn Tryz.prog 157 #[vptr r] [rdR r st] fun v L => ∃ aa ca, v = .agg (ptC ((ptR st).1.wa (.slice aa (ptR st).1.acl.length ca))).toArray ∧ L = [rdR r (ptR st).2, aclR ((ptR st).1.wa (.slice aa (ptR st).1.acl.length ca))] := by
 refine Fn.intro (vs := [vptr r]) Tryz.func157 rfl rfl ?_
 intro F W
 refine G.seq (G.region ?_)
 refine G.oq (OpSpec.allocA ze_36) ?nx1
 rintro v L' ⟨b2, rfl, rfl⟩
 refine G.nil (G.then_n (G.seq (G.region ?_)))
 refine G.oq (OpSpec.allocA ze_36) ?nx3
 rintro v L' ⟨b3, rfl, rfl⟩
 refine G.nil (G.then_n (G.seq (G.region (G.mv rfl rfl ?_))))
 refine G.oq (OpSpec.call Tryz.func118 rfl rfl (vs := [_]) rfl (wnum_spec r st)) ?nx6
 rintro v L' ⟨rfl, rfl⟩
 refine G.q (Quiet.fieldAddr rfl fo_36_0) rfl ?_
 refine G.oq (OpSpec.store rfl rfl rfl sz_3 ?c9 ?c10) ?nx11
 case c9 => first | decide | (simp; omega) | simp
 case c10 => exact nfz0 _ _
 rintro v L' rfl
 refine G.nil (G.then_n (G.seq (G.region (G.mv rfl rfl ?_))))
 refine G.oq (OpSpec.call Tryz.func192 rfl rfl (vs := [_]) rfl (wtext_spec r _)) ?nx13
 rintro v L' ⟨rfl, rfl⟩
 refine G.q (Quiet.fieldAddr rfl fo_36_1) rfl ?_
 refine G.oq (OpSpec.store rfl rfl rfl sz_9 ?c16 ?c17) ?nx18
 case c16 => first | decide | (simp; omega) | simp
 case c17 => exact nfz0 _ _
 rintro v L' rfl
 refine G.nil (G.then_n (G.seq (G.region (G.mv rfl rfl ?_))))
 refine G.oq (OpSpec.call Tryz.func192 rfl rfl (vs := [_]) rfl (wtext_spec r _)) ?nx20
 rintro v L' ⟨rfl, rfl⟩
 refine G.q (Quiet.fieldAddr rfl fo_36_2) rfl ?_
 refine G.oq (OpSpec.store rfl rfl rfl sz_9 ?c23 ?c24) ?nx25
 case c23 => first | decide | (simp; omega) | simp
 case c24 => exact nfz0 _ _
 rintro v L' rfl
 refine G.nil (G.then_n (G.seq (G.region (G.mv rfl rfl ?_))))
 refine G.oq (OpSpec.call Tryz.func193 rfl rfl (vs := [_, _]) rfl (wracl_spec r _)) ?nx27
 rintro v L' ⟨aa, ca, rfl, rfl⟩
 refine G.q (Quiet.fieldAddr rfl fo_36_3) rfl ?_
 refine G.oq (OpSpec.store rfl rfl rfl sz_33 ?c30 ?c31) ?nx32
 case c30 => first | decide | (simp; omega) | simp
 case c31 => exact nfz0 _ _
 rintro v L' rfl
 refine G.nil (G.then_n (G.seq (G.region ?_)))
 refine G.oq (OpSpec.alloc ze_3) ?nx33
 rintro v L' ⟨b4, rfl, rfl⟩
 refine G.nil (G.then_n (G.seq (G.region (G.mv rfl rfl (G.q (Quiet.fieldAddr rfl fo_36_4) rfl (G.q (Quiet.fieldAddr rfl fo_36_5) rfl ?_))))))
 refine G.oq (OpSpec.buildSlice1 (vs := [_, _, _]) el_218 ze_195 rfl rfl rfl rfl rfl (by decide)) ?nx38
 rintro v L' ⟨b5, rfl, rfl⟩
 refine G.slMake (b := b5) (n := 3) (c := 3) (xs := [(b3, 4), (b3, 5), (b4, 0)].map addrV) (by (repeat' constructor)) (by decide) (by simp) rfl ?_
 refine G.ptCast (b := b3) (l' := partC (numR st).1 (txtR (numR st).2).1 (txtR (txtR (numR st).2).2).1 (.slice aa (rowsR acR (txtR (txtR (numR st).2).2).2).1.length ca) 0 0) (by (repeat' constructor)) (by exact rfl) ?_
 refine G.fold (p := partB b3 b4 (numR st).1 (txtR (numR st).2).1 (txtR (txtR (numR st).2).2).1 (.slice aa (rowsR acR (txtR (txtR (numR st).2).2).2).1.length ca) (numR (manyR numR 0 (rowsR acR (txtR (txtR (numR st).2).2).2).2).2).1 (numR (manyR numR 1 (rowsR acR (txtR (txtR (numR st).2).2).2).2).2).1 (numR (manyR numR 2 (rowsR acR (txtR (txtR (numR st).2).2).2).2).2).1 0) (q := [ptc b3 (partC (numR st).1 (txtR (numR st).2).1 (txtR (txtR (numR st).2).2).1 (.slice aa (rowsR acR (txtR (txtR (numR st).2).2).2).1.length ca) 0 0) 36, ptc b4 [vint 0] 3]) (by (repeat' constructor)) (fun _ hp => hp) ?_
 refine G.oq (OpSpec.call Tryz.func156 rfl rfl (vs := [_, _]) rfl (winto_spec r (rowsR acR (txtR (txtR (numR st).2).2).2).2 _ [(b3, 4), (b3, 5), (b4, 0)] (slR 195 1 (.slice (some ⟨b5, 0, none⟩) 3 3) 3 ([(b3, 4), (b3, 5), (b4, 0)].map addrV)) (fun h hp => slR_rd hp) (partB b3 b4 (numR st).1 (txtR (numR st).2).1 (txtR (txtR (numR st).2).2).1 (.slice aa (rowsR acR (txtR (txtR (numR st).2).2).2).1.length ca) (numR (manyR numR 0 (rowsR acR (txtR (txtR (numR st).2).2).2).2).2).1 (numR (manyR numR 1 (rowsR acR (txtR (txtR (numR st).2).2).2).2).2).1 (numR (manyR numR 2 (rowsR acR (txtR (txtR (numR st).2).2).2).2).2).1) ?hB40 (by simp))) ?nx41
 case hB40 => exact into_part b3 b4 _ _ _ _ _
 rintro v L' ⟨rfl, rfl⟩
 refine G.nil ?_
 refine G.focus (p := partB b3 b4 (numR st).1 (txtR (numR st).2).1 (txtR (txtR (numR st).2).2).1 (.slice aa (rowsR acR (txtR (txtR (numR st).2).2).2).1.length ca) (numR (manyR numR 0 (rowsR acR (txtR (txtR (numR st).2).2).2).2).2).1 (numR (manyR numR 1 (rowsR acR (txtR (txtR (numR st).2).2).2).2).2).1 (numR (manyR numR 2 (rowsR acR (txtR (txtR (numR st).2).2).2).2).2).1 3) (by (repeat' constructor)) (G.unfold (q := [ptc b3 (partC (numR st).1 (txtR (numR st).2).1 (txtR (txtR (numR st).2).2).1 (.slice aa (rowsR acR (txtR (txtR (numR st).2).2).2).1.length ca) (numR (manyR numR 0 (rowsR acR (txtR (txtR (numR st).2).2).2).2).2).1 (numR (manyR numR 1 (rowsR acR (txtR (txtR (numR st).2).2).2).2).2).1) 36, ptc b4 [vint (numR (manyR numR 2 (rowsR acR (txtR (txtR (numR st).2).2).2).2).2).1] 3]) (fun _ hp => hp) ?_)
 simp only [List.cons_append, List.nil_append]
 refine G.then_n (G.seq (G.region ?_))
 refine G.q (Quiet.ld rfl ag_3) rfl ?_
 refine G.q (Quiet.fieldAddr rfl fo_36_6) rfl ?_
 refine G.oq (OpSpec.store rfl rfl rfl sz_25 ?c45 ?c46) ?nx47
 case c45 => simp [partC]
 case c46 => exact nfz0 _ _
 rintro v L' rfl
 refine G.nil ?_
 refine G.ptCast (b := b3) (l' := ptC ((ptR st).1.wa (.slice aa (rowsR acR (txtR (txtR (numR st).2).2).2).1.length ca))) (by (repeat' constructor)) (by exact rfl) ?_
 refine G.then_n (G.seq (G.region ?_))
 refine G.q (Quiet.loadAs (vs := ptC ((ptR st).1.wa (.slice aa (rowsR acR (txtR (txtR (numR st).2).2).2).1.length ca))) rfl ag_36 (by (repeat' constructor)) (by simp [ptC]) rfl) rfl ?_
 refine G.oq (OpSpec.storeA rfl rfl ?c49 sz_36 ?c52 ?c50 ?c51) ?nx53
 case c49 => exact pt_cells rfl rfl
 case c52 => rfl
 case c50 => simp [ptC]
 case c51 => exact nfz0 _ _
 rintro v L' rfl
 refine G.nil (G.then_n (G.ret ?_))
 refine G.ptCast (b := b2) (l' := ptC ((ptR st).1.wa (.slice aa (rowsR acR (txtR (txtR (numR st).2).2).2).1.length ca))) (by (repeat' constructor)) (by exact rfl) ?_
 exact G.done1 rfl (.cellA rfl ag_36 (by (repeat' constructor)) (by simp [ptC]) rfl) ⟨_, _, rfl, rfl⟩ (by (repeat' constructor)) (by (repeat' constructor))

structure EnK (e : En) : Prop where
  x : isCell e.x.aclV = true ∧ isCell e.x.subsV = true
  subs : ∀ y ∈ e.subs, isCell y.aclV = true ∧ y.subsV = nilV
theorem EnK.cells {e : En} (h : EnK e) : ∀ v ∈ enC e, isCell v = true := by
  intro v hv
  unfold enC at hv
  rcases List.mem_append.1 hv with hv | hv
  · simp at hv; rcases hv with rfl | rfl | rfl <;> rfl
  · exact pt_cells h.x.1 h.x.2 v hv
def pt0 : Pt := ⟨0, [], [], nilV, [], 0, 0, 0, nilV⟩
def en0 : En := ⟨0, 0, 0, pt0, []⟩
theorem entR_0 : ∀ h, entR en0 h := fun h => ⟨fun _ => none, h, fun _ => .inl rfl, fun _ _ e => (by cases e), fun _ _ e => e, slR_nil _ _ _, fun _ => none, h, fun _ => .inl rfl, fun _ _ e => (by cases e), fun _ _ e => e, slR_nil _ _ _, fun _ => none, h, fun _ => .inl rfl, fun _ _ e => (by cases e), fun _ _ e => e, trivial, trivial⟩
def GotZ (s : Bs) (e : En) (er : Int) : Prop := (er = 0 ∧ getZ s = some e.pl ∧ EnK e) ∨ (er = 120 ∧ getZ s = none ∧ e = en0)
theorem wrpart_spec (r : Nat) (st : Rs) : Fn Tryz.prog 158 #[vptr r, .func (.func 157) #[] #[]] [rdR r st] fun v L => ∃ a c, ∃ ys : List Pt, ys.map Pt.pl = (rowsR ptR st).1 ∧ (∀ y ∈ ys, isCell y.aclV = true ∧ y.subsV = nilV) ∧ v = .slice a ys.length c ∧ L = [rdR r (rowsR ptR st).2, slR 36 8 v ys.length (ys.flatMap ptC), bigR aclR ys] := by
 refine Fn.intro (vs := [vptr r, .func (.func 157) #[] #[]]) Tryz.func158 rfl rfl ?_
 intro F W
 obtain ⟨m, hm⟩ : ∃ m, m = (cntR st).1 := ⟨_, rfl⟩
 obtain ⟨st1, hst1⟩ : ∃ s, s = (cntR st).2 := ⟨_, rfl⟩
 have hm2 := cntR_le st
 have hrow : rowsR ptR st = manyR ptR m st1 := by rw [hm, hst1]; rfl
 rw [hrow]
 refine G.seq (G.region (G.ag rfl rfl (G.nil (G.then_n (G.seq (G.add (slR_nil 36 8) ?_))))))
 refine G.add (p := bigR aclR []) (fun h => big_nil h) ?_
 refine G.region (G.ag rfl rfl (G.nil (G.then_n (G.seq (G.seq (G.region (G.mv rfl rfl ?_)))))))
 refine G.oq (OpSpec.call Tryz.func119 rfl rfl (vs := [_, _]) rfl (rcount_spec r 256 (by decide) st)) ?nx4
 rintro v L' ⟨rfl, rfl⟩; rw [show (runP 0 (cntP 256) st).1 = m from hm.symm, show (runP 0 (cntP 256) st).2 = st1 from hst1.symm]
 refine G.mv rfl rfl (G.nil (G.then_n (G.block ?_)))
 refine G.loopK (ι := Nat × Value × (List Pt)) (fun q E => (8, vint q.1) :: (5, q.2.1) :: E) (fun q => [rdR r (manyR ptR q.1 st1).2, slR 36 8 q.2.1 q.1 (q.2.2.flatMap ptC), bigR aclR q.2.2]) (fun q => q.1 ≤ m ∧ (∃ a c, q.2.1 = .slice a q.1 c) ∧ q.2.2.map Pt.pl = (manyR ptR q.1 st1).1 ∧ ∀ y ∈ q.2.2, isCell y.aclV = true ∧ y.subsV = nilV) (fun q => m - q.1) (0, .slice none 0 0, []) (ts := [0, 1, 4, 7]) (.cons rfl (.cons rfl (.cons rfl (.cons rfl (.nil))))) (⟨Nat.zero_le _, ⟨none, 0, rfl⟩, rfl, fun y hy => by cases hy⟩) ⟨rfl, rfl, rfl, rfl, rfl, rfl, trivial⟩ (by (repeat' constructor)) ?_
 rintro ⟨j, u, ys⟩ ⟨hj, ⟨au, cu, hu⟩, hys, hyc⟩
 dsimp only
 dsimp only at hj hu hys hyc
 subst hu
 refine G.seq (G.region (G.q (Quiet.int rfl rfl rfl) rfl (G.nil (G.then_n (G.seq ?_)))))
 refine G.condD rfl (fun h9 => ?_) (fun h9 => ?_)
 ·have hj2 : j < m := by omega
  refine G.skip (G.then_n (G.seq (G.block (G.region (G.mv rfl rfl (G.mv rfl rfl (G.mv rfl rfl ?_)))))))
  refine G.oq (OpSpec.callV Tryz.func157 rfl rfl (us := []) (vs := [_]) (ws := []) rfl rfl (wtpart_spec r _)) ?nx11
  rintro v L' ⟨ab, cb, rfl, rfl⟩; obtain ⟨y, hy⟩ : ∃ y : Pt, y = ((ptR (manyR ptR j st1).2).1.wa (.slice ab (ptR (manyR ptR j st1).2).1.acl.length cb)) := ⟨_, rfl⟩; rw [← hy]; have hyk : isCell y.aclV = true ∧ y.subsV = nilV := by (rw [hy]; exact ⟨rfl, rfl⟩)
  refine G.oq (OpSpec.buildSlice (vs := [_]) el_34 ze_36 rfl rfl rfl rfl (by first | (simp [Value.cells]; done) | (intro v hv; simp only [List.mem_cons, List.not_mem_nil, or_false] at hv; (repeat (first | (subst hv; rfl) | (rcases hv with hv | hv; (subst hv; rfl)))))) (by decide)) ?nx13
  rintro v L' ⟨b4, rfl, rfl⟩
  refine G.oq (OpSpec.append1 rfl rfl rfl el_34 ze_36 rfl rfl ?c15 ?c16 (Nat.le_refl _) ?c17 (by decide)) ?nx18
  case c15 => simp only [List.map_cons, List.map_nil, List.flatten_cons, List.flatten_nil, List.append_nil]; simp only [Value.cells]; intro z hz; exact pt_cells (y := y) hyk.1 (by rw [hyk.2]; rfl) z (by simpa using hz)
  case c16 => rfl
  case c17 => omega
  rintro v L' ⟨⟨a5, c5, rfl⟩, rfl⟩
  refine G.ag rfl rfl (G.nil (G.blk_n (G.then_n (G.region ?_))))
  refine G.q (Quiet.add rfl rfl (by omega)) rfl ?_
  refine G.mv rfl rfl (G.nil (G.then_n ?_))
  refine G.bigAdd (f := aclR) (l := ys) (p := aclR y) y rfl (by (repeat' constructor)) ?_
  refine G.slCast (T := 36) (sz := 8) (m' := j + 1) (xs' := (ys ++ [y]).flatMap ptC) (by (repeat' constructor)) (by exact rfl) (by rw [List.flatMap_append]; simp [Value.cells]) ?_
  exact G.roundK ((j + 1, .slice a5 (j + 1) c5, ys ++ [y])) (⟨by dsimp only; omega, ⟨_, _, rfl⟩, by show (ys ++ [y]).map Pt.pl = (manyR ptR j st1).1 ++ [_]; rw [List.map_append, hys, hy]; rfl, fun z hz => by rcases List.mem_append.1 hz with hz | hz; exact hyc z hz; rw [List.mem_singleton] at hz; subst hz; rw [hy]; exact ⟨rfl, rfl⟩⟩) (by dsimp only; omega) ⟨rfl, rfl, rfl, rfl, rfl, rfl, trivial⟩ (by (repeat' constructor)) (by ((repeat (apply Have.cons; (repeat (first | exact Pick.here | apply Pick.there)))); apply Have.base; repeat' constructor))
 ·have hjj : j = m := by omega
  subst hjj
  have hyl : ys.length = j := by have h := congrArg List.length hys; rw [List.length_map, many_len] at h; exact h
  refine G.slCast (T := 36) (sz := 8) (m' := ys.length) (xs' := ys.flatMap ptC) (by (repeat' constructor)) (by rw [hyl]) rfl ?_
  refine G.exit (G.then_e (G.then_e (G.blk_e (G.then_n (G.seq (G.region (G.mv rfl rfl (G.ag rfl rfl (G.nil (G.then_n (G.ret ?_)))))))))))
  exact G.dn (l := [.tmp 4]) rfl rfl ⟨au, cu, ys, hys, hyc, by rw [hyl], rfl⟩
theorem wtent_spec (r : Nat) (st : Rs) : Fn Tryz.prog 111 #[vptr r] [rdR r st] fun v L => ∃ e : En, e.pl = (enR st).1 ∧ EnK e ∧ v = .agg (enC e).toArray ∧ L = [rdR r (enR st).2, entR e] := by
 refine Fn.intro (vs := [vptr r]) Tryz.func111 rfl rfl ?_
 intro F W
 refine G.seq (G.region ?_)
 refine G.oq (OpSpec.allocA ze_38) ?nx1
 rintro v L' ⟨b2, rfl, rfl⟩
 refine G.nil (G.then_n (G.seq (G.region ?_)))
 refine G.oq (OpSpec.allocA ze_38) ?nx3
 rintro v L' ⟨b3, rfl, rfl⟩
 refine G.nil ?_
 refine G.ptCast (b := b3) (l' := entC 0 0 0) (by (repeat' constructor)) rfl ?_
 refine G.fold (p := entB b3 (numR (manyR numR 0 st).2).1 (numR (manyR numR 1 st).2).1 (numR (manyR numR 2 st).2).1 0) (q := [ptc b3 (entC 0 0 0) 38]) (by (repeat' constructor)) (fun _ hp => (sep_one hp)) ?_
 refine G.then_n (G.seq (G.region (G.mv rfl rfl (G.q (Quiet.fieldAddr rfl fo_38_0) rfl (G.q (Quiet.fieldAddr rfl fo_38_1) rfl (G.q (Quiet.fieldAddr rfl fo_38_2) rfl ?_))))))
 refine G.oq (OpSpec.buildSlice1 (vs := [_, _, _]) el_218 ze_195 rfl rfl rfl rfl rfl (by decide)) ?nx9
 rintro v L' ⟨b5, rfl, rfl⟩
 refine G.slMake (b := b5) (n := 3) (c := 3) (xs := [(b3, 0), (b3, 1), (b3, 2)].map addrV) (by (repeat' constructor)) (by decide) (by simp) rfl ?_
 refine G.oq (OpSpec.call Tryz.func156 rfl rfl (vs := [_, _]) rfl (winto_spec r st _ [(b3, 0), (b3, 1), (b3, 2)] (slR 195 1 (.slice (some ⟨b5, 0, none⟩) 3 3) 3 ([(b3, 0), (b3, 1), (b3, 2)].map addrV)) (fun h hp => slR_rd hp) (entB b3 (numR (manyR numR 0 st).2).1 (numR (manyR numR 1 st).2).1 (numR (manyR numR 2 st).2).1) ?hB11 (by simp))) ?nx12
 case hB11 => exact into_ent b3 st
 rintro v L' ⟨rfl, rfl⟩
 refine G.nil ?_
 refine G.focus (p := entB b3 (numR (manyR numR 0 st).2).1 (numR (manyR numR 1 st).2).1 (numR (manyR numR 2 st).2).1 3) (by (repeat' constructor)) (G.unfold (q := [ptc b3 (entC (numR (manyR numR 0 st).2).1 (numR (manyR numR 1 st).2).1 (numR (manyR numR 2 st).2).1) 38]) (fun _ hp => one_sep hp) ?_)
 simp only [List.cons_append, List.nil_append]
 refine G.then_n (G.seq (G.region (G.mv rfl rfl ?_)))
 refine G.oq (OpSpec.call Tryz.func157 rfl rfl (vs := [_]) rfl (wtpart_spec r (manyR numR 3 st).2)) ?nx15
 rintro v L' ⟨ab, cb, rfl, rfl⟩; obtain ⟨y, hy⟩ : ∃ y : Pt, y = ((ptR (manyR numR 3 st).2).1.wa (.slice ab (ptR (manyR numR 3 st).2).1.acl.length cb)) := ⟨_, rfl⟩; rw [← hy]; have hyk : isCell y.aclV = true ∧ y.subsV = nilV := by (rw [hy]; exact ⟨rfl, rfl⟩)
 refine G.q (Quiet.fieldAddr rfl fo_38_3) rfl ?_
 refine G.oq (OpSpec.storeA rfl rfl ?c18 sz_36 ?c21 ?c19 ?c20) ?nx22
 case c18 => exact pt_cells (y := y) hyk.1 (by rw [hyk.2]; rfl)
 case c21 => rfl
 case c19 => simp [entC, ptC]
 case c20 => exact nfz0 _ _
 rintro v L' rfl
 refine G.nil ?_
 refine G.ptCast (b := b3) (l' := [vint (numR (manyR numR 0 st).2).1, vint (numR (manyR numR 1 st).2).1, vint (numR (manyR numR 2 st).2).1] ++ ptC y) (by (repeat' constructor)) (by exact rfl) ?_
 refine G.then_n (G.seq (G.region (G.mv rfl rfl ?_)))
 refine G.oq (OpSpec.call Tryz.func158 rfl rfl (vs := [_, _]) rfl (wrpart_spec r _)) ?nx24
 rintro v L' ⟨sa, sc, ys, hys, hyc, rfl, rfl⟩
 refine G.q (Quiet.fieldAddr rfl fo_38_3) rfl (G.q (Quiet.fieldAddr rfl fo_36_7) rfl ?_)
 refine G.oq (OpSpec.store rfl rfl rfl sz_34 ?c28 ?c29) ?nx30
 case c28 => simp [ptC]
 case c29 => exact nfz0 _ _
 rintro v L' rfl
 refine G.nil ?_
 obtain ⟨e, he⟩ : ∃ e : En, e = (⟨(numR (manyR numR 0 st).2).1, (numR (manyR numR 1 st).2).1, (numR (manyR numR 2 st).2).1, y.ws (.slice sa ys.length sc), ys⟩ : En) := ⟨_, rfl⟩
 have hek : EnK e := by rw [he]; exact ⟨⟨hyk.1, rfl⟩, hyc⟩
 refine G.ptCast (b := b3) (l' := enC e) (by (repeat' constructor)) (by rw [he]; rfl) ?_
 refine G.fold (p := entR e) (q := [aclR y, slR 36 8 (.slice sa ys.length sc) ys.length (ys.flatMap ptC), bigR aclR ys]) (by (repeat' constructor)) (fun _ hp => by rw [he]; exact hp) ?_
 refine G.then_n (G.seq (G.region ?_))
 refine G.q (Quiet.loadAs (vs := enC e) rfl ag_38 (by (repeat' constructor)) (by simp [enC, ptC]) rfl) rfl ?_
 refine G.oq (OpSpec.storeA rfl rfl ?c32 sz_38 ?c35 ?c33 ?c34) ?nx36
 case c32 => exact hek.cells
 case c35 => rfl
 case c33 => simp [enC, ptC]
 case c34 => exact nfz0 _ _
 rintro v L' rfl
 refine G.nil (G.then_n (G.ret ?_))
 refine G.ptCast (b := b2) (l' := enC e) (by (repeat' constructor)) (by exact rfl) ?_
 exact G.done1 rfl (.cellA rfl ag_38 (by (repeat' constructor)) (by simp [enC, ptC]) rfl) ⟨e, by rw [he]; unfold En.pl; dsimp only; rw [hys, hy]; rfl, hek, rfl, rfl⟩ (by (repeat' constructor)) (by (repeat' constructor))

theorem get_bad {s : Bs} (h : ¬ (enR (some s)).2 = some []) : getZ s = none := by
  unfold getZ getR
  split
  · rename_i q hq; rw [hq] at h; exact absurd rfl h
  · rfl
theorem get_ok {s : Bs} (h : (enR (some s)).2 = some []) : getZ s = some (enR (some s)).1 := by
  unfold getZ getR
  split
  · rename_i q hq; rw [hq]
  · rename_i h2; exact absurd (show enR (some s) = ((enR (some s)).1, some []) by rw [← h]) (h2 _)
theorem wgetG_spec (s : Bs) (hs : s.length ≤ 2147483648) : Fn Tryz.prog 110 #[vstr s, .func (.func 111) #[] #[]] [] fun v L => ∃ e er, GotZ s e er ∧ v = .tuple #[.agg (enC e).toArray, vint er] ∧ L = [entR e] := by
 refine Fn.intro (vs := [vstr s, .func (.func 111) #[] #[]]) Tryz.func110 rfl rfl ?_
 intro F W
 refine G.seq (G.region ?_)
 refine G.oq (OpSpec.allocA ze_38) ?nx1
 rintro v L' ⟨b4, rfl, rfl⟩
 refine G.ag rfl rfl (G.nil (G.then_n (G.seq (G.region (G.mv rfl rfl ?_)))))
 refine G.oq (OpSpec.call Tryz.func117 rfl rfl (vs := [_]) rfl (cread_spec s hs)) ?nx5
 rintro v L' ⟨r, rfl, rfl⟩
 refine G.ag rfl rfl (G.nil (G.then_n (G.seq (G.region (G.mv rfl rfl (G.mv rfl rfl ?_))))))
 refine G.oq (OpSpec.callV Tryz.func111 rfl rfl (us := []) (vs := [_]) (ws := []) rfl rfl (wtent_spec r (some s))) ?nx8
 rintro v L' ⟨e, hpl, hek, rfl, rfl⟩
 refine G.oq (OpSpec.allocA ze_38) ?nx10
 rintro v L' ⟨b7, rfl, rfl⟩
 refine G.oq (OpSpec.storeA rfl rfl ?c12 sz_38 ?c15 ?c13 ?c14) ?nx16
 case c12 => exact hek.cells
 case c15 => rfl
 case c13 => simp [enC, ptC]
 case c14 => exact nfz0 _ _
 rintro v L' rfl
 refine G.nil ?_
 refine G.ptCast (b := b7) (l' := enC e) (by (repeat' constructor)) (by exact rfl) ?_
 refine G.then_n (G.seq (G.seq (G.region (G.mv rfl rfl ?_))))
 refine G.oq (OpSpec.call Tryz.func120 rfl rfl (vs := [_]) rfl (rend_spec r _)) ?nx17
 rintro v L' ⟨e1, he1, rfl, st', rfl⟩
 refine G.q (Quiet.int rfl rfl rfl) rfl (G.nil (G.then_n ?_))
 refine G.condN rfl (fun h16 => ?_) (fun h16 => ?_)
 ·refine G.seq (G.region ?_)
  refine G.oq (OpSpec.allocA ze_38) ?nx20
  rintro v L' ⟨b8, rfl, rfl⟩
  refine G.nil ?_
  refine G.ptCast (b := b8) (l' := enC en0) (by (repeat' constructor)) (by exact rfl) ?_
  refine G.add entR_0 (G.then_n (G.seq (G.region ?_)))
  refine G.q (Quiet.loadAs (vs := enC en0) rfl ag_38 (by (repeat' constructor)) (by simp [enC, ptC]) rfl) rfl ?_
  refine G.oq (OpSpec.storeA rfl rfl ?c23 sz_38 ?c26 ?c24 ?c25) ?nx27
  case c23 => decide
  case c26 => rfl
  case c24 => simp [enC, ptC]
  case c25 => exact nfz0 _ _
  rintro v L' rfl
  refine G.ag rfl rfl (G.nil ?_)
  refine G.ptCast (b := b4) (l' := enC en0) (by (repeat' constructor)) (by exact rfl) ?_
  refine G.then_n (G.ret (G.then_r ?_))
  exact G.done2 rfl (.cellA rfl ag_38 (by (repeat' constructor)) (by simp [enC, ptC]) rfl) (.tmp rfl) ⟨en0, 120, .inr ⟨rfl, get_bad (fun g => h16 (he1.2 g)), rfl⟩, rfl, rfl⟩ (by (repeat' constructor)) (by (repeat' constructor))
 ·refine G.skip (G.then_n (G.seq (G.region ?_)))
  refine G.q (Quiet.loadAs (vs := enC e) rfl ag_38 (by (repeat' constructor)) (by simp [enC, ptC]) rfl) rfl ?_
  refine G.oq (OpSpec.storeA rfl rfl ?c30 sz_38 ?c33 ?c31 ?c32) ?nx34
  case c30 => exact hek.cells
  case c33 => rfl
  case c31 => simp [enC, ptC]
  case c32 => exact nfz0 _ _
  rintro v L' rfl
  refine G.ag rfl rfl (G.nil ?_)
  refine G.ptCast (b := b4) (l' := enC e) (by (repeat' constructor)) (by exact rfl) ?_
  refine G.then_n (G.ret ?_)
  exact G.done2 rfl (.cellA rfl ag_38 (by (repeat' constructor)) (by simp [enC, ptC]) rfl) (.tmp rfl) ⟨e, 0, .inl ⟨rfl, by rw [hpl]; exact get_ok (he1.1 h16), hek⟩, rfl, rfl⟩ (by (repeat' constructor)) (by (repeat' constructor))

theorem GotZ.cells {s : Bs} {e : En} {er : Int} (h : GotZ s e er) : ∀ v ∈ enC e, isCell v = true := by
  rcases h with ⟨-, -, h⟩ | ⟨-, -, rfl⟩
  · exact h.cells
  · decide
theorem wget_spec (s : Bs) (hs : s.length ≤ 2147483648) : Fn Tryz.prog 53 #[vstr s] [] fun v L => ∃ e er, GotZ s e er ∧ v = .tuple #[.agg (enC e).toArray, vint er] ∧ L = [entR e] := by
 refine Fn.intro (vs := [vstr s]) Tryz.func53 rfl rfl ?_
 intro F W
 refine G.seq (G.region ?_)
 refine G.oq (OpSpec.allocA ze_38) ?nx1
 rintro v L' ⟨b2, rfl, rfl⟩
 refine G.ag rfl rfl (G.nil (G.then_n (G.seq (G.region (G.mv rfl rfl ?_)))))
 refine G.oq (OpSpec.call Tryz.func110 rfl rfl (vs := [_, _]) rfl (wgetG_spec s hs)) ?nx5
 rintro v L' ⟨e, er, hg, rfl, rfl⟩
 refine G.q (Quiet.extract rfl rfl) rfl (G.q (Quiet.extract rfl rfl) rfl ?_)
 refine G.oq (OpSpec.storeA rfl rfl ?c9 sz_38 ?c12 ?c10 ?c11) ?nx13
 case c9 => exact hg.cells
 case c12 => rfl
 case c10 => simp [enC, ptC]
 case c11 => exact nfz0 _ _
 rintro v L' rfl
 refine G.ag rfl rfl (G.nil ?_)
 refine G.ptCast (b := b2) (l' := enC e) (by (repeat' constructor)) (by exact rfl) ?_
 refine G.then_n (G.ret ?_)
 exact G.done2 rfl (.cellA rfl ag_38 (by (repeat' constructor)) (by simp [enC, ptC]) rfl) (.tmp rfl) ⟨e, er, hg, rfl, rfl⟩ (by (repeat' constructor)) (by (repeat' constructor))

end Go.Proofs.YtidjhgbdokcphaaGreat

/- Own work: a disk as plain data, and what stands for it in memory. -/

namespace Go.Proofs.YtidjhgbdokcphaaGreat
open Go

def zs : List UInt8 := List.replicate 64 0
theorem zs_len : zs.length = 64 := rfl
structure Dk where
  now : List (List UInt8)
  old : List (Int × List UInt8)
  acts : Int
  left : Int
  dead : Bool
structure Dk.Ok (δ : Dk) : Prop where
  sec : ∀ s ∈ δ.now, s.length = 64
  olds : ∀ x ∈ δ.old, x.2.length = 64 ∧ 0 ≤ x.1 ∧ x.1 < δ.now.length
  nodup : (δ.old.map (·.1)).Nodup
  big : δ.now.length ≤ 32768
  acts0 : 0 ≤ δ.acts
  left0 : 0 ≤ δ.left ∧ δ.left ≤ 9223372036854775807
abbrev bys (s : List UInt8) : List Value := s.map vbyte
def secV (s : List UInt8) : Value := .agg (bys s).toArray
def secsC (l : List (List UInt8)) : List Value := l.flatMap bys
def oldsV (m : List (Int × List UInt8)) : List (Value × Value) := m.map fun x => (vint x.1, secV x.2)
theorem bys_cell (s : List UInt8) : ∀ v ∈ bys s, isCell v = true := by simp [isCell]
theorem secsC_length {l : List (List UInt8)} (h : ∀ s ∈ l, s.length = 64) : (secsC l).length = l.length * 64 := by
  induction l with
  | nil => rfl
  | cons s l ih => simp [secsC] at *; rw [ih h.2, h.1]; omega
theorem secsC_at {l : List (List UInt8)} (h : ∀ s ∈ l, s.length = 64) {n : Nat} (hn : n < l.length) : ((secsC l).drop (n * 64)).take 64 = bys l[n] := by
  induction l generalizing n with
  | nil => simp at hn
  | cons s l ih =>
    have hs := h s (by simp)
    have hl : ∀ t ∈ l, t.length = 64 := fun t ht => h t (List.mem_cons_of_mem _ ht)
    cases n with
    | zero => simp [secsC, List.take_append, hs]
    | succ n =>
      have : (n + 1) * 64 = s.length + n * 64 := by omega
      rw [show secsC (s :: l) = bys s ++ secsC l from by simp [secsC], this]
      rw [List.drop_append, List.drop_eq_nil_of_le (by simp), List.nil_append]
      simp only [List.length_map, Nat.add_sub_cancel_left]
      exact ih hl (by simpa using hn)
theorem secsC_set {l : List (List UInt8)} (h : ∀ s ∈ l, s.length = 64) {n : Nat} (hn : n < l.length) {t : List UInt8} (ht : t.length = 64) : spl (secsC l) (n * 64) (bys t) = secsC (l.set n t) := by
  induction l generalizing n with
  | nil => simp at hn
  | cons s l ih =>
    have hs := h s (by simp)
    have hl : ∀ t ∈ l, t.length = 64 := fun t ht => h t (List.mem_cons_of_mem _ ht)
    cases n with
    | zero =>
      simp only [Nat.zero_mul, List.set_cons_zero]
      simp [spl, secsC, ht, hs, List.drop_append]
    | succ n =>
      have e : (n + 1) * 64 = s.length + n * 64 := by omega
      have := ih hl (n := n) (by simpa using hn)
      simp only [List.set_cons_succ]
      rw [show secsC (s :: l) = bys s ++ secsC l from by simp [secsC], show secsC (s :: l.set n t) = bys s ++ secsC (l.set n t) from by simp [secsC], ← this, e]
      simp [spl, List.take_append, List.drop_append, List.take_of_length_le, List.drop_eq_nil_of_le, Nat.add_sub_cancel_left, Nat.add_assoc]
def dkR (d : Nat) (δ : Dk) : HP := fun h => ∃ x : Nat × Nat, δ.Ok ∧
  sep [ptc d [.slice (some ⟨x.1, 0, none⟩) δ.now.length δ.now.length, .map (some x.2), vint δ.acts, vint δ.left, .bool δ.dead] 94,
    ptc x.1 (secsC δ.now) 123, mapR x.2 (oldsV δ.old)] h
section
variable {W : World} {n : Nat} {ds : List Deferred} {E : Env} {L R : List HP} {X : Act → World → Prop}
theorem G.dkOpen {d : Nat} {δ : Dk} (hL : Pick (dkR d δ) L R) (h : ∀ nb ob, δ.Ok → G W n ds E (ptc d [.slice (some ⟨nb, 0, none⟩) δ.now.length δ.now.length, .map (some ob), vint δ.acts, vint δ.left, .bool δ.dead] 94 ::
    ptc nb (secsC δ.now) 123 :: mapR ob (oldsV δ.old) :: R) X) : G W n ds E L X :=
  G.focus hL (G.open (q := fun x : Nat × Nat => [ptc d [.slice (some ⟨x.1, 0, none⟩) δ.now.length δ.now.length, .map (some x.2), vint δ.acts, vint δ.left, .bool δ.dead] 94,
    ptc x.1 (secsC δ.now) 123, mapR x.2 (oldsV δ.old)]) (φ := fun _ => δ.Ok) (fun _ hp => hp) fun x hx => h x.1 x.2 hx)
theorem G.dkFold {d nb ob : Nat} {δ : Dk} {l l1 : List Value} {ents : List (Value × Value)} (hL : Picks [ptc d l 94, ptc nb l1 123, mapR ob ents] L R)
    (h1 : l = [.slice (some ⟨nb, 0, none⟩) δ.now.length δ.now.length, .map (some ob), vint δ.acts, vint δ.left, .bool δ.dead]) (h2 : l1 = secsC δ.now) (h3 : ents = oldsV δ.old) (hok : δ.Ok)
    (h : G W n ds E (dkR d δ :: R) X) : G W n ds E L X := by
  subst h1; subst h2; subst h3
  exact G.fold hL (fun _ hp => ⟨(nb, ob), hok, hp⟩) h
end

def Dk.new (n : Int) : Dk := ⟨List.replicate n.toNat zs, [], 0, 0, false⟩
def actE (left : Int) : Int := if left = 0 then 0 else if left - 1 > 0 then 0 else 2
def actL (left : Int) : Int := if left = 0 then 0 else left - 1
def actD (left : Int) (dead : Bool) : Bool := if left = 0 then dead else if left - 1 > 0 then dead else true
def Dk.act (δ : Dk) : Dk × Int := ({ δ with acts := δ.acts + 1, left := actL δ.left, dead := actD δ.left δ.dead }, actE δ.left)
def Dk.has (δ : Dk) (n : Int) : Bool := decide (0 ≤ n) && decide (n < δ.now.length)
def Dk.read (δ : Dk) (n : Int) : List UInt8 × Int :=
  if δ.dead then ([], 2) else if δ.has n = false then ([], 20) else (δ.now.getD n.toNat [], 0)
def Dk.put (δ : Dk) (n : Int) (s : List UInt8) : Dk :=
  { δ with now := δ.now.set n.toNat s, old := if (alook δ.old n).isSome then δ.old else aset δ.old n (δ.now.getD n.toNat []) }
def Dk.write (δ : Dk) (n : Int) (s : List UInt8) : Dk × Int :=
  if δ.dead then (δ, 2) else if δ.has n = false ∨ s.length ≠ 64 then (δ, 20) else (δ.put n s).act
def Dk.sync (δ : Dk) : Dk × Int :=
  if δ.dead then (δ, 2) else if δ.act.2 = 0 then ({ δ.act.1 with old := [] }, 0) else (δ.act.1, δ.act.2)
def Dk.arm (δ : Dk) (n : Int) : Dk × Int :=
  if δ.dead then (δ, 2) else if n < 0 then (δ, 1) else ({ δ with left := n }, 0)
theorem Dk.Ok.acted {δ : Dk} (h : δ.Ok) : δ.act.1.Ok := by
  obtain ⟨a, b, c, d, e, f⟩ := h
  refine ⟨a, b, c, d, by simp [Dk.act]; omega, ?_⟩
  simp only [Dk.act, actL]
  split <;> omega
theorem alook_mem {β : Type} {m : List (Int × β)} {k : Int} {b : β} (h : alook m k = some b) : (k, b) ∈ m := by
  induction m with
  | nil => cases h
  | cons x m ih =>
    obtain ⟨a, c⟩ := x
    by_cases hk : k = a
    · subst hk; simp [alook] at h; simp [h]
    · simp [alook, hk] at h; exact List.mem_cons_of_mem _ (ih h)
theorem alook_none {β : Type} {m : List (Int × β)} {k : Int} (h : alook m k = none) : k ∉ m.map (·.1) := by
  induction m with
  | nil => simp
  | cons x m ih =>
    obtain ⟨a, c⟩ := x
    by_cases hk : k = a
    · subst hk; simp [alook] at h
    · simp [alook, hk] at h; simp [hk, ih h]
theorem has_lt {δ : Dk} {n : Int} (h : δ.has n = true) : 0 ≤ n ∧ n < δ.now.length ∧ n.toNat < δ.now.length := by
  simp [Dk.has] at h; omega
theorem Dk.Ok.putOk {δ : Dk} (h : δ.Ok) {n : Int} {s : List UInt8} (hn : δ.has n = true) (hs : s.length = 64) : (δ.put n s).Ok := by
  obtain ⟨a, b, c, d, e, f⟩ := h
  obtain ⟨h0, h1, h2⟩ := has_lt hn
  have hget : δ.now.getD n.toNat [] = δ.now[n.toNat] := by simp [h2]
  refine ⟨fun t ht => ?_, fun x hx => ?_, ?_, by simpa [Dk.put] using d, e, f⟩
  · simp only [Dk.put] at ht
    rcases List.mem_or_eq_of_mem_set ht with ht | rfl
    · exact a t ht
    · exact hs
  · simp only [Dk.put, List.length_set] at hx ⊢
    split at hx
    · exact b x hx
    · rename_i hn'
      rw [aset_none (by simpa using hn')] at hx
      simp only [List.mem_append, List.mem_singleton] at hx
      rcases hx with hx | rfl
      · exact b x hx
      · exact ⟨by rw [hget]; exact a _ (List.getElem_mem _), h0, h1⟩
  · simp only [Dk.put]
    split
    · exact c
    · rename_i hn'
      have hn' : alook δ.old n = none := by simpa using hn'
      rw [aset_none hn', List.map_append]
      refine List.nodup_append.2 ⟨c, by simp, fun a ha b hb => ?_⟩
      simp at hb; subst hb
      exact fun hab => alook_none hn' (hab ▸ ha)
theorem Dk.Ok.cleared {δ : Dk} (h : δ.Ok) : ({ δ with old := [] } : Dk).Ok := ⟨h.sec, by simp, by simp, h.big, h.acts0, h.left0⟩
end Go.Proofs.YtidjhgbdokcphaaGreat

/- Own work: numbers as bytes, sums, records and marks, as plain data. -/

namespace Go.Proofs.YtidjhgbdokcphaaGreat
open Go

def byteZ (x : Int) : UInt8 := UInt8.ofNat (x % 256).toNat
def beB (n : Int) : Nat → Bs
  | 0 => []
  | k + 1 => beB (n / 256) k ++ [byteZ n]
theorem beB_len (k : Nat) : ∀ n, (beB n k).length = k := by
  induction k with
  | zero => intro n; rfl
  | succ k ih => intro n; simp [beB, ih]
theorem beB_at (k : Nat) : ∀ (n : Int) (i : Nat), i < k → (beB n k)[k - 1 - i]? = some (byteZ (n / 256 ^ i)) := by
  induction k with
  | zero => intro n i h; omega
  | succ k ih =>
    intro n i h
    simp only [beB]
    cases i with
    | zero =>
      rw [List.getElem?_append_right (by rw [beB_len]; omega), beB_len]
      simp
    | succ i =>
      have := ih (n / 256) i (by omega)
      rw [List.getElem?_append_left (by rw [beB_len]; omega), show k + 1 - 1 - (i + 1) = k - 1 - i by omega, this, Int.ediv_ediv_of_nonneg (by omega)]
      congr 3
      rw [Int.pow_succ]; exact Int.mul_comm _ _
theorem vbyteZ (x : Int) : vbyte (byteZ x) = .int .u8 (IntKind.u8.wrap x) := by
  show Value.int .u8 _ = Value.int .u8 (x % 256)
  congr 1
  simp [byteZ]; omega
def fillB (l : List Value) (off : Nat) (n : Int) (k i : Nat) : List Value := l.take (off + (k - i)) ++ bysL ((beB n k).drop (k - i)) ++ l.drop (off + k)
theorem fillB_0 (l : List Value) (off : Nat) (n : Int) (k : Nat) : fillB l off n k 0 = l := by
  simp [fillB, bysL, List.drop_eq_nil_of_le, beB_len]
theorem fillB_k (l : List Value) (off : Nat) (n : Int) (k : Nat) : fillB l off n k k = spl l off (bysL (beB n k)) := by
  simp [fillB, spl, bysL, beB_len]
theorem fillB_step {l : List Value} {off : Nat} {n : Int} {k i : Nat} (hi : i < k) (hl : off + k ≤ l.length) : (fillB l off n k i).set (off + (k - 1 - i)) (vbyte (byteZ (n / 256 ^ i))) = fillB l off n k (i + 1) := by
  have h1 := beB_at k n i hi
  have hlen : (beB n k).length = k := beB_len k n
  unfold fillB
  have e1 : l.take (off + (k - i)) = l.take (off + (k - 1 - i)) ++ [l[off + (k - 1 - i)]'(by omega)] := by
    rw [show off + (k - i) = off + (k - 1 - i) + 1 by omega, List.take_succ_eq_append_getElem (by omega)]
  have e2 : (beB n k).drop (k - (i + 1)) = byteZ (n / 256 ^ i) :: (beB n k).drop (k - i) := by
    have : k - (i + 1) = k - 1 - i := by omega
    rw [this, List.drop_eq_getElem_cons (by omega)]
    have h3 : (beB n k)[k - 1 - i]'(by omega) = byteZ (n / 256 ^ i) := by
      rw [List.getElem?_eq_getElem (by omega)] at h1; exact Option.some.inj h1
    rw [h3, show k - 1 - i + 1 = k - i by omega]
  rw [e1, e2, show off + (k - (i + 1)) = off + (k - 1 - i) by omega]
  rw [List.append_assoc, List.append_assoc, List.append_assoc, List.set_append_right _ _ (by simp; omega)]
  have : (l.take (off + (k - 1 - i))).length = off + (k - 1 - i) := by rw [List.length_take]; omega
  rw [this, Nat.sub_self]
  simp [bysL]
theorem fillB_len {l : List Value} {off : Nat} {n : Int} {k i : Nat} (hi : i ≤ k) (hl : off + k ≤ l.length) : (fillB l off n k i).length = l.length := by
  simp [fillB, bysL, beB_len]; omega
theorem pow256 (i : Nat) : (2 : Int) ^ (8 * i) = 256 ^ i := by rw [Int.pow_mul]; rfl
theorem shr_at {n : Int} {i : Nat} (hi : i ≤ 7) : IntKind.u8.wrap (n.fdiv (2 ^ min (8 * (i : Int)).toNat IntKind.i64.bits)) = IntKind.u8.wrap (n / 256 ^ i) := by
  have e : min (8 * (i : Int)).toNat IntKind.i64.bits = 8 * i := by
    have : IntKind.i64.bits = 64 := rfl
    omega
  rw [e, pow256, Int.fdiv_eq_ediv_of_nonneg _ (Int.le_of_lt (Int.pow_pos (by decide)))]
def smallZ (s : Bs) : Int := IntKind.i64.wrap (beZ s 0)
theorem beZ_append (s t : Bs) : ∀ n, beZ (s ++ t) n = beZ t (beZ s n) := by
  induction s with
  | nil => intro n; rfl
  | cons c s ih => intro n; simp [beZ, ih]
theorem small_next {s : Bs} {i : Nat} (hi : i < s.length) : IntKind.i64.wrap (BitVec.ofInt IntKind.i64.bits (IntKind.i64.wrap (IntKind.i64.wrap (beZ (s.take i) 0) * 2 ^ min (8 : Int).toNat IntKind.i64.bits)) ||| BitVec.ofInt IntKind.i64.bits (IntKind.i64.wrap (s[i].toNat : Int))).toNat = IntKind.i64.wrap (beZ (s.take (i + 1)) 0) := by
  rw [List.take_succ_eq_append_getElem hi, beZ_append]
  have e : IntKind.i64.wrap (IntKind.i64.wrap (beZ (s.take i) 0) * 2 ^ min (8 : Int).toNat IntKind.i64.bits) = IntKind.i64.wrap (beZ (s.take i) 0 * 256) := by
    have : (2 : Int) ^ min (8 : Int).toNat IntKind.i64.bits = 256 := rfl
    rw [this, wrap64, wrap64, wrap64]; omega
  rw [e]
  exact small_step _ _
/-! ### The sum -/
def sumStep (h : Int) (c : UInt8) : Int := IntKind.u32.wrap (IntKind.u32.wrap (BitVec.ofInt 32 h ^^^ BitVec.ofInt 32 (IntKind.u32.wrap c.toNat)).toNat * 16777619)
def sumZ (s : Bs) : Int := s.foldl sumStep 2166136261
theorem sumZ_next {s : Bs} {i : Nat} (hi : i < s.length) : sumZ (s.take (i + 1)) = sumStep (sumZ (s.take i)) s[i] := by
  rw [List.take_succ_eq_append_getElem hi, sumZ, List.foldl_append]; rfl
theorem u32wrap (x : Int) : IntKind.u32.wrap x = x % 4294967296 := rfl
theorem sumZ_range (s : Bs) : 0 ≤ sumZ s ∧ sumZ s < 4294967296 := by
  rcases List.eq_nil_or_concat s with rfl | ⟨t, c, rfl⟩
  · exact ⟨by decide, by decide⟩
  · rw [sumZ, List.concat_eq_append, List.foldl_append]
    simp only [List.foldl_cons, List.foldl_nil]
    rw [sumStep, u32wrap]; omega
/-! ### Records, marks -/
def headZ (s : Bs) : Bs := beB s.length 2 ++ s
def recZ (s : Bs) : Bs := headZ s ++ beB (sumZ (headZ s)) 4
theorem recZ_len (s : Bs) : (recZ s).length = s.length + 6 := by simp [recZ, headZ, beB_len]; omega
def laidZ (l : List Bs) : Bs := l.flatMap recZ
theorem laidZ_append (l m : List Bs) : laidZ (l ++ m) = laidZ l ++ laidZ m := by simp [laidZ]
theorem recZ_mem {l : List Bs} {s : Bs} (h : s ∈ l) : s.length + 6 ≤ (laidZ l).length := by
  induction l with
  | nil => simp at h
  | cons x l ih =>
    have e : laidZ (x :: l) = recZ x ++ laidZ l := by simp [laidZ]
    rw [e, List.length_append, recZ_len]
    rcases List.mem_cons.1 h with rfl | h
    · omega
    · have := ih h; omega
theorem laidZ_many (l : List Bs) : l.length ≤ (laidZ l).length := by
  induction l with
  | nil => simp
  | cons x l ih =>
    have e : laidZ (x :: l) = recZ x ++ laidZ l := by simp [laidZ]
    rw [e, List.length_append, recZ_len, List.length_cons]; omega
theorem laidZ_take_len (l : List Bs) (i : Nat) : (laidZ (l.take i)).length ≤ (laidZ l).length := by
  have e : laidZ l = laidZ (l.take i) ++ laidZ (l.drop i) := by rw [← laidZ_append, List.take_append_drop]
  rw [e, List.length_append]; omega
theorem laidZ_succ {l : List Bs} {i : Nat} (hi : i < l.length) : laidZ (l.take (i + 1)) = laidZ (l.take i) ++ recZ l[i] := by
  rw [List.take_succ_eq_append_getElem hi, laidZ_append]; simp [laidZ]
theorem spl_zero {p q : Bs} {k off : Nat} {z : Value} (ho : off = p.length) (hq : q.length ≤ k) : spl (bysL p ++ List.replicate k z) off (bysL q) = bysL (p ++ q) ++ List.replicate (k - q.length) z := by
  subst ho
  rw [← bysL_len p, bysL_append]
  simp [spl, List.drop_append, bysL_len]
structure Mk where
  count : Int
  area : Int
  len : Int
  num : Int
  a : Int
  b : Int
def mkC (m : Mk) : List Value := [vint m.count, vint m.area, vint m.len, vint m.num, vint m.a, vint m.b]
def Mk.sec (m : Mk) : Bs := [87, 77] ++ beB m.count 4 ++ beB m.area 1 ++ beB m.len 4 ++ beB m.num 4 ++ beB m.a 8 ++ beB m.b 8 ++ List.replicate 29 0 ++ beB m.count 4
def Mk.part (m : Mk) : Nat → Bs
  | 0 => [87, 77]
  | 1 => beB m.count 4
  | 2 => beB m.area 1
  | 3 => beB m.len 4
  | 4 => beB m.num 4
  | 5 => beB m.a 8
  | _ => beB m.b 8
def Mk.pre (m : Mk) (j : Nat) : Bs := (List.range (j + 1)).flatMap m.part
theorem Mk.pre_succ (m : Mk) (j : Nat) : m.pre (j + 1) = m.pre j ++ m.part (j + 1) := by
  unfold Mk.pre; rw [List.range_succ, List.flatMap_append]; simp
theorem Mk.pre_len (m : Mk) : (m.pre 0).length = 2 ∧ (m.pre 1).length = 6 ∧ (m.pre 2).length = 7 ∧ (m.pre 3).length = 11 ∧ (m.pre 4).length = 15 ∧ (m.pre 5).length = 23 ∧ (m.pre 6).length = 31 := by
  simp [Mk.pre, List.range_succ, Mk.part, beB_len]
abbrev zB : Value := .int .u8 0
def Mk.at (m : Mk) (j k : Nat) : List Value := bysL (m.pre j) ++ List.replicate k zB
theorem Mk.at_step (m : Mk) {j k off : Nat} {q : Bs} (ho : off = (m.pre j).length) (hq : q = m.part (j + 1)) (hl : q.length ≤ k) : spl (m.at j k) off (bysL q) = m.at (j + 1) (k - q.length) := by
  unfold Mk.at; rw [spl_zero ho hl, m.pre_succ, hq]
theorem Mk.at_end (m : Mk) : spl (m.at 6 33) 60 (bysL (beB m.count 4)) = bysL m.sec := by
  have e : m.at 6 33 = bysL (m.pre 6 ++ List.replicate 29 0) ++ List.replicate 4 zB := by
    unfold Mk.at
    rw [bysL_append, List.append_assoc]
    rfl
  rw [e, spl_zero (by rw [List.length_append, m.pre_len.2.2.2.2.2.2, List.length_replicate]) (by simp [beB_len]), beB_len]
  unfold Mk.sec
  generalize List.replicate 29 (0 : UInt8) = z29
  simp [Mk.pre, List.range_succ, Mk.part]
theorem Mk.sec_len (m : Mk) : m.sec.length = 64 := by simp [Mk.sec, beB_len]
def halfZ (δ : Dk) : Int := ((δ.now.length : Int) - 2) / 2
end Go.Proofs.YtidjhgbdokcphaaGreat

/- Own work, by program: numbers as bytes, sums, records, marks: walked. -/

namespace Go.Proofs.YtidjhgbdokcphaaGreat
open Go
theorem big_spec (b off k c : Nat) (n : Int) (l : List Value) (T : TypeId) (hk : k ≤ 8) (hl : off + k ≤ l.length) : Fn Tryz.prog 150 #[.slice (some ⟨b, off, none⟩) k c, vint n] [ptc b l T] fun v L => v = .tuple #[] ∧ L = [ptc b (spl l off (bysL (beB n k))) T] := by
 refine Fn.intro (vs := [.slice (some ⟨b, off, none⟩) k c, vint n]) Tryz.func150 rfl rfl ?_
 intro F W
 refine G.seq (G.region (G.mv rfl rfl (G.q (Quiet.slen rfl Tryz.underlying125 rfl) rfl (G.mv rfl rfl (G.nil (G.then_n (G.block ?_)))))))
 refine G.ptCast (by (repeat' constructor)) (fillB_0 l off n k).symm ?_
 refine G.loopK (ι := Nat) (fun q E => (7, vint q) :: E) (fun q => [ptc b (fillB l off n k q) T]) (fun q => q ≤ k) (fun q => k - q) (0) (ts := [0, 1, 6]) (.cons rfl (.cons rfl (.cons rfl (.nil)))) (Nat.zero_le _) ⟨rfl, rfl, rfl, rfl, trivial⟩ (by (repeat' constructor)) ?_
 rintro i hi
 refine G.seq (G.region (G.q (Quiet.int rfl rfl rfl) rfl (G.nil (G.then_n (G.seq ?_)))))
 refine G.condD rfl (fun h8 => ?_) (fun h8 => ?_)
 ·have hi2 : i < k := by omega
  refine G.skip (G.then_n (G.seq (G.block (G.seq (G.region (G.mv rfl rfl (G.ag rfl rfl (G.nil (G.then_n (G.region (G.mv rfl rfl (G.mv rfl rfl (G.q (Quiet.slen rfl Tryz.underlying125 rfl) rfl ?_)))))))))))))
  refine G.q (Quiet.sub rfl rfl (by omega)) rfl ?_
  refine G.mv rfl rfl ?_
  refine G.q (Quiet.sub rfl rfl (by omega)) rfl ?_
  refine G.mv rfl rfl (G.mv rfl rfl ?_)
  refine G.q (Quiet.mul rfl rfl (by omega)) rfl ?_
  refine G.q (Quiet.shr rfl rfl (by first | decide | omega)) rfl ?_
  refine G.q (Quiet.conv rfl Tryz.underlying3 Tryz.underlying5) rfl ?_
  refine G.q (Quiet.indexAddr rfl rfl el_125 (by omega)) rfl ?_
  refine G.oq (OpSpec.store rfl rfl rfl sz_5 ?c16 ?c17) ?nx18
  case c16 => rw [fillB_len (by omega) hl]; omega
  case c17 => exact nfz0 _ _
  rintro v L' rfl
  refine G.nil (G.blk_n (G.then_n (G.region ?_)))
  refine G.q (Quiet.add rfl rfl (by omega)) rfl ?_
  refine G.mv rfl rfl (G.nil (G.then_n ?_))
  refine G.ptCast (l' := fillB l off n k (i + 1)) (by (repeat' constructor)) (by rw [shr_at (by omega), ← vbyteZ, show off + ((k : Int) - 1 - i).toNat * 1 = off + (k - 1 - i) by omega]; exact fillB_step (by omega) hl) ?_
  exact G.roundK (i + 1) (by omega) (by omega) ⟨rfl, rfl, rfl, rfl, trivial⟩ (by (repeat' constructor)) (by ((repeat (apply Have.cons; (repeat (first | exact Pick.here | apply Pick.there)))); apply Have.base; repeat' constructor))
 ·refine G.exit (G.then_e (G.then_e (G.blk_e (G.done_n ?_))))
  have hi3 : i = k := by omega
  subst hi3
  refine G.ptCast (by (repeat' constructor)) (fillB_k l off n i) ?_
  exact G.dn (l := []) rfl rfl ⟨rfl, rfl⟩

theorem small_spec (s : Bs) (hs : s.length ≤ 9223372036854775807) : Fn Tryz.prog 159 #[vstr s] [] fun v L => v = vint (smallZ s) ∧ L = [] := by
 refine Fn.intro (vs := [vstr s]) Tryz.func159 rfl rfl ?_
 intro F W
 refine G.seq (G.region (G.ag rfl rfl (G.nil (G.then_n (G.seq (G.region (G.ag rfl rfl (G.nil (G.then_n (G.seq (G.seq (G.region (G.mv rfl rfl (G.q (Quiet.strlen rfl Tryz.underlying9 rfl) rfl (G.mv rfl rfl (G.nil (G.then_n (G.block ?_))))))))))))))))))
 refine G.loopK (ι := Nat) (fun q E => (7, vint q) :: (3, vint (IntKind.i64.wrap (beZ (s.take q) 0))) :: E) (fun q => []) (fun q => q ≤ s.length) (fun q => s.length - q) (0) (ts := [0, 2, 6]) (.cons rfl (.cons rfl (.cons rfl (.nil)))) (Nat.zero_le _) ⟨rfl, rfl, rfl, rfl, rfl, trivial⟩ (by (repeat' constructor)) ?_
 rintro i hi
 refine G.seq (G.region (G.q (Quiet.int rfl rfl rfl) rfl (G.nil (G.then_n (G.seq ?_)))))
 refine G.condD rfl (fun h8 => ?_) (fun h8 => ?_)
 ·have hi2 : i < s.length := by simpa [bs_size] using h8
  refine G.skip (G.then_n (G.seq (G.block (G.seq (G.region (G.mv rfl rfl (G.ag rfl rfl (G.nil (G.then_n (G.region (G.mv rfl rfl ?_)))))))))))
  refine G.q (Quiet.shl rfl rfl (by first | decide | omega)) rfl ?_
  refine G.mv rfl rfl (G.mv rfl rfl ?_)
  refine G.q (Quiet.strIndex (c := s[i]) rfl rfl Tryz.underlying9 (by omega) (by simp)) rfl ?_
  refine G.q (Quiet.conv rfl Tryz.underlying5 Tryz.underlying3) rfl ?_
  refine G.q (Quiet.as (v' := vint (IntKind.i64.wrap (beZ (s.take (i + 1)) 0))) (by exact congrArg (Value.int .i64) (small_next hi2)) (Quiet.or rfl rfl)) rfl ?_
  refine G.ag rfl rfl (G.nil (G.blk_n (G.then_n (G.region ?_))))
  refine G.q (Quiet.add rfl rfl (by omega)) rfl ?_
  refine G.mv rfl rfl (G.nil (G.then_n ?_))
  exact G.roundK (i + 1) (by omega) (by omega) ⟨rfl, rfl, rfl, rfl, rfl, trivial⟩ (by (repeat' constructor)) (by ((repeat (apply Have.cons; (repeat (first | exact Pick.here | apply Pick.there)))); apply Have.base; repeat' constructor))
 ·refine G.exit (G.then_e (G.then_e (G.blk_e (G.then_n (G.seq (G.region (G.mv rfl rfl (G.ag rfl rfl (G.nil (G.then_n (G.ret ?_)))))))))))
  exact G.dn (l := [.tmp 2]) rfl rfl ⟨by have hi3 : i = s.length := (by have h9 : ¬ (i : Int) < s.length := (by simpa [bs_size] using h8); omega); rw [hi3, List.take_length]; rfl, rfl⟩

theorem sum_spec (s : Bs) (hs : s.length ≤ 9223372036854775807) : Fn Tryz.prog 151 #[vstr s] [] fun v L => v = .int .u32 (sumZ s) ∧ L = [] := by
 refine Fn.intro (vs := [vstr s]) Tryz.func151 rfl rfl ?_
 intro F W
 refine G.seq (G.region (G.ag rfl rfl (G.nil (G.then_n (G.seq (G.region (G.ag rfl rfl (G.nil (G.then_n (G.seq (G.seq (G.region (G.mv rfl rfl (G.q (Quiet.strlen rfl Tryz.underlying9 rfl) rfl (G.mv rfl rfl (G.nil (G.then_n (G.block ?_))))))))))))))))))
 refine G.loopK (ι := Nat) (fun q E => (7, vint q) :: (3, .int .u32 (sumZ (s.take q))) :: E) (fun q => []) (fun q => q ≤ s.length) (fun q => s.length - q) (0) (ts := [0, 2, 6]) (.cons rfl (.cons rfl (.cons rfl (.nil)))) (Nat.zero_le _) ⟨rfl, rfl, rfl, rfl, rfl, trivial⟩ (by (repeat' constructor)) ?_
 rintro i hi
 refine G.seq (G.region (G.q (Quiet.int rfl rfl rfl) rfl (G.nil (G.then_n (G.seq ?_)))))
 refine G.condD rfl (fun h8 => ?_) (fun h8 => ?_)
 ·have hi2 : i < s.length := by simpa [bs_size] using h8
  refine G.skip (G.then_n (G.seq (G.block (G.seq (G.region (G.mv rfl rfl (G.ag rfl rfl (G.nil (G.then_n (G.region (G.mv rfl rfl (G.mv rfl rfl (G.mv rfl rfl ?_)))))))))))))
  refine G.q (Quiet.strIndex (c := s[i]) rfl rfl Tryz.underlying9 (by omega) (by simp)) rfl ?_
  refine G.q (Quiet.conv rfl Tryz.underlying5 Tryz.underlying183) rfl (G.q (Quiet.xor rfl rfl) rfl ?_)
  refine G.q (Quiet.as (v' := .int .u32 (sumZ (s.take (i + 1)))) (by rw [sumZ_next hi2]; rfl) (Quiet.int rfl rfl rfl)) rfl ?_
  refine G.ag rfl rfl (G.nil (G.blk_n (G.then_n (G.region ?_))))
  refine G.q (Quiet.add rfl rfl (by omega)) rfl ?_
  refine G.mv rfl rfl (G.nil (G.then_n ?_))
  exact G.roundK (i + 1) (by omega) (by omega) ⟨rfl, rfl, rfl, rfl, rfl, trivial⟩ (by (repeat' constructor)) (by ((repeat (apply Have.cons; (repeat (first | exact Pick.here | apply Pick.there)))); apply Have.base; repeat' constructor))
 ·refine G.exit (G.then_e (G.then_e (G.blk_e (G.then_n (G.seq (G.region (G.mv rfl rfl (G.ag rfl rfl (G.nil (G.then_n (G.ret ?_)))))))))))
  exact G.dn (l := [.tmp 2]) rfl rfl ⟨by have hi3 : i = s.length := (by have h9 : ¬ (i : Int) < s.length := (by simpa [bs_size] using h8); omega); rw [hi3, List.take_length], rfl⟩

end Go.Proofs.YtidjhgbdokcphaaGreat

/- Own work, by program: package disk, function by function. -/

namespace Go.Proofs.YtidjhgbdokcphaaGreat
open Go
theorem act_spec (d : Nat) (now old : Value) (acts left : Int) (dead : Bool) (hA : 0 ≤ acts ∧ acts < 4611686018427387904) (hl : 0 ≤ left ∧ left ≤ 9223372036854775807) : Fn Tryz.prog 70 #[vptr d] [ptc d [now, old, vint acts, vint left, .bool dead] 94] fun v L => v = vint (actE left) ∧ L = [ptc d [now, old, vint (acts + 1), vint (actL left), .bool (actD left dead)] 94] := by
 refine Fn.intro (vs := [vptr d]) Tryz.func70 rfl rfl ?_
 intro F W
 refine G.seq (G.region (G.ag rfl rfl (G.nil (G.then_n (G.seq (G.region (G.mv rfl rfl (G.q (Quiet.nilp rfl) rfl (G.q (Quiet.fieldAddr rfl fo_94_2) rfl ?_)))))))))
 refine G.q (Quiet.ld rfl ag_3) rfl ?_
 refine G.q (Quiet.add rfl rfl (by omega)) rfl ?_
 refine G.q (Quiet.nilp rfl) rfl (G.q (Quiet.fieldAddr rfl fo_94_2) rfl ?_)
 refine G.oq (OpSpec.store rfl rfl rfl sz_3 ?c9 ?c10) ?nx11
 case c9 => first | decide | (simp; omega) | simp
 case c10 => exact nfz0 _ _
 rintro v L' rfl
 refine G.nil (G.then_n (G.seq (G.seq (G.region (G.mv rfl rfl (G.q (Quiet.nilp rfl) rfl (G.q (Quiet.fieldAddr rfl fo_94_3) rfl ?_)))))))
 refine G.q (Quiet.ld rfl ag_3) rfl ?_
 refine G.q (Quiet.int rfl rfl rfl) rfl (G.nil (G.then_n ?_))
 refine G.condD rfl (fun h14 => ?_) (fun h14 => ?_)
 ·refine G.seq (G.region (G.ag rfl rfl (G.nil (G.then_n (G.ret (G.then_r ?_))))))
  have e1 : actE left = 0 := by unfold actE; rw [if_pos h14]
  have e2 : actL left = left := by unfold actL; rw [if_pos h14, h14]
  have e3 : actD left dead = dead := by unfold actD; rw [if_pos h14]
  rw [e1, e2, e3]
  exact G.dn (l := [.tmp 2]) rfl rfl ⟨rfl, rfl⟩
 ·refine G.skip (G.then_n (G.seq (G.region (G.mv rfl rfl (G.q (Quiet.nilp rfl) rfl (G.q (Quiet.fieldAddr rfl fo_94_3) rfl ?_))))))
  refine G.q (Quiet.ld rfl ag_3) rfl ?_
  refine G.q (Quiet.sub rfl rfl (by omega)) rfl ?_
  refine G.q (Quiet.nilp rfl) rfl (G.q (Quiet.fieldAddr rfl fo_94_3) rfl ?_)
  refine G.oq (OpSpec.store rfl rfl rfl sz_3 ?c25 ?c26) ?nx27
  case c25 => first | decide | (simp; omega) | simp
  case c26 => exact nfz0 _ _
  rintro v L' rfl
  refine G.nil (G.then_n (G.seq (G.seq (G.region (G.mv rfl rfl (G.q (Quiet.nilp rfl) rfl (G.q (Quiet.fieldAddr rfl fo_94_3) rfl ?_)))))))
  refine G.q (Quiet.ld rfl ag_3) rfl ?_
  refine G.q (Quiet.int rfl rfl rfl) rfl (G.nil (G.then_n ?_))
  refine G.condD rfl (fun h26 => ?_) (fun h26 => ?_)
  ·refine G.seq (G.region (G.ag rfl rfl (G.nil (G.then_n (G.ret (G.then_r ?_))))))
   have e1 : actE left = 0 := by unfold actE; rw [if_neg h14, if_pos h26]
   have e2 : actL left = left - 1 := by unfold actL; rw [if_neg h14]
   have e3 : actD left dead = dead := by unfold actD; rw [if_neg h14, if_pos h26]
   rw [e1, e2, e3]
   exact G.dn (l := [.tmp 2]) rfl rfl ⟨rfl, rfl⟩
  ·refine G.skip (G.then_n (G.seq (G.region (G.mv rfl rfl (G.q (Quiet.nilp rfl) rfl (G.q (Quiet.fieldAddr rfl fo_94_4) rfl ?_))))))
   refine G.oq (OpSpec.store rfl rfl rfl sz_4 ?c37 ?c38) ?nx39
   case c37 => first | decide | (simp; omega) | simp
   case c38 => exact nfz0 _ _
   rintro v L' rfl
   refine G.nil (G.then_n (G.seq (G.region (G.ag rfl rfl (G.nil (G.then_n (G.ret ?_)))))))
   have e1 : actE left = 2 := by unfold actE; rw [if_neg h14, if_neg h26]
   have e2 : actL left = left - 1 := by unfold actL; rw [if_neg h14]
   have e3 : actD left dead = true := by unfold actD; rw [if_neg h14, if_neg h26]
   rw [e1, e2, e3]
   exact G.dn (l := [.tmp 2]) rfl rfl ⟨rfl, rfl⟩

theorem has_spec (d : Nat) (a : Option Addr) (k c : Nat) (x y z u : Value) (n : Int) : Fn Tryz.prog 69 #[vptr d, vint n] [ptc d [.slice a k c, x, y, z, u] 94] fun v L => v = .bool (decide (0 ≤ n) && decide (n < k)) ∧ L = [ptc d [.slice a k c, x, y, z, u] 94] := by
 refine Fn.intro (vs := [vptr d, vint n]) Tryz.func69 rfl rfl ?_
 intro F W
 refine G.seq (G.region (G.ag rfl rfl (G.nil (G.then_n (G.seq (G.region (G.mv rfl rfl (G.q (Quiet.int rfl rfl rfl) rfl (G.mv rfl rfl ?_)))))))))
 refine G.dec (t := 7) rfl (fun h1_7 => ?_) (fun h1_7 => ?_)
 ·refine G.kDT (t := 6) rfl h1_7 (G.grun (t := 7) rfl rfl rfl (G.mv rfl rfl (G.grun (t := 7) rfl rfl rfl (G.mv rfl rfl (G.grun (t := 7) rfl rfl rfl (G.q (Quiet.nilp rfl) rfl (G.grun (t := 7) rfl rfl rfl (G.q (Quiet.fieldAddr rfl fo_94_0) rfl (G.grun (t := 7) rfl rfl rfl ?_)))))))))
  refine G.q (Quiet.ld rfl ag_91) rfl ?_
  refine G.grun (t := 7) rfl rfl rfl (G.q (Quiet.slen rfl Tryz.underlying91 rfl) rfl (G.grun (t := 7) rfl rfl rfl (G.q (Quiet.int rfl rfl rfl) rfl (G.q (Quiet.pickT rfl rfl) rfl (G.ag rfl rfl (G.nil (G.then_n (G.ret ?_))))))))
  exact G.dn (l := [.tmp 4]) rfl rfl ⟨by simp; omega, rfl⟩
 ·refine G.kDF (t := 6) rfl h1_7 (G.gskip (t := 7) rfl rfl rfl rfl (G.gskip (t := 7) rfl rfl rfl rfl (G.gskip (t := 7) rfl rfl rfl rfl (G.gskip (t := 7) rfl rfl rfl rfl (G.gskip (t := 7) rfl rfl rfl rfl (G.gskip (t := 7) rfl rfl rfl rfl (G.gskip (t := 7) rfl rfl rfl rfl (G.q (Quiet.pickF rfl rfl) rfl (G.ag rfl rfl (G.nil (G.then_n (G.ret ?_))))))))))))
  exact G.dn (l := [.tmp 4]) rfl rfl ⟨by simp; omega, rfl⟩

theorem size_spec (d : Nat) (δ : Dk) : Fn Tryz.prog 90 #[vptr d] [dkR d δ] fun v L => v = vint δ.now.length ∧ L = [dkR d δ] := by
 refine Fn.intro (vs := [vptr d]) Tryz.func90 rfl rfl ?_
 intro F W
 refine G.dkOpen .here fun nb ob hok => ?_
 refine G.seq (G.region (G.ag rfl rfl (G.nil (G.then_n (G.seq (G.region (G.mv rfl rfl (G.q (Quiet.nilp rfl) rfl (G.q (Quiet.fieldAddr rfl fo_94_0) rfl ?_)))))))))
 refine G.q (Quiet.ld rfl ag_91) rfl ?_
 refine G.q (Quiet.slen rfl Tryz.underlying91 rfl) rfl (G.ag rfl rfl (G.nil (G.then_n (G.ret ?_))))
 refine G.dkFold (δ := δ) (by (repeat' constructor)) rfl rfl rfl hok ?_
 exact G.dn (l := [.tmp 2]) rfl rfl ⟨rfl, rfl⟩

theorem dead_spec (d : Nat) (δ : Dk) : Fn Tryz.prog 38 #[vptr d] [dkR d δ] fun v L => v = .bool δ.dead ∧ L = [dkR d δ] := by
 refine Fn.intro (vs := [vptr d]) Tryz.func38 rfl rfl ?_
 intro F W
 refine G.dkOpen .here fun nb ob hok => ?_
 refine G.seq (G.region (G.ag rfl rfl (G.nil (G.then_n (G.seq (G.region (G.mv rfl rfl (G.q (Quiet.nilp rfl) rfl (G.q (Quiet.fieldAddr rfl fo_94_4) rfl ?_)))))))))
 refine G.q (Quiet.ld rfl ag_4) rfl ?_
 refine G.ag rfl rfl (G.nil (G.then_n (G.ret ?_)))
 refine G.dkFold (δ := δ) (by (repeat' constructor)) rfl rfl rfl hok ?_
 exact G.dn (l := [.tmp 2]) rfl rfl ⟨rfl, rfl⟩

theorem arm_spec (d : Nat) (δ : Dk) (n : Int) (hn : n ≤ 9223372036854775807) : Fn Tryz.prog 31 #[vptr d, vint n] [dkR d δ] fun v L => v = vint (δ.arm n).2 ∧ L = [dkR d (δ.arm n).1] := by
 refine Fn.intro (vs := [vptr d, vint n]) Tryz.func31 rfl rfl ?_
 intro F W
 refine G.dkOpen .here fun nb ob hok => ?_
 refine G.seq (G.region (G.ag rfl rfl (G.nil (G.then_n (G.seq (G.block (G.seq (G.region (G.mv rfl rfl (G.q (Quiet.nilp rfl) rfl (G.q (Quiet.fieldAddr rfl fo_94_4) rfl ?_)))))))))))
 refine G.q (Quiet.ld rfl ag_4) rfl ?_
 refine G.ag rfl rfl (G.nil (G.then_n ?_))
 refine G.condB rfl (fun h5 => ?_) (fun h5 => ?_)
 ·refine G.seq (G.region (G.ag rfl rfl (G.nil (G.then_n (G.ret (G.blk_r (G.then_r ?_)))))))
  have e : δ.arm n = (δ, 2) := by unfold Dk.arm; simp only [h5, if_true]
  rw [e]
  refine G.dkFold (δ := δ) (by (repeat' constructor)) rfl rfl rfl hok ?_
  exact G.dn (l := [.tmp 4]) rfl rfl ⟨rfl, rfl⟩
 ·refine G.seq (G.region (G.mv rfl rfl (G.q (Quiet.int rfl rfl rfl) rfl (G.ag rfl rfl (G.nil (G.then_n ?_))))))
  refine G.condD rfl (fun h10 => ?_) (fun h10 => ?_)
  ·refine G.seq (G.region (G.ag rfl rfl (G.nil (G.then_n (G.ret (G.blk_r (G.then_r ?_)))))))
   have e : δ.arm n = (δ, 1) := by unfold Dk.arm; simp only [h5, h10, if_true, if_false, Bool.false_eq_true]
   rw [e]
   refine G.dkFold (δ := δ) (by (repeat' constructor)) rfl rfl rfl hok ?_
   exact G.dn (l := [.tmp 4]) rfl rfl ⟨rfl, rfl⟩
  ·refine G.skip (G.blk_n (G.then_n (G.seq (G.region (G.mv rfl rfl (G.mv rfl rfl (G.q (Quiet.nilp rfl) rfl (G.q (Quiet.fieldAddr rfl fo_94_3) rfl ?_))))))))
   refine G.oq (OpSpec.store rfl rfl rfl sz_3 ?c14 ?c15) ?nx16
   case c14 => first | decide | (simp; omega) | simp
   case c15 => exact nfz0 _ _
   rintro v L' rfl
   refine G.nil (G.then_n (G.seq (G.region (G.ag rfl rfl (G.nil (G.then_n (G.ret ?_)))))))
   have e : δ.arm n = ({ δ with left := n }, 0) := by unfold Dk.arm; simp only [h5, h10, if_false, Bool.false_eq_true]
   rw [e]
   refine G.dkFold (δ := { δ with left := n }) (by (repeat' constructor)) rfl rfl rfl ⟨hok.sec, hok.olds, hok.nodup, hok.big, hok.acts0, by simp; omega⟩ ?_
   exact G.dn (l := [.tmp 4]) rfl rfl ⟨rfl, rfl⟩

theorem sync_spec (d : Nat) (δ : Dk) (hA : δ.acts < 4611686018427387904) : Fn Tryz.prog 86 #[vptr d] [dkR d δ] fun v L => v = vint δ.sync.2 ∧ L = [dkR d δ.sync.1] := by
 refine Fn.intro (vs := [vptr d]) Tryz.func86 rfl rfl ?_
 intro F W
 refine G.dkOpen .here fun nb ob hok => ?_
 have hl0 := hok.left0
 have ha0 := hok.acts0
 refine G.seq (G.region (G.ag rfl rfl (G.nil (G.then_n (G.seq (G.seq (G.region (G.mv rfl rfl (G.q (Quiet.nilp rfl) rfl (G.q (Quiet.fieldAddr rfl fo_94_4) rfl ?_))))))))))
 refine G.q (Quiet.ld rfl ag_4) rfl ?_
 refine G.nil (G.then_n ?_)
 refine G.condB rfl (fun h7 => ?_) (fun h7 => ?_)
 ·refine G.seq (G.region (G.ag rfl rfl (G.nil (G.then_n (G.ret (G.then_r ?_))))))
  have e : δ.sync = (δ, 2) := by unfold Dk.sync; simp only [h7, if_true]
  rw [e]
  refine G.dkFold (δ := δ) (by (repeat' constructor)) rfl rfl rfl hok ?_
  exact G.dn (l := [.tmp 2]) rfl rfl ⟨rfl, rfl⟩
 ·refine G.skip (G.then_n (G.seq (G.region (G.mv rfl rfl ?_))))
  refine G.oq (OpSpec.call Tryz.func70 rfl rfl (vs := [_]) rfl (act_spec _ _ _ _ _ _ ?hA8 ?hl9)) ?nx10
  case hA8 => omega
  case hl9 => omega
  rintro v L' ⟨rfl, rfl⟩
  refine G.ag rfl rfl (G.nil (G.then_n (G.seq (G.seq (G.region (G.mv rfl rfl (G.q (Quiet.int rfl rfl rfl) rfl (G.nil (G.then_n ?_)))))))))
  refine G.condD rfl (fun h11 => ?_) (fun h11 => ?_)
  ·refine G.region (G.mv rfl rfl (G.q (Quiet.nilp rfl) rfl (G.q (Quiet.fieldAddr rfl fo_94_1) rfl ?_)))
   refine G.q (Quiet.ld rfl ag_92) rfl ?_
   refine G.oq (OpSpec.mapClear rfl rfl Tryz.underlying92) ?nx17
   rintro v L' rfl
   refine G.nil (G.then_n (G.seq (G.region (G.mv rfl rfl (G.ag rfl rfl (G.nil (G.then_n (G.ret ?_))))))))
   have e : δ.sync = ({ δ.act.1 with old := [] }, 0) := by unfold Dk.sync Dk.act; simp only [h7, h11, if_true, if_false, Bool.false_eq_true]
   rw [e, h11]
   refine G.dkFold (δ := { δ.act.1 with old := [] }) (by (repeat' constructor)) rfl rfl rfl hok.acted.cleared ?_
   exact G.dn (l := [.tmp 2]) rfl rfl ⟨rfl, rfl⟩
  ·refine G.skip (G.then_n (G.seq (G.region (G.mv rfl rfl (G.ag rfl rfl (G.nil (G.then_n (G.ret ?_))))))))
   have e : δ.sync = (δ.act.1, δ.act.2) := by unfold Dk.sync Dk.act; simp only [h7, h11, if_false, Bool.false_eq_true]
   rw [e]
   refine G.dkFold (δ := δ.act.1) (by (repeat' constructor)) rfl rfl rfl hok.acted ?_
   exact G.dn (l := [.tmp 2]) rfl rfl ⟨rfl, rfl⟩

theorem read_spec (d : Nat) (δ : Dk) (n : Int) : Fn Tryz.prog 91 #[vptr d, vint n] [dkR d δ] fun v L => v = .tuple #[vstr (δ.read n).1, vint (δ.read n).2] ∧ L = [dkR d δ] := by
 refine Fn.intro (vs := [vptr d, vint n]) Tryz.func91 rfl rfl ?_
 intro F W
 refine G.dkOpen .here fun nb ob hok => ?_
 refine G.seq (G.region (G.ag rfl rfl (G.ag rfl rfl (G.nil (G.then_n (G.seq (G.block (G.seq (G.region (G.mv rfl rfl (G.q (Quiet.nilp rfl) rfl (G.q (Quiet.fieldAddr rfl fo_94_4) rfl ?_))))))))))))
 refine G.q (Quiet.ld rfl ag_4) rfl ?_
 refine G.ag rfl rfl (G.nil (G.then_n ?_))
 refine G.condB rfl (fun h7 => ?_) (fun h7 => ?_)
 ·refine G.seq (G.region (G.ag rfl rfl (G.ag rfl rfl (G.nil (G.then_n (G.ret (G.blk_r (G.then_r ?_))))))))
  have e : δ.read n = ([], 2) := by unfold Dk.read; simp only [h7, if_true]
  rw [e]
  refine G.dkFold (δ := δ) (by (repeat' constructor)) rfl rfl rfl hok ?_
  exact G.dn (l := [.tmp 4, .tmp 5]) rfl rfl ⟨rfl, rfl⟩
 ·refine G.seq (G.region (G.mv rfl rfl (G.mv rfl rfl ?_)))
  refine G.oq (OpSpec.call Tryz.func69 rfl rfl (vs := [_, _]) rfl (has_spec _ _ _ _ _ _ _ _ _)) ?nx11
  rintro v L' ⟨rfl, rfl⟩
  refine G.q (Quiet.not rfl) rfl (G.ag rfl rfl (G.nil (G.then_n ?_)))
  refine G.condB rfl (fun h12 => ?_) (fun h12 => ?_)
  ·refine G.seq (G.region (G.ag rfl rfl (G.ag rfl rfl (G.nil (G.then_n (G.ret (G.blk_r (G.then_r ?_))))))))
   have e : δ.read n = ([], 20) := by unfold Dk.read; have hh : δ.has n = false := (by have := h12; simp only [Bool.not_eq_true'] at this; exact this); simp only [h7, hh, if_true, if_false, Bool.false_eq_true]
   rw [e]
   refine G.dkFold (δ := δ) (by (repeat' constructor)) rfl rfl rfl hok ?_
   exact G.dn (l := [.tmp 4, .tmp 5]) rfl rfl ⟨rfl, rfl⟩
  ·have hh : δ.has n = true := by simpa [Dk.has] using h12
   obtain ⟨q0, q1, q2⟩ := has_lt hh
   have q3 : (bys δ.now[n.toNat]).length = 64 := by simpa using hok.sec _ (List.getElem_mem q2)
   have q4 := secsC_length hok.sec
   refine G.skip (G.blk_n (G.then_n (G.seq (G.region (G.mv rfl rfl (G.q (Quiet.nilp rfl) rfl (G.q (Quiet.fieldAddr rfl fo_94_0) rfl ?_)))))))
   refine G.q (Quiet.ld rfl ag_91) rfl ?_
   refine G.mv rfl rfl ?_
   refine G.q (Quiet.indexAddr rfl rfl el_91 (by omega)) rfl ?_
   refine G.q (Quiet.loadAs (vs := bys δ.now[n.toNat]) rfl ag_123 (by (repeat' constructor)) (by omega) (by rw [Nat.zero_add]; exact secsC_at hok.sec q2)) rfl ?_
   refine G.oq (OpSpec.allocA ze_123) ?nx23
   rintro v L' ⟨b5_7, rfl, rfl⟩
   refine G.oq (OpSpec.storeA rfl rfl ?c25 sz_123 ?c28 ?c26 ?c27) ?nx29
   case c25 => exact bys_cell _
   case c28 => exact q3
   case c26 => rw [q3]; decide
   case c27 => exact nfz0 _ _
   rintro v L' rfl
   refine G.nil (G.then_n (G.seq ?_))
   rw [spl_all (vs := bys δ.now[n.toNat]) (by rw [q3]; rfl)]
   refine G.region ?_
   refine G.q (Quiet.arrSlice rfl ar_123 (by first | exact rfl | rfl) (by first | exact rfl | rfl) (by omega)) rfl ?_
   refine G.q (Quiet.bytesPt (cs := δ.now[n.toNat]) rfl Tryz.underlying125 Tryz.underlying5 Tryz.underlying9 (by (repeat' constructor)) (by show (List.drop 0 _).take 64 = _; rw [List.drop_zero]; exact List.take_of_length_le (by rw [q3]; decide)) (by rw [q3]; decide) (by decide)) rfl ?_
   refine G.ag rfl rfl (G.ag rfl rfl (G.nil (G.then_n (G.ret ?_))))
   have e : δ.read n = (δ.now[n.toNat], 0) := by unfold Dk.read; simp [h7, hh, q2]
   rw [e]
   refine G.dkFold (δ := δ) (by (repeat' constructor)) rfl rfl rfl hok ?_
   exact G.dn (l := [.tmp 4, .tmp 5]) rfl rfl ⟨rfl, rfl⟩

theorem write_spec (d : Nat) (δ : Dk) (n : Int) (s : List UInt8) (hA : δ.acts < 4611686018427387904) : Fn Tryz.prog 23 #[vptr d, vint n, vstr s] [dkR d δ] fun v L => v = vint (δ.write n s).2 ∧ L = [dkR d (δ.write n s).1] := by
 refine Fn.intro (vs := [vptr d, vint n, vstr s]) Tryz.func23 rfl rfl ?_
 intro F W
 refine G.dkOpen .here fun nb ob hok => ?_
 have hl0 := hok.left0
 have ha0 := hok.acts0
 refine G.seq (G.region (G.ag rfl rfl (G.nil (G.then_n (G.seq (G.block (G.seq (G.region (G.mv rfl rfl (G.q (Quiet.nilp rfl) rfl (G.q (Quiet.fieldAddr rfl fo_94_4) rfl ?_)))))))))))
 refine G.q (Quiet.ld rfl ag_4) rfl ?_
 refine G.ag rfl rfl (G.nil (G.then_n ?_))
 refine G.condB rfl (fun h9 => ?_) (fun h9 => ?_)
 ·refine G.seq (G.region (G.ag rfl rfl (G.nil (G.then_n (G.ret (G.blk_r (G.then_r ?_)))))))
  have e : δ.write n s = (δ, 2) := by unfold Dk.write; simp only [h9, if_true]
  rw [e]
  refine G.dkFold (δ := δ) (by (repeat' constructor)) rfl rfl rfl hok ?_
  exact G.dn (l := [.tmp 6]) rfl rfl ⟨rfl, rfl⟩
 ·refine G.seq (G.region (G.mv rfl rfl (G.mv rfl rfl ?_)))
  refine G.oq (OpSpec.call Tryz.func69 rfl rfl (vs := [_, _]) rfl (has_spec _ _ _ _ _ _ _ _ _)) ?nx9
  rintro v L' ⟨rfl, rfl⟩
  refine G.q (Quiet.not rfl) rfl (G.mv rfl rfl ?_)
  refine G.bool (t := 19) rfl (fun h3_19 => ?_) (fun h3_19 => ?_)
  ·refine G.kB (t := 18) rfl h3_19 (G.gskip (t := 19) rfl rfl rfl rfl (G.gskip (t := 19) rfl rfl rfl rfl (G.gskip (t := 19) rfl rfl rfl rfl (G.q (Quiet.pickT rfl rfl) rfl (G.ag rfl rfl (G.nil (G.then_n (G.condT rfl (G.seq (G.region (G.ag rfl rfl (G.nil (G.then_n (G.ret (G.blk_r (G.then_r ?_))))))))))))))))
   have e : δ.write n s = (δ, 20) := by unfold Dk.write; have hh : δ.has n = false := (by have := h3_19; simp only [Bool.not_eq_true'] at this; exact this); simp [h9, hh]
   rw [e]
   refine G.dkFold (δ := δ) (by (repeat' constructor)) rfl rfl rfl hok ?_
   exact G.dn (l := [.tmp 6]) rfl rfl ⟨rfl, rfl⟩
  ·have hh : δ.has n = true := by simpa [Dk.has] using h3_19
   obtain ⟨q0, q1, q2⟩ := has_lt hh
   have q3 : (bys δ.now[n.toNat]).length = 64 := by simpa using hok.sec _ (List.getElem_mem q2)
   have q4 := secsC_length hok.sec
   refine G.kB (t := 18) rfl h3_19 (G.grun (t := 19) rfl rfl rfl (G.mv rfl rfl (G.grun (t := 19) rfl rfl rfl (G.q (Quiet.strlen rfl Tryz.underlying9 rfl) rfl (G.grun (t := 19) rfl rfl rfl (G.q (Quiet.int rfl rfl rfl) rfl (G.q (Quiet.pickF rfl rfl) rfl (G.ag rfl rfl (G.nil (G.then_n ?_))))))))))
   refine G.condN rfl (fun h14 => ?_) (fun h14 => ?_)
   ·refine G.seq (G.region (G.ag rfl rfl (G.nil (G.then_n (G.ret (G.blk_r (G.then_r ?_)))))))
    have e : δ.write n s = (δ, 20) := by unfold Dk.write; have q6 : s.length ≠ 64 := (by omega); simp [h9, q6]
    rw [e]
    refine G.dkFold (δ := δ) (by (repeat' constructor)) rfl rfl rfl hok ?_
    exact G.dn (l := [.tmp 6]) rfl rfl ⟨rfl, rfl⟩
   ·refine G.skip (G.blk_n (G.then_n (G.seq (G.seq (G.region (G.mv rfl rfl (G.q (Quiet.nilp rfl) rfl (G.q (Quiet.fieldAddr rfl fo_94_1) rfl ?_))))))))
    refine G.q (Quiet.ld rfl ag_92) rfl ?_
    refine G.mv rfl rfl ?_
    refine G.q (Quiet.lookupOk (m := δ.old) (enc := secV) (KeyLaw.int Tryz.underlying3) rfl rfl Tryz.underlying92 ze_123 (by (repeat' constructor)) rfl) rfl ?_
    rcases hq : alook δ.old n with _ | s0
    ·refine G.mv rfl rfl (G.q (Quiet.extract rfl rfl) rfl (G.q (Quiet.extract rfl rfl) rfl ?_))
     refine G.oq (OpSpec.allocA ze_123) ?nx26
     rintro v L' ⟨b5_9, rfl, rfl⟩
     refine G.oq (OpSpec.storeA rfl rfl ?c28 sz_123 ?c31 ?c29 ?c30) ?nx32
     case c28 => (first | (simp [isCell]; done) | (simp [isCell, setAll, Value.cells]; done))
     case c31 => rfl
     case c29 => decide
     case c30 => exact nfz0 _ _
     rintro v L' rfl
     refine G.ag rfl rfl (G.nil (G.then_n (G.seq (G.region (G.mv rfl rfl (G.q (Quiet.not rfl) rfl (G.nil (G.then_n (G.condT rfl ?_)))))))))
     refine G.draw [12] [[0, 1, 2, 3, 4, 5, 6, 7, 8, 9, 10, 11, 12]] mixed (by kernel_rfl) ?_
     refine Phases.go [] (by (repeat' constructor)) ?_
     refine D.kw [1, 2, 3, 12] rfl (Quiet.move rfl) ?_
     refine D.kw [2, 3, 12] rfl (Quiet.nilp rfl) ?_
     refine D.kw [3, 12] rfl (Quiet.fieldAddr rfl fo_94_1) ?_
     refine D.kw [12] rfl (Quiet.ld rfl ag_92) ?_
     refine D.kw [12] rfl (Quiet.move rfl) ?_
     refine D.kw [6, 7, 8, 10, 11, 12] rfl (Quiet.move rfl) ?_
     refine D.kw [7, 8, 10, 11, 12] rfl (Quiet.nilp rfl) ?_
     refine D.kw [8, 10, 11, 12] rfl (Quiet.fieldAddr rfl fo_94_0) ?_
     refine D.kw [10, 11, 12] rfl (Quiet.ld rfl ag_91) ?_
     refine D.kw [10, 11, 12] rfl (Quiet.move rfl) ?_
     refine D.kw [11, 12] rfl (Quiet.indexAddr rfl rfl el_91 (by omega)) ?_
     refine D.kw [12] rfl (Quiet.loadAs (vs := bys δ.now[n.toNat]) rfl ag_123 (by (repeat' constructor)) (by omega) (by rw [Nat.zero_add]; exact secsC_at hok.sec q2)) ?_
     refine D.h rfl (by kernel_rfl) (OpSpec.mapSet (m := δ.old) (enc := secV) (KeyLaw.int Tryz.underlying3) rfl rfl (v := δ.now[n.toNat]) rfl Tryz.underlying92 rfl) (by (repeat' constructor)) ?nx46
     rintro v L' rfl
     refine D.ph (Phases.fin (G.then_n (G.seq ?_)))
     have q6 : s.length = 64 := by omega
     have q7 : (bys s).length = 64 := by simpa using q6
     refine G.draw [6, 10] [[0, 1, 2, 3, 4, 5, 6, 7, 8], [9, 10]] mixed (by kernel_rfl) ?_
     refine Phases.go [ptc d _ 94] (by (repeat' constructor)) ?_
     refine D.k rfl (Quiet.move rfl) ?_
     refine D.k rfl (Quiet.nilp rfl) ?_
     refine D.k rfl (Quiet.fieldAddr rfl fo_94_0) ?_
     refine D.k rfl (Quiet.ld rfl ag_91) ?_
     refine D.k rfl (Quiet.move rfl) ?_
     refine D.kw [6, 7, 8] rfl (Quiet.move rfl) ?_
     refine D.h rfl (by kernel_rfl) (OpSpec.strBytes rfl Tryz.underlying9 Tryz.underlying125 Tryz.underlying5) (by (repeat' constructor)) ?nx53
     rintro v L' ⟨rfl, b8, c8, rfl⟩
     refine D.kw [8] rfl (Quiet.toArr rfl ar_123 (by omega)) ?_
     refine D.kw [] rfl (Quiet.loadAr (vs := bys s) (m := s.length) (sz := 1) rfl ag_123 (by (repeat' constructor)) (fun h hp => slR_rd hp) (by omega) (by rw [List.take_of_length_le (by simp; omega)])) ?_
     refine D.ph ?_
     refine Phases.go [] (by (repeat' constructor)) ?_
     refine D.kw [10] rfl (Quiet.indexAddr rfl rfl el_91 (by omega)) ?_
     refine D.h rfl (by kernel_rfl) (OpSpec.storeA rfl rfl ?c58 sz_123 ?c61 ?c59 ?c60) (by (repeat' constructor)) ?nx62
     case c58 => exact bys_cell _
     case c61 => exact q7
     case c59 => rw [q7, q4]; omega
     case c60 => exact nfz0 _ _
     rintro v L' rfl
     refine D.ph (Phases.fin ?_)
     rw [Nat.zero_add, secsC_set hok.sec q2 q6]
     refine G.then_n (G.seq (G.region (G.mv rfl rfl ?_)))
     refine G.oq (OpSpec.call Tryz.func70 rfl rfl (vs := [_]) rfl (act_spec _ _ _ _ _ _ ?hA64 ?hl65)) ?nx66
     case hA64 => omega
     case hl65 => omega
     rintro v L' ⟨rfl, rfl⟩
     refine G.ag rfl rfl (G.nil (G.then_n (G.ret ?_)))
     have e : δ.write n s = (δ.put n s).act := by unfold Dk.write; simp [h9, hh, q6]
     rw [e]
     refine G.dkFold (δ := (δ.put n s).act.1) (by (repeat' constructor)) (by simp [Dk.act, Dk.put]) rfl (by simp [Dk.act, Dk.put, hq, q2, oldsV]) (hok.putOk hh q6).acted ?_
     exact G.dn (l := [.tmp 6]) rfl rfl ⟨rfl, rfl⟩
    ·have q5 : (bys s0).length = 64 := by simpa using (hok.olds _ (alook_mem hq)).1
     refine G.mv rfl rfl (G.q (Quiet.extract rfl rfl) rfl (G.q (Quiet.extract rfl rfl) rfl ?_))
     refine G.oq (OpSpec.allocA ze_123) ?nx70
     rintro v L' ⟨b5_9, rfl, rfl⟩
     refine G.oq (OpSpec.storeA rfl rfl ?c72 sz_123 ?c75 ?c73 ?c74) ?nx76
     case c72 => exact bys_cell _
     case c75 => exact q5
     case c73 => rw [q5]; decide
     case c74 => exact nfz0 _ _
     rintro v L' rfl
     refine G.ag rfl rfl (G.nil (G.then_n (G.seq (G.region (G.mv rfl rfl (G.q (Quiet.not rfl) rfl (G.nil (G.then_n (G.condF rfl (G.skip (G.then_n (G.seq ?_))))))))))))
     have q6 : s.length = 64 := by omega
     have q7 : (bys s).length = 64 := by simpa using q6
     refine G.draw [6, 10] [[0, 1, 2, 3, 4, 5, 6, 7, 8], [9, 10]] mixed (by kernel_rfl) ?_
     refine Phases.go [ptc d _ 94] (by (repeat' constructor)) ?_
     refine D.k rfl (Quiet.move rfl) ?_
     refine D.k rfl (Quiet.nilp rfl) ?_
     refine D.k rfl (Quiet.fieldAddr rfl fo_94_0) ?_
     refine D.k rfl (Quiet.ld rfl ag_91) ?_
     refine D.k rfl (Quiet.move rfl) ?_
     refine D.kw [6, 7, 8] rfl (Quiet.move rfl) ?_
     refine D.h rfl (by kernel_rfl) (OpSpec.strBytes rfl Tryz.underlying9 Tryz.underlying125 Tryz.underlying5) (by (repeat' constructor)) ?nx84
     rintro v L' ⟨rfl, b8, c8, rfl⟩
     refine D.kw [8] rfl (Quiet.toArr rfl ar_123 (by omega)) ?_
     refine D.kw [] rfl (Quiet.loadAr (vs := bys s) (m := s.length) (sz := 1) rfl ag_123 (by (repeat' constructor)) (fun h hp => slR_rd hp) (by omega) (by rw [List.take_of_length_le (by simp; omega)])) ?_
     refine D.ph ?_
     refine Phases.go [] (by (repeat' constructor)) ?_
     refine D.kw [10] rfl (Quiet.indexAddr rfl rfl el_91 (by omega)) ?_
     refine D.h rfl (by kernel_rfl) (OpSpec.storeA rfl rfl ?c89 sz_123 ?c92 ?c90 ?c91) (by (repeat' constructor)) ?nx93
     case c89 => exact bys_cell _
     case c92 => exact q7
     case c90 => rw [q7, q4]; omega
     case c91 => exact nfz0 _ _
     rintro v L' rfl
     refine D.ph (Phases.fin ?_)
     rw [Nat.zero_add, secsC_set hok.sec q2 q6]
     refine G.then_n (G.seq (G.region (G.mv rfl rfl ?_)))
     refine G.oq (OpSpec.call Tryz.func70 rfl rfl (vs := [_]) rfl (act_spec _ _ _ _ _ _ ?hA95 ?hl96)) ?nx97
     case hA95 => omega
     case hl96 => omega
     rintro v L' ⟨rfl, rfl⟩
     refine G.ag rfl rfl (G.nil (G.then_n (G.ret ?_)))
     have e : δ.write n s = (δ.put n s).act := by unfold Dk.write; simp [h9, hh, q6]
     rw [e]
     refine G.dkFold (δ := (δ.put n s).act.1) (by (repeat' constructor)) (by simp [Dk.act, Dk.put]) rfl (by simp [Dk.act, Dk.put, hq, q2, oldsV]) (hok.putOk hh q6).acted ?_
     exact G.dn (l := [.tmp 6]) rfl rfl ⟨rfl, rfl⟩

end Go.Proofs.YtidjhgbdokcphaaGreat

/- Own work, by program: records, marks, areas: walked. -/
namespace Go.Proofs.YtidjhgbdokcphaaGreat
open Go
theorem record_spec (s : Bs) (hs : s.length ≤ 2147483648) : Fn Tryz.prog 99 #[vstr s] [] fun v L => (∃ a c, v = .slice a (recZ s).length c) ∧ L = [bytR v (recZ s)] := by
 refine Fn.intro (vs := [vstr s]) Tryz.func99 rfl rfl ?_
 intro F W
 have hsum := sumZ_range (headZ s)
 have hh : (headZ s).length = s.length + 2 := by simp [headZ, beB_len]; omega
 refine G.seq (G.region (G.ag rfl rfl (G.nil (G.then_n (G.seq (G.region (G.mv rfl rfl (G.q (Quiet.strlen rfl Tryz.underlying9 rfl) rfl ?_))))))))
 refine G.q (Quiet.add rfl rfl (by omega)) rfl ?_
 refine G.oq (OpSpec.make rfl rfl el_125 ze_5 rfl ⟨by simp, by simp; rfl⟩ ?hc5) ?nx6
 case hc5 => omega
 rintro v L' ⟨b, rfl, rfl⟩; rw [show ((s.length : Int) + 6).toNat = s.length + 6 by omega, show (2 : Int).toNat = 2 from rfl]
 refine G.ag rfl rfl (G.nil (G.then_n (G.seq (G.region (G.mv rfl rfl (G.mv rfl rfl (G.q (Quiet.strlen rfl Tryz.underlying9 rfl) rfl ?_)))))))
 refine G.oq (OpSpec.call Tryz.func150 rfl rfl (vs := [_, _]) rfl (big_spec b 0 2 (s.length + 6) s.length _ _ (by decide) ?hl10)) ?nx11
 case hl10 => simp
 rintro v L' ⟨rfl, rfl⟩
 refine G.nil ?_
 refine G.slMake (n := 2) (c := s.length + 6) (xs := bysL (beB s.length 2)) (by (repeat' constructor)) (by omega) (by simp [spl, bysL_len, beB_len]; omega) (by simp [spl, bysL_len, beB_len]) ?_
 refine G.then_n (G.seq (G.region (G.mv rfl rfl (G.mv rfl rfl ?_))))
 refine G.oq (OpSpec.appendS rfl rfl rfl el_125 Tryz.underlying9 ze_5 rfl rfl ?hb14 (by decide)) ?nx15
 case hb14 => omega
 rintro v L' ⟨⟨a1, c1, rfl⟩, rfl⟩; rw [show 2 + s.length = (headZ s).length by omega, show bysL (beB (s.length : Int) 2) ++ s.map vbyte = bysL (headZ s) from (bysL_append _ _).symm]
 refine G.ag rfl rfl (G.nil (G.then_n (G.seq (G.region ?_))))
 refine G.oq (OpSpec.make rfl rfl el_125 ze_5 rfl ⟨by simp, by simp; rfl⟩ ?hc17) ?nx18
 case hc17 => omega
 rintro v L' ⟨b2, rfl, rfl⟩; rw [show (4 : Int).toNat = 4 from rfl]
 refine G.ag rfl rfl (G.nil (G.then_n (G.seq (G.region (G.mv rfl rfl (G.mv rfl rfl ?_))))))
 refine G.q (Quiet.bytesBy (cs := headZ s) (n := (headZ s).length) (p := bytR (.slice a1 (headZ s).length c1) (headZ s)) rfl Tryz.underlying125 Tryz.underlying5 Tryz.underlying9 (fun h hp => slR_rd hp) (by (repeat' constructor))) rfl ?_
 refine G.oq (OpSpec.call Tryz.func151 rfl rfl (vs := [_]) rfl (sum_spec (headZ s) (by omega))) ?nx21
 rintro v L' ⟨rfl, rfl⟩
 refine G.q (Quiet.as (v' := vint (sumZ (headZ s))) (by rw [i64w (by omega)]) (Quiet.conv rfl Tryz.underlying183 Tryz.underlying3)) rfl ?_
 refine G.oq (OpSpec.call Tryz.func150 rfl rfl (vs := [_, _]) rfl (big_spec b2 0 4 4 (sumZ (headZ s)) _ _ (by decide) ?hl24)) ?nx25
 case hl24 => simp
 rintro v L' ⟨rfl, rfl⟩
 refine G.nil ?_
 refine G.ptCast (l' := bysL (beB (sumZ (headZ s)) 4)) (by (repeat' constructor)) (spl_all (by simp [bysL_len, beB_len])) ?_
 refine G.then_n (G.seq (G.region (G.mv rfl rfl (G.mv rfl rfl ?_))))
 refine G.oq (OpSpec.append1 (m := 4) rfl rfl rfl el_125 ze_5 rfl rfl ?c127 ?c228 (Nat.le_refl _) ?c329 (by decide)) ?nx30
 case c127 => exact bysL_cell _
 case c228 => simp [bysL_len, beB_len]
 case c329 => omega
 rintro v L' ⟨⟨a2, c2, rfl⟩, rfl⟩; rw [show (headZ s).length + 4 = (recZ s).length by rw [recZ_len]; omega, show bysL (headZ s) ++ bysL (beB (sumZ (headZ s)) 4) = bysL (recZ s) from (bysL_append _ _).symm]
 refine G.ag rfl rfl (G.nil (G.then_n (G.ret ?_)))
 exact G.dn (l := [.tmp 2]) rfl rfl ⟨⟨_, _, rfl⟩, rfl⟩

theorem laid_spec (v : Value) (l : List Bs) (p : HP) (hr : ∀ h : Hp, p h → rdS 1 h v l.length (strs l)) (hl : (laidZ l).length ≤ 2147483648) : Fn Tryz.prog 134 #[v] [p] fun u L => (∃ a c, u = .slice a (laidZ l).length c) ∧ L = [bytR u (laidZ l), p] := by
 refine Fn.intro (vs := [v]) Tryz.func134 rfl rfl ?_
 intro F W
 have hll : l.length ≤ (laidZ l).length := laidZ_many l
 refine G.rdAny (p := p) hr (by (repeat' constructor)) fun aa ca e _ => ?_
 subst e
 refine G.seq (G.region (G.ag rfl rfl (G.nil (G.then_n (G.seq (G.add (slR_nil 5 1) (G.region (G.ag rfl rfl (G.nil (G.then_n (G.seq (G.seq (G.region (G.mv rfl rfl (G.q (Quiet.slen rfl Tryz.underlying46 rfl) rfl (G.mv rfl rfl (G.nil (G.then_n (G.block ?_)))))))))))))))))))
 refine G.loopK (ι := Nat × Value) (fun q E => (8, vint q.1) :: (3, q.2) :: E) (fun q => [bytR q.2 (laidZ (l.take q.1))]) (fun q => q.1 ≤ l.length ∧ ∃ a c, q.2 = .slice a (laidZ (l.take q.1)).length c) (fun q => l.length - q.1) (0, .slice none 0 0) (ts := [2, 6, 7]) (.cons rfl (.cons rfl (.cons rfl (.nil)))) (⟨Nat.zero_le _, _, _, rfl⟩) ⟨rfl, rfl, rfl, rfl, rfl, trivial⟩ (by (repeat' constructor)) ?_
 rintro ⟨i, u⟩ ⟨hi, au, cu, hu⟩
 dsimp only
 dsimp only at hi hu
 subst hu
 refine G.seq (G.region (G.q (Quiet.int rfl rfl rfl) rfl (G.nil (G.then_n (G.seq ?_)))))
 refine G.condD rfl (fun h9 => ?_) (fun h9 => ?_)
 ·have hi2 : i < l.length := by omega
  refine G.rdShape (p := p) hr (by (repeat' constructor)) (by omega) fun ba oa e => ?_
  subst e
  have hm := recZ_mem (List.getElem_mem hi2)
  have ht := laidZ_take_len l (i + 1)
  rw [laidZ_succ hi2, List.length_append] at ht
  have hrl := recZ_len l[i]
  refine G.skip (G.then_n (G.seq (G.block (G.seq (G.region ?_)))))
  refine G.q (Quiet.indexAddr rfl rfl el_46 (by omega)) rfl ?_
  refine G.q (Quiet.loadRd (sz := 1) (j := i) (p := p) (v := vstr l[i]) rfl ag_9 (by (repeat' constructor)) hr (by simp) (by simp [hi2])) rfl ?_
  refine G.ag rfl rfl (G.nil (G.then_n (G.region (G.mv rfl rfl (G.mv rfl rfl ?_)))))
  refine G.oq (OpSpec.call Tryz.func99 rfl rfl (vs := [_]) rfl (record_spec l[i] (by omega))) ?nx10
  rintro v L' ⟨⟨ar, cr, rfl⟩, rfl⟩
  refine G.oq (OpSpec.append (n := (laidZ (l.take i)).length) (m := (recZ l[i]).length) (ys := bysL (recZ l[i])) (p := bytR (.slice ar (recZ l[i]).length cr) (recZ l[i])) rfl rfl rfl el_125 (.inl ⟨_, Tryz.underlying125⟩) ze_5 rfl rfl ?hc12 ?hr13 ?hb14 (by decide)) ?nx15
  case hc12 => exact bysL_cell _
  case hr13 => exact fun h hp => slR_rd hp
  case hb14 => omega
  rintro v L' ⟨⟨a5, c5, rfl⟩, rfl⟩
  refine G.ag rfl rfl (G.nil (G.blk_n (G.then_n (G.region ?_))))
  refine G.q (Quiet.add rfl rfl (by omega)) rfl ?_
  refine G.mv rfl rfl (G.nil (G.then_n ?_))
  rw [show (laidZ (l.take i)).length + (recZ l[i]).length = (laidZ (l.take (i + 1))).length by rw [laidZ_succ hi2, List.length_append], show bysL (laidZ (l.take i)) ++ bysL (recZ l[i]) = bysL (laidZ (l.take (i + 1))) by rw [laidZ_succ hi2, bysL_append]]
  exact G.roundK ((i + 1, .slice a5 (laidZ (l.take (i + 1))).length c5)) (⟨by dsimp only; omega, _, _, rfl⟩) (by dsimp only; omega) ⟨rfl, rfl, rfl, rfl, rfl, trivial⟩ (by (repeat' constructor)) (by ((repeat (apply Have.cons; (repeat (first | exact Pick.here | apply Pick.there)))); apply Have.base; repeat' constructor))
 ·have hi3 : i = l.length := by omega
  subst hi3
  rw [List.take_length]
  refine G.exit (G.then_e (G.then_e (G.blk_e (G.then_n (G.seq (G.region (G.mv rfl rfl (G.ag rfl rfl (G.nil (G.then_n (G.ret ?_)))))))))))
  exact G.dn (l := [.tmp 2]) rfl rfl ⟨⟨_, _, rfl⟩, rfl⟩

theorem sector_spec (m : Mk) : Fn Tryz.prog 95 #[.agg (mkC m).toArray] [] fun v L => v = vstr m.sec ∧ L = [] := by
 refine Fn.intro (vs := [.agg (mkC m).toArray]) Tryz.func95 rfl rfl ?_
 intro F W
 obtain ⟨p0, p1, p2, p3, p4, p5, p6⟩ := m.pre_len
 refine G.seq (G.region ?_)
 refine G.oq (OpSpec.box rfl) ?nx1
 rintro v L' ⟨bm, rfl, rfl⟩
 refine G.ag rfl rfl (G.nil (G.then_n (G.seq (G.region ?_))))
 refine G.oq (OpSpec.make rfl rfl el_125 ze_5 rfl ⟨by simp, by simp; rfl⟩ ?hc4) ?nx5
 case hc4 => omega
 rintro v L' ⟨b, rfl, rfl⟩; rw [show (64 : Int).toNat = 64 from rfl]
 refine G.ag rfl rfl (G.nil (G.then_n (G.seq (G.region (G.mv rfl rfl ?_)))))
 refine G.oq (OpSpec.copyS (s := [87, 77]) rfl rfl rfl el_125 ?h17 ?h28) ?nx9
 case h17 => simp
 case h28 => exact nfz0 _ _
 rintro v L' ⟨rfl, rfl⟩
 refine G.nil ?_
 refine G.ptCast (l' := m.at 0 62) (by (repeat' constructor)) rfl ?_
 refine G.then_n (G.seq ?_)
 refine G.draw [4] [[0, 1, 2, 3, 4]] mixed (by kernel_rfl) ?_
 refine Phases.go [] (by (repeat' constructor)) ?_
 refine D.kw [1, 4] rfl (Quiet.move rfl) ?_
 refine D.kw [4] rfl (Quiet.to (v' := .slice (some ⟨b, 2, none⟩) 4 62) (Quiet.slSlice (i := 2) (j := 6) rfl el_125 (by exact rfl) (by exact rfl) (by decide)) rfl) ?_
 refine D.kw [3, 4] rfl (Quiet.fieldAddr rfl fo_139_0) ?_
 refine D.kw [4] rfl (Quiet.ld rfl ag_3) ?_
 refine D.h rfl (by kernel_rfl) (OpSpec.call Tryz.func150 rfl rfl (vs := [_, _]) rfl (big_spec b 2 4 62 m.count (m.at 0 62) _ (by decide) (by simp [Mk.at, bysL_len, p0]))) (by (repeat' constructor)) ?nx14
 rintro v L' ⟨rfl, rfl⟩
 refine D.ph (Phases.fin ?_)
 refine G.ptCast (l' := m.at 1 58) (by (repeat' constructor)) (by have := m.at_step (j := 0) (k := 62) (off := 2) (q := beB m.count 4) p0.symm rfl (by simp [beB_len]); rw [beB_len] at this; exact this) ?_
 refine G.then_n (G.seq ?_)
 refine G.draw [4] [[0, 1, 2, 3, 4]] mixed (by kernel_rfl) ?_
 refine Phases.go [] (by (repeat' constructor)) ?_
 refine D.kw [1, 4] rfl (Quiet.move rfl) ?_
 refine D.kw [4] rfl (Quiet.to (v' := .slice (some ⟨b, 6, none⟩) 1 58) (Quiet.slSlice (i := 6) (j := 7) rfl el_125 (by exact rfl) (by exact rfl) (by decide)) rfl) ?_
 refine D.kw [3, 4] rfl (Quiet.fieldAddr rfl fo_139_1) ?_
 refine D.kw [4] rfl (Quiet.ld rfl ag_3) ?_
 refine D.h rfl (by kernel_rfl) (OpSpec.call Tryz.func150 rfl rfl (vs := [_, _]) rfl (big_spec b 6 1 58 m.area (m.at 1 58) _ (by decide) (by simp [Mk.at, bysL_len, p1]))) (by (repeat' constructor)) ?nx19
 rintro v L' ⟨rfl, rfl⟩
 refine D.ph (Phases.fin ?_)
 refine G.ptCast (l' := m.at 2 57) (by (repeat' constructor)) (by have := m.at_step (j := 1) (k := 58) (off := 6) (q := beB m.area 1) p1.symm rfl (by simp [beB_len]); rw [beB_len] at this; exact this) ?_
 refine G.then_n (G.seq ?_)
 refine G.draw [4] [[0, 1, 2, 3, 4]] mixed (by kernel_rfl) ?_
 refine Phases.go [] (by (repeat' constructor)) ?_
 refine D.kw [1, 4] rfl (Quiet.move rfl) ?_
 refine D.kw [4] rfl (Quiet.to (v' := .slice (some ⟨b, 7, none⟩) 4 57) (Quiet.slSlice (i := 7) (j := 11) rfl el_125 (by exact rfl) (by exact rfl) (by decide)) rfl) ?_
 refine D.kw [3, 4] rfl (Quiet.fieldAddr rfl fo_139_2) ?_
 refine D.kw [4] rfl (Quiet.ld rfl ag_3) ?_
 refine D.h rfl (by kernel_rfl) (OpSpec.call Tryz.func150 rfl rfl (vs := [_, _]) rfl (big_spec b 7 4 57 m.len (m.at 2 57) _ (by decide) (by simp [Mk.at, bysL_len, p2]))) (by (repeat' constructor)) ?nx24
 rintro v L' ⟨rfl, rfl⟩
 refine D.ph (Phases.fin ?_)
 refine G.ptCast (l' := m.at 3 53) (by (repeat' constructor)) (by have := m.at_step (j := 2) (k := 57) (off := 7) (q := beB m.len 4) p2.symm rfl (by simp [beB_len]); rw [beB_len] at this; exact this) ?_
 refine G.then_n (G.seq ?_)
 refine G.draw [4] [[0, 1, 2, 3, 4]] mixed (by kernel_rfl) ?_
 refine Phases.go [] (by (repeat' constructor)) ?_
 refine D.kw [1, 4] rfl (Quiet.move rfl) ?_
 refine D.kw [4] rfl (Quiet.to (v' := .slice (some ⟨b, 11, none⟩) 4 53) (Quiet.slSlice (i := 11) (j := 15) rfl el_125 (by exact rfl) (by exact rfl) (by decide)) rfl) ?_
 refine D.kw [3, 4] rfl (Quiet.fieldAddr rfl fo_139_3) ?_
 refine D.kw [4] rfl (Quiet.ld rfl ag_3) ?_
 refine D.h rfl (by kernel_rfl) (OpSpec.call Tryz.func150 rfl rfl (vs := [_, _]) rfl (big_spec b 11 4 53 m.num (m.at 3 53) _ (by decide) (by simp [Mk.at, bysL_len, p3]))) (by (repeat' constructor)) ?nx29
 rintro v L' ⟨rfl, rfl⟩
 refine D.ph (Phases.fin ?_)
 refine G.ptCast (l' := m.at 4 49) (by (repeat' constructor)) (by have := m.at_step (j := 3) (k := 53) (off := 11) (q := beB m.num 4) p3.symm rfl (by simp [beB_len]); rw [beB_len] at this; exact this) ?_
 refine G.then_n (G.seq ?_)
 refine G.draw [4] [[0, 1, 2, 3, 4]] mixed (by kernel_rfl) ?_
 refine Phases.go [] (by (repeat' constructor)) ?_
 refine D.kw [1, 4] rfl (Quiet.move rfl) ?_
 refine D.kw [4] rfl (Quiet.to (v' := .slice (some ⟨b, 15, none⟩) 8 49) (Quiet.slSlice (i := 15) (j := 23) rfl el_125 (by exact rfl) (by exact rfl) (by decide)) rfl) ?_
 refine D.kw [3, 4] rfl (Quiet.fieldAddr rfl fo_139_4) ?_
 refine D.kw [4] rfl (Quiet.ld rfl ag_3) ?_
 refine D.h rfl (by kernel_rfl) (OpSpec.call Tryz.func150 rfl rfl (vs := [_, _]) rfl (big_spec b 15 8 49 m.a (m.at 4 49) _ (by decide) (by simp [Mk.at, bysL_len, p4]))) (by (repeat' constructor)) ?nx34
 rintro v L' ⟨rfl, rfl⟩
 refine D.ph (Phases.fin ?_)
 refine G.ptCast (l' := m.at 5 41) (by (repeat' constructor)) (by have := m.at_step (j := 4) (k := 49) (off := 15) (q := beB m.a 8) p4.symm rfl (by simp [beB_len]); rw [beB_len] at this; exact this) ?_
 refine G.then_n (G.seq ?_)
 refine G.draw [4] [[0, 1, 2, 3, 4]] mixed (by kernel_rfl) ?_
 refine Phases.go [] (by (repeat' constructor)) ?_
 refine D.kw [1, 4] rfl (Quiet.move rfl) ?_
 refine D.kw [4] rfl (Quiet.to (v' := .slice (some ⟨b, 23, none⟩) 8 41) (Quiet.slSlice (i := 23) (j := 31) rfl el_125 (by exact rfl) (by exact rfl) (by decide)) rfl) ?_
 refine D.kw [3, 4] rfl (Quiet.fieldAddr rfl fo_139_5) ?_
 refine D.kw [4] rfl (Quiet.ld rfl ag_3) ?_
 refine D.h rfl (by kernel_rfl) (OpSpec.call Tryz.func150 rfl rfl (vs := [_, _]) rfl (big_spec b 23 8 41 m.b (m.at 5 41) _ (by decide) (by simp [Mk.at, bysL_len, p5]))) (by (repeat' constructor)) ?nx39
 rintro v L' ⟨rfl, rfl⟩
 refine D.ph (Phases.fin ?_)
 refine G.ptCast (l' := m.at 6 33) (by (repeat' constructor)) (by have := m.at_step (j := 5) (k := 41) (off := 23) (q := beB m.b 8) p5.symm rfl (by simp [beB_len]); rw [beB_len] at this; exact this) ?_
 refine G.then_n (G.seq ?_)
 refine G.draw [4] [[0, 1, 2, 3, 4]] mixed (by kernel_rfl) ?_
 refine Phases.go [] (by (repeat' constructor)) ?_
 refine D.kw [1, 4] rfl (Quiet.move rfl) ?_
 refine D.kw [4] rfl (Quiet.to (v' := .slice (some ⟨b, 60, none⟩) 4 4) (Quiet.slSlice (i := 60) (j := 64) rfl el_125 (by exact rfl) (by exact rfl) (by decide)) rfl) ?_
 refine D.kw [3, 4] rfl (Quiet.fieldAddr rfl fo_139_0) ?_
 refine D.kw [4] rfl (Quiet.ld rfl ag_3) ?_
 refine D.h rfl (by kernel_rfl) (OpSpec.call Tryz.func150 rfl rfl (vs := [_, _]) rfl (big_spec b 60 4 4 m.count (m.at 6 33) _ (by decide) (by simp [Mk.at, bysL_len, p6]))) (by (repeat' constructor)) ?nx44
 rintro v L' ⟨rfl, rfl⟩
 refine D.ph (Phases.fin ?_)
 refine G.ptCast (l' := bysL m.sec) (by (repeat' constructor)) m.at_end ?_
 refine G.then_n (G.seq (G.region (G.mv rfl rfl ?_)))
 refine G.q (Quiet.bytesPt (cs := m.sec) rfl Tryz.underlying125 Tryz.underlying5 Tryz.underlying9 (by (repeat' constructor)) (by rw [List.drop_zero]; exact List.take_of_length_le (by simp [bysL_len, m.sec_len])) (by simp [bysL_len, m.sec_len]) (by decide)) rfl ?_
 refine G.ag rfl rfl (G.nil (G.then_n (G.ret ?_)))
 exact G.dn (l := [.tmp 2]) rfl rfl ⟨rfl, rfl⟩

theorem half_spec (d : Nat) (δ : Dk) (hn : 2 ≤ δ.now.length ∧ δ.now.length ≤ 32768) : Fn Tryz.prog 109 #[vptr d] [dkR d δ] fun v L => v = vint (halfZ δ) ∧ L = [dkR d δ] := by
 refine Fn.intro (vs := [vptr d]) Tryz.func109 rfl rfl ?_
 intro F W
 refine G.seq (G.region (G.ag rfl rfl (G.nil (G.then_n (G.seq (G.region (G.mv rfl rfl ?_)))))))
 refine G.oq (OpSpec.call Tryz.func90 rfl rfl (vs := [_]) rfl (size_spec d δ)) ?nx3
 rintro v L' ⟨rfl, rfl⟩
 refine G.q (Quiet.sub rfl rfl (by omega)) rfl ?_
 refine G.q (Quiet.quoE rfl rfl (by omega) (by omega)) rfl ?_
 refine G.ag rfl rfl (G.nil (G.then_n (G.ret ?_)))
 exact G.dn (l := [.tmp 2]) rfl rfl ⟨rfl, rfl⟩

end Go.Proofs.YtidjhgbdokcphaaGreat

/- Own work: marks that are found, bytes that are parted, a log that is opened: plain data. -/

namespace Go.Proofs.YtidjhgbdokcphaaGreat
open Go

def sub (s : Bs) (i j : Nat) : Bs := (s.take j).drop i
def parseZ (s : Bs) : Mk := ⟨smallZ (sub s 2 6), smallZ (sub s 6 7), smallZ (sub s 7 11), smallZ (sub s 11 15), smallZ (sub s 15 23), smallZ (sub s 23 31)⟩
def mk0 : Mk := ⟨0, 0, 0, 0, 0, 0⟩
def badMk (δ : Dk) (n : Int) (s : Bs) (m : Mk) : Prop := m.count < 1 ∨ m.count % 2 ≠ n ∨ m.area > 1 ∨ m.len > 64 * halfZ δ ∨ m.a < 0 ∨ m.b < 0 ∨ s ≠ m.sec
instance (δ : Dk) (n : Int) (s : Bs) (m : Mk) : Decidable (badMk δ n s m) := inferInstanceAs (Decidable (_ ∨ _))
def foundZ (δ : Dk) (n : Int) : Option Mk := if (δ.read n).2 ≠ 0 then none else if badMk δ n (δ.read n).1 (parseZ (δ.read n).1) then none else some (parseZ (δ.read n).1)
def markV (o : Option Mk) : Value := .tuple #[.agg (mkC (o.getD mk0)).toArray, .bool o.isSome]
theorem read_len {δ : Dk} (h : δ.Ok) {n : Int} (he : (δ.read n).2 = 0) : (δ.read n).1.length = 64 := by
  unfold Dk.read at he ⊢
  split
  · rename_i hd; rw [if_pos hd] at he; cases he
  · rename_i hd
    rw [if_neg hd] at he
    split
    · rename_i hh; rw [if_pos hh] at he; cases he
    · rename_i hh
      have hh' : δ.has n = true := by simpa using hh
      obtain ⟨h0, h1, h2⟩ := has_lt hh'
      have e : δ.now.getD n.toNat [] = δ.now[n.toNat] := by simp [h2]
      rw [e]; exact h.sec _ (List.getElem_mem _)
theorem getD_mem64' {l : List (List UInt8)} (h : ∀ s ∈ l, s.length = 64) {i : Nat} (hi : i < l.length) : (l.getD i []).length = 64 := by
  have : l.getD i [] = l[i] := by simp [hi]
  rw [this]; exact h _ (List.getElem_mem _)
def partF : Nat → Bs → List Bs → Int → Option (List Bs)
  | 0, _, _, _ => none
  | f + 1, s, out, num =>
    if s = [] then (if (out.length : Int) = num then some out else none)
    else if (out.length : Int) = num ∨ s.length < 6 then none
    else if smallZ (s.take 2) > 4000 ∨ smallZ (s.take 2) + 6 > s.length then none
    else if s.take ((smallZ (s.take 2)).toNat + 6) ≠ recZ (sub s 2 ((smallZ (s.take 2)).toNat + 2)) then none
    else partF f (s.drop ((smallZ (s.take 2)).toNat + 6)) (out ++ [sub s 2 ((smallZ (s.take 2)).toNat + 2)]) num
def partZ (s : Bs) (num : Int) : Option (List Bs) := partF (s.length + 1) s [] num
theorem beZ_nonneg : ∀ (s : Bs) (n : Int), 0 ≤ n → 0 ≤ beZ s n := by
  intro s
  induction s with
  | nil => intro n h; exact h
  | cons c s ih => intro n h; exact ih _ (by omega)
theorem beZ_lt : ∀ (s : Bs) (n : Int), 0 ≤ n → beZ s n < (n + 1) * 256 ^ s.length := by
  intro s
  induction s with
  | nil => intro n h; simp [beZ]; omega
  | cons c s ih =>
    intro n h
    have hc : c.toNat < 256 := c.toNat_lt
    have h1 := ih (n * 256 + c.toNat) (by omega)
    simp only [beZ, List.length_cons]
    refine Int.lt_of_lt_of_le h1 ?_
    rw [Int.pow_succ, Int.mul_comm (256 ^ s.length) 256, ← Int.mul_assoc]
    exact Int.mul_le_mul_of_nonneg_right (by omega) (Int.le_of_lt (Int.pow_pos (by decide)))
theorem smallZ_nonneg {s : Bs} (h : s.length ≤ 7) : 0 ≤ smallZ s ∧ smallZ s < 256 ^ s.length ∧ smallZ s = beZ s 0 := by
  have h0 := beZ_nonneg s 0 (by omega)
  have h1 := beZ_lt s 0 (by omega)
  have h2 : ∀ k, k ≤ 7 → (256 : Int) ^ k ≤ 72057594037927936 := by decide
  have h2 := h2 _ h
  have e : smallZ s = beZ s 0 := i64w (by omega)
  rw [e]; omega
theorem sub_len {s : Bs} {i j : Nat} (h : j ≤ s.length) : (sub s i j).length = j - i := by simp [sub]; omega
structure Wl where
  recs : List Bs
  synced : Int
  area : Int
  count : Int
  a : Int
  b : Int
  doubt : Bool
def areaZ (δ : Dk) (area : Int) (n : Nat) : Bs := (List.range n).flatMap fun i : Nat => δ.now.getD (2 + area * halfZ δ + (i : Int)).toNat []
def bestZ (δ : Dk) : Option Mk :=
  match foundZ δ 0, foundZ δ 1 with
  | some m, some k => some (if k.count > m.count then k else m)
  | some m, none => some m
  | none, o => o
def bytesZ (δ : Dk) (m : Mk) : Bs := (areaZ δ m.area ((m.len.toNat + 63) / 64)).take m.len.toNat
def openZ (δ : Dk) : Option Wl :=
  match bestZ δ with
  | none => none
  | some m => match partZ (bytesZ δ m) m.num with
    | none => none
    | some l => some ⟨l, l.length, m.area, m.count, m.a, m.b, false⟩
def wlR (x d : Nat) (ω : Wl) : HP := fun h => ∃ v : Value × Value, sep [ptc x [vptr d, v.1, vint ω.synced, v.2, vint ω.area, vint ω.count, vint ω.a, vint ω.b, .bool ω.doubt] 142, strR v.1 ω.recs, bytR v.2 (laidZ ω.recs)] h
structure MkI (δ : Dk) (m : Mk) : Prop where
  count : 1 ≤ m.count ∧ m.count ≤ 4294967295
  area : 0 ≤ m.area ∧ m.area ≤ 1
  len : 0 ≤ m.len ∧ m.len ≤ 64 * halfZ δ
  num : 0 ≤ m.num ∧ m.num ≤ 4294967295
  a : 0 ≤ m.a ∧ m.a ≤ 9223372036854775807
  b : 0 ≤ m.b ∧ m.b ≤ 9223372036854775807
theorem small4 {s : Bs} {i j : Nat} (h : j ≤ s.length) (hk : j - i = 4) : 0 ≤ smallZ (sub s i j) ∧ smallZ (sub s i j) ≤ 4294967295 := by
  have hl := sub_len (i := i) h
  obtain ⟨h1, h2, -⟩ := smallZ_nonneg (s := sub s i j) (by omega)
  rw [hl, hk] at h2
  have e : (256 : Int) ^ 4 = 4294967296 := rfl
  omega
theorem smallZ_i64 (s : Bs) : -9223372036854775808 ≤ smallZ s ∧ smallZ s ≤ 9223372036854775807 := by unfold smallZ; rw [wrap64]; omega
theorem foundZ_some {δ : Dk} (hok : δ.Ok) {n : Int} {m : Mk} (h : foundZ δ n = some m) : MkI δ m ∧ m.count % 2 = n ∧ (δ.read n).1 = m.sec ∧ (δ.read n).2 = 0 := by
  unfold foundZ at h
  by_cases h0 : (δ.read n).2 ≠ 0
  · rw [if_pos h0] at h; cases h
  · rw [if_neg h0] at h
    have h0' : (δ.read n).2 = 0 := by simpa using h0
    by_cases hb : badMk δ n (δ.read n).1 (parseZ (δ.read n).1)
    · rw [if_pos hb] at h; cases h
    · rw [if_neg hb] at h
      have hl := read_len hok h0'
      generalize (δ.read n).1 = s at *
      have h := Option.some.inj h
      unfold badMk at hb
      simp only [not_or] at hb
      obtain ⟨b1, b2, b3, b4, b5, b6, b7⟩ := hb
      have q1 := small4 (s := s) (i := 2) (j := 6) (by omega) rfl
      have q3 := small4 (s := s) (i := 7) (j := 11) (by omega) rfl
      have q4 := small4 (s := s) (i := 11) (j := 15) (by omega) rfl
      have q2 := (smallZ_nonneg (s := sub s 6 7) (by rw [sub_len (by omega)]; decide)).1
      have q5 := smallZ_i64 (sub s 15 23)
      have q6 := smallZ_i64 (sub s 23 31)
      subst h
      simp only [parseZ] at *
      have c1 : smallZ (sub s 6 7) ≤ 1 := by omega
      have c2 : smallZ (sub s 7 11) ≤ 64 * halfZ δ := by omega
      have c3 : 1 ≤ smallZ (sub s 2 6) := by omega
      have c4 : 0 ≤ smallZ (sub s 15 23) := by omega
      have c5 : 0 ≤ smallZ (sub s 23 31) := by omega
      have c6 : smallZ (sub s 2 6) % 2 = n := by omega
      exact ⟨⟨⟨c3, q1.2⟩, ⟨q2, c1⟩, ⟨q3.1, c2⟩, q4, ⟨c4, q5.2⟩, ⟨c5, q6.2⟩⟩, c6, by simpa using b7, h0'⟩
theorem bestZ_some {δ : Dk} (hok : δ.Ok) {m : Mk} (h : bestZ δ = some m) : MkI δ m := by
  unfold bestZ at h
  rcases h0 : foundZ δ 0 with _ | m0 <;> rcases h1 : foundZ δ 1 with _ | m1 <;> rw [h0, h1] at h
  · cases h
  · cases h; exact (foundZ_some hok h1).1
  · cases h; exact (foundZ_some hok h0).1
  · simp only [Option.some.injEq] at h
    split at h
    · subst h; exact (foundZ_some hok h1).1
    · subst h; exact (foundZ_some hok h0).1
theorem areaZ_succ (δ : Dk) (area : Int) (i : Nat) : areaZ δ area (i + 1) = areaZ δ area i ++ δ.now.getD (2 + area * halfZ δ + (i : Int)).toNat [] := by
  unfold areaZ; rw [List.range_succ, List.flatMap_append]; simp
theorem area_idx {δ : Dk} (hn : 2 ≤ δ.now.length) {area : Int} (ha : 0 ≤ area ∧ area ≤ 1) {i : Nat} (hi : (i : Int) < halfZ δ) : 0 ≤ 2 + area * halfZ δ + i ∧ 2 + area * halfZ δ + i < δ.now.length := by
  unfold halfZ at *
  rcases (by omega : area = 0 ∨ area = 1) with rfl | rfl <;> omega
theorem areaZ_len {δ : Dk} (hok : δ.Ok) (hn : 2 ≤ δ.now.length) {area : Int} (ha : 0 ≤ area ∧ area ≤ 1) : ∀ i : Nat, (i : Int) ≤ halfZ δ → (areaZ δ area i).length = 64 * i := by
  intro i
  induction i with
  | zero => intro _; rfl
  | succ i ih =>
    intro hi
    have h1 := area_idx hn ha (i := i) (by omega)
    rw [areaZ_succ, List.length_append, ih (by omega), getD_mem64' hok.sec (by omega)]; omega
theorem area_read {δ : Dk} (hd : δ.dead = false) (hn : 2 ≤ δ.now.length) {area : Int} (ha : 0 ≤ area ∧ area ≤ 1) {i : Nat} (hi : (i : Int) < halfZ δ) : δ.read (2 + area * halfZ δ + i) = (δ.now.getD (2 + area * halfZ δ + (i : Int)).toNat [], 0) := by
  have h1 := area_idx hn ha hi
  have h2 : δ.has (2 + area * halfZ δ + i) = true := by simp only [Dk.has, Bool.and_eq_true, decide_eq_true_eq]; exact h1
  unfold Dk.read
  rw [hd, h2]; rfl
def secs (m : Mk) : Nat := (m.len.toNat + 63) / 64
def openB (δ : Dk) (m : Mk) : Option Wl := match partZ (bytesZ δ m) m.num with
  | none => none
  | some l => some ⟨l, l.length, m.area, m.count, m.a, m.b, false⟩
theorem openZ_none {δ : Dk} (h : bestZ δ = none) : openZ δ = none := by unfold openZ; rw [h]
theorem openZ_some {δ : Dk} {m : Mk} (h : bestZ δ = some m) : openZ δ = openB δ m := by unfold openZ; rw [h]; rfl
theorem bytesZ_len {δ : Dk} (hok : δ.Ok) (hn : 2 ≤ δ.now.length) {m : Mk} (hm : MkI δ m) : (areaZ δ m.area (secs m)).length = 64 * secs m ∧ m.len.toNat ≤ 64 * secs m ∧ (bytesZ δ m).length = m.len.toNat ∧ (secs m : Int) ≤ halfZ δ := by
  have h1 := hm.len
  have hs : (secs m : Int) ≤ halfZ δ := by unfold secs; omega
  have h2 := areaZ_len hok hn hm.area (secs m) hs
  have h3 : m.len.toNat ≤ 64 * secs m := by unfold secs; omega
  refine ⟨h2, h3, ?_, hs⟩
  show ((areaZ δ m.area (secs m)).take m.len.toNat).length = _
  rw [List.length_take, h2]; omega
theorem partF_laid : ∀ (f : Nat) (s : Bs) (out : List Bs) (num : Int) (l : List Bs), partF f s out num = some l → laidZ l = laidZ out ++ s ∧ (l.length : Int) = num := by
  intro f
  induction f with
  | zero => intro s out num l h; cases h
  | succ f ih =>
    intro s out num l h
    simp only [partF] at h
    by_cases h0 : s = []
    · subst h0
      simp only [if_true] at h
      split at h
      · rename_i hq; cases h; exact ⟨by simp, hq⟩
      · cases h
    · rw [if_neg h0] at h
      by_cases h1 : (out.length : Int) = num ∨ s.length < 6
      · rw [if_pos h1] at h; cases h
      · rw [if_neg h1] at h
        by_cases h2 : smallZ (s.take 2) > 4000 ∨ smallZ (s.take 2) + 6 > s.length
        · rw [if_pos h2] at h; cases h
        · rw [if_neg h2] at h
          by_cases h3 : s.take ((smallZ (s.take 2)).toNat + 6) ≠ recZ (sub s 2 ((smallZ (s.take 2)).toNat + 2))
          · rw [if_pos h3] at h; cases h
          · rw [if_neg h3] at h
            have h3 := Decidable.not_not.1 h3
            obtain ⟨q1, q2⟩ := ih _ _ _ _ h
            refine ⟨?_, q2⟩
            rw [q1, laidZ_append]
            have e : laidZ [sub s 2 ((smallZ (s.take 2)).toNat + 2)] = recZ (sub s 2 ((smallZ (s.take 2)).toNat + 2)) := by simp [laidZ]
            rw [e, ← h3, List.append_assoc, List.take_append_drop]
theorem partZ_laid {s : Bs} {num : Int} {l : List Bs} (h : partZ s num = some l) : laidZ l = s ∧ (l.length : Int) = num := by
  have := partF_laid _ _ _ _ _ h
  simpa [laidZ] using this
section
variable {W : World} {n : Nat} {ds : List Deferred} {E : Env} {L R : List HP} {X : Act → World → Prop}
theorem G.wlOpen {x d : Nat} {ω : Wl} (hL : Pick (wlR x d ω) L R) (h : ∀ vr vb, G W n ds E (ptc x [vptr d, vr, vint ω.synced, vb, vint ω.area, vint ω.count, vint ω.a, vint ω.b, .bool ω.doubt] 142 :: strR vr ω.recs :: bytR vb (laidZ ω.recs) :: R) X) : G W n ds E L X :=
  G.focus hL (G.open (q := fun v : Value × Value => [ptc x [vptr d, v.1, vint ω.synced, v.2, vint ω.area, vint ω.count, vint ω.a, vint ω.b, .bool ω.doubt] 142, strR v.1 ω.recs, bytR v.2 (laidZ ω.recs)]) (φ := fun _ => True) (fun h hp => by obtain ⟨v, hv⟩ := hp; exact ⟨v, trivial, hv⟩) fun v _ => h v.1 v.2)
theorem G.wlFold {x d m k : Nat} {ω : Wl} {vr vb : Value} {l ys zs : List Value} (hL : Picks [ptc x l 142, slR 9 1 vr m ys, slR 5 1 vb k zs] L R) (h0 : l = [vptr d, vr, vint ω.synced, vb, vint ω.area, vint ω.count, vint ω.a, vint ω.b, .bool ω.doubt])
    (h1 : m = ω.recs.length) (h2 : ys = strs ω.recs) (h3 : k = (laidZ ω.recs).length) (h4 : zs = bysL (laidZ ω.recs)) (h : G W n ds E (wlR x d ω :: R) X) : G W n ds E L X := by
  subst h0; subst h1; subst h2; subst h3; subst h4
  exact G.fold hL (fun _ hp => ⟨(vr, vb), hp⟩) h
end
end Go.Proofs.YtidjhgbdokcphaaGreat

/- Own work, by program: found, parted: walked. -/

namespace Go.Proofs.YtidjhgbdokcphaaGreat
open Go
theorem found_spec (d : Nat) (δ : Dk) (n : Int) (hn : 2 ≤ δ.now.length ∧ δ.now.length ≤ 32768) (hok : δ.Ok) : Fn Tryz.prog 112 #[vptr d, vint n] [dkR d δ] fun v L => v = markV (foundZ δ n) ∧ L = [dkR d δ] := by
 refine Fn.intro (vs := [vptr d, vint n]) Tryz.func112 rfl rfl ?_
 intro F W
 generalize hrd : δ.read n = rd
 refine G.seq (G.region ?_)
 refine G.oq (OpSpec.allocA ze_139) ?nx1
 rintro v L' ⟨bm, rfl, rfl⟩
 refine G.ag rfl rfl (G.nil (G.then_n (G.seq (G.region (G.mv rfl rfl (G.mv rfl rfl ?_))))))
 refine G.oq (OpSpec.call Tryz.func91 rfl rfl (vs := [_, _]) rfl (read_spec d δ n)) ?nx6
 rintro v L' ⟨rfl, rfl⟩; rw [hrd]
 refine G.mv rfl rfl (G.q (Quiet.extract rfl rfl) rfl (G.q (Quiet.extract rfl rfl) rfl (G.ag rfl rfl (G.ag rfl rfl (G.nil (G.then_n (G.seq (G.seq (G.region (G.mv rfl rfl (G.q (Quiet.int rfl rfl rfl) rfl (G.nil (G.then_n ?_)))))))))))))
 refine G.condN rfl (fun h16 => ?_) (fun h16 => ?_)
 ·refine G.seq (G.region ?_)
  refine G.q (Quiet.build (us := []) fl_139 ze_139 rfl rfl (by simp [isCell])) rfl ?_
  refine G.oq (OpSpec.storeA rfl rfl ?c12 sz_139 ?c15 ?c13 ?c14) ?nx16
  case c12 => (first | (simp [isCell]; done) | (simp [isCell, setAll, Value.cells]; done))
  case c15 => (first | (simp; done) | (simp [setAll, spl, Value.cells]; done))
  case c13 => (first | (simp; done) | (simp [setAll, spl, Value.cells]; done))
  case c14 => exact nfz0 _ _
  rintro v L' rfl
  refine G.ag rfl rfl (G.nil (G.then_n (G.ret (G.then_r ?_))))
  have e : foundZ δ n = none := by unfold foundZ; rw [if_pos (by rw [hrd]; simpa using h16)]
  rw [e]
  exact G.done2 rfl (.cellA rfl ag_139 (by (repeat' constructor)) (by simp [spl, setAll, mkC]) rfl) (.tmp rfl) ⟨rfl, rfl⟩ (by (repeat' constructor)) (by (repeat' constructor))
 ·refine G.skip (G.then_n (G.seq ?_))
  have hl : rd.1.length = 64 := by rw [← hrd]; exact read_len hok (by rw [hrd]; simpa using h16)
  generalize hs : rd.1 = s at *
  refine G.draw [19, 20] [[0, 1, 2, 3, 4, 5, 6, 7, 8, 9, 10, 11, 12, 13, 14, 15, 16, 17, 18, 19], [20]] mixed (by kernel_rfl) ?_
  refine Phases.go [] (by (repeat' constructor)) ?_
  refine D.k rfl (Quiet.move rfl) ?_
  refine D.k rfl (Quiet.to (v' := vstr (sub s 2 6)) (Quiet.strMid (i := 2) (j := 6) rfl rfl rfl Tryz.underlying9 (by omega)) rfl) ?_
  refine D.m rfl (by kernel_rfl) (OpSpec.call Tryz.func159 rfl rfl (vs := [_]) rfl (small_spec (sub s 2 6) ?hs19)) (by (repeat' constructor)) ?nx20
  case hs19 => rw [sub_len (by omega)]; decide
  refine D.k rfl (Quiet.move rfl) ?_
  refine D.k rfl (Quiet.to (v' := vstr (sub s 6 7)) (Quiet.strMid (i := 6) (j := 7) rfl rfl rfl Tryz.underlying9 (by omega)) rfl) ?_
  refine D.m rfl (by kernel_rfl) (OpSpec.call Tryz.func159 rfl rfl (vs := [_]) rfl (small_spec (sub s 6 7) ?hs23)) (by (repeat' constructor)) ?nx24
  case hs23 => rw [sub_len (by omega)]; decide
  refine D.k rfl (Quiet.move rfl) ?_
  refine D.k rfl (Quiet.to (v' := vstr (sub s 7 11)) (Quiet.strMid (i := 7) (j := 11) rfl rfl rfl Tryz.underlying9 (by omega)) rfl) ?_
  refine D.m rfl (by kernel_rfl) (OpSpec.call Tryz.func159 rfl rfl (vs := [_]) rfl (small_spec (sub s 7 11) ?hs27)) (by (repeat' constructor)) ?nx28
  case hs27 => rw [sub_len (by omega)]; decide
  refine D.k rfl (Quiet.move rfl) ?_
  refine D.k rfl (Quiet.to (v' := vstr (sub s 11 15)) (Quiet.strMid (i := 11) (j := 15) rfl rfl rfl Tryz.underlying9 (by omega)) rfl) ?_
  refine D.m rfl (by kernel_rfl) (OpSpec.call Tryz.func159 rfl rfl (vs := [_]) rfl (small_spec (sub s 11 15) ?hs31)) (by (repeat' constructor)) ?nx32
  case hs31 => rw [sub_len (by omega)]; decide
  refine D.k rfl (Quiet.move rfl) ?_
  refine D.k rfl (Quiet.to (v' := vstr (sub s 15 23)) (Quiet.strMid (i := 15) (j := 23) rfl rfl rfl Tryz.underlying9 (by omega)) rfl) ?_
  refine D.m rfl (by kernel_rfl) (OpSpec.call Tryz.func159 rfl rfl (vs := [_]) rfl (small_spec (sub s 15 23) ?hs35)) (by (repeat' constructor)) ?nx36
  case hs35 => rw [sub_len (by omega)]; decide
  refine D.k rfl (Quiet.move rfl) ?_
  refine D.k rfl (Quiet.to (v' := vstr (sub s 23 31)) (Quiet.strMid (i := 23) (j := 31) rfl rfl rfl Tryz.underlying9 (by omega)) rfl) ?_
  refine D.m rfl (by kernel_rfl) (OpSpec.call Tryz.func159 rfl rfl (vs := [_]) rfl (small_spec (sub s 23 31) ?hs39)) (by (repeat' constructor)) ?nx40
  case hs39 => rw [sub_len (by omega)]; decide
  refine D.k rfl (Quiet.build (us := [(0, _), (1, _), (2, _), (3, _), (4, _), (5, _)]) fl_139 ze_139 rfl rfl (by simp [isCell])) ?_
  refine D.h rfl (by kernel_rfl) (OpSpec.allocA ze_139) (by (repeat' constructor)) ?nx43
  rintro v L' ⟨b8, rfl, rfl⟩
  refine D.ph ?_
  refine Phases.go [] (by (repeat' constructor)) ?_
  refine D.h rfl (by kernel_rfl) (OpSpec.storeA rfl rfl ?c45 sz_139 ?c48 ?c46 ?c47) (by (repeat' constructor)) ?nx49
  case c45 => (first | (simp [isCell]; done) | (simp [isCell, setAll, Value.cells]; done))
  case c48 => (first | (simp; done) | (simp [setAll, spl, Value.cells]; done))
  case c46 => (first | (simp; done) | (simp [setAll, spl, Value.cells]; done))
  case c47 => exact nfz0 _ _
  rintro v L' rfl
  refine D.ph (Phases.fin ?_)
  refine G.ptCast (l' := mkC (parseZ s)) (by (repeat' constructor)) rfl ?_
  have hu0 := smallZ_nonneg (s := sub s 7 11) (by rw [sub_len (by omega)]; decide)
  generalize hm : parseZ s = m
  have hln : 0 ≤ m.len := by rw [← hm]; exact hu0.1
  refine G.then_n (G.seq (G.seq ?_))
  refine G.draw [] [[0, 1, 2, 3, 4, 5, 6, 7, 8, 9, 10, 11, 12, 13, 14, 15, 16, 17, 18, 19, 20, 21, 22, 23, 24, 25, 26, 27, 28, 29, 30, 31, 32, 33, 34, 35, 36, 37, 38]] mixed (by kernel_rfl) ?_
  refine Phases.go [ptc b8 _ _, dkR d δ] (by (repeat' constructor)) ?_
  refine D.kw [1, 2, 3, 4, 5, 6, 7, 8, 9, 10, 11, 12, 13, 14, 15, 16, 17, 18, 19, 20, 21, 22, 23, 24, 25, 26, 27, 28, 29, 30, 31, 32, 33, 34, 35, 36, 37, 38] rfl (Quiet.fieldAddr rfl fo_139_0) ?_
  refine D.kw [2, 3, 4, 5, 6, 7, 8, 9, 10, 11, 12, 13, 14, 15, 16, 17, 18, 19, 20, 21, 22, 23, 24, 25, 26, 27, 28, 29, 30, 31, 32, 33, 34, 35, 36, 37, 38] rfl (Quiet.ld rfl ag_3) ?_
  refine D.kw [3, 4, 5, 6, 7, 8, 9, 10, 11, 12, 13, 14, 15, 16, 17, 18, 19, 20, 21, 22, 23, 24, 25, 26, 27, 28, 29, 30, 31, 32, 33, 34, 35, 36, 37, 38] rfl (Quiet.int rfl rfl rfl) ?_
  refine D.kw [4, 5, 6, 7, 8, 9, 10, 11, 12, 13, 14, 15, 16, 17, 18, 19, 20, 21, 22, 23, 24, 25, 26, 27, 28, 29, 30, 31, 32, 33, 34, 35, 36, 37, 38] rfl (Quiet.move rfl) ?_
  refine D.dec (t := 40) rfl (fun h5_40 => ?_) (fun h5_40 => ?_)
  ·refine D.kDT (t := 39) rfl h5_40 ?_
   refine D.gs (t := 40) rfl rfl rfl rfl (by kernel_rfl) ?_
   refine D.gs (t := 40) rfl rfl rfl rfl (by kernel_rfl) ?_
   refine D.gs (t := 40) rfl rfl rfl rfl (by kernel_rfl) ?_
   refine D.gs (t := 40) rfl rfl rfl rfl (by kernel_rfl) ?_
   refine D.gs (t := 40) rfl rfl rfl rfl (by kernel_rfl) ?_
   refine D.kw [10, 11, 12, 13, 14, 15, 16, 17, 18, 19, 20, 21, 22, 23, 24, 25, 26, 27, 28, 29, 30, 31, 32, 33, 34, 35, 36, 37, 38] rfl (Quiet.pickT rfl rfl) ?_
   refine D.kw [11, 12, 13, 14, 15, 16, 17, 18, 19, 20, 21, 22, 23, 24, 25, 26, 27, 28, 29, 30, 31, 32, 33, 34, 35, 36, 37, 38] rfl (Quiet.move rfl) ?_
   refine D.gs (t := 47) rfl rfl rfl rfl (by kernel_rfl) ?_
   refine D.gs (t := 47) rfl rfl rfl rfl (by kernel_rfl) ?_
   refine D.gs (t := 47) rfl rfl rfl rfl (by kernel_rfl) ?_
   refine D.kw [15, 16, 17, 18, 19, 20, 21, 22, 23, 24, 25, 26, 27, 28, 29, 30, 31, 32, 33, 34, 35, 36, 37, 38] rfl (Quiet.pickT rfl rfl) ?_
   refine D.kw [16, 17, 18, 19, 20, 21, 22, 23, 24, 25, 26, 27, 28, 29, 30, 31, 32, 33, 34, 35, 36, 37, 38] rfl (Quiet.move rfl) ?_
   refine D.gs (t := 52) rfl rfl rfl rfl (by kernel_rfl) ?_
   refine D.gs (t := 52) rfl rfl rfl rfl (by kernel_rfl) ?_
   refine D.gs (t := 52) rfl rfl rfl rfl (by kernel_rfl) ?_
   refine D.gs (t := 52) rfl rfl rfl rfl (by kernel_rfl) ?_
   refine D.gs (t := 52) rfl rfl rfl rfl (by kernel_rfl) ?_
   refine D.gs (t := 52) rfl rfl rfl rfl (by kernel_rfl) ?_
   refine D.kw [23, 24, 25, 26, 27, 28, 29, 30, 31, 32, 33, 34, 35, 36, 37, 38] rfl (Quiet.pickT rfl rfl) ?_
   refine D.kw [24, 25, 26, 27, 28, 29, 30, 31, 32, 33, 34, 35, 36, 37, 38] rfl (Quiet.move rfl) ?_
   refine D.gs (t := 60) rfl rfl rfl rfl (by kernel_rfl) ?_
   refine D.gs (t := 60) rfl rfl rfl rfl (by kernel_rfl) ?_
   refine D.gs (t := 60) rfl rfl rfl rfl (by kernel_rfl) ?_
   refine D.kw [28, 29, 30, 31, 32, 33, 34, 35, 36, 37, 38] rfl (Quiet.pickT rfl rfl) ?_
   refine D.kw [29, 30, 31, 32, 33, 34, 35, 36, 37, 38] rfl (Quiet.move rfl) ?_
   refine D.gs (t := 65) rfl rfl rfl rfl (by kernel_rfl) ?_
   refine D.gs (t := 65) rfl rfl rfl rfl (by kernel_rfl) ?_
   refine D.gs (t := 65) rfl rfl rfl rfl (by kernel_rfl) ?_
   refine D.kw [33, 34, 35, 36, 37, 38] rfl (Quiet.pickT rfl rfl) ?_
   refine D.kw [34, 35, 36, 37, 38] rfl (Quiet.move rfl) ?_
   refine D.gs (t := 70) rfl rfl rfl rfl (by kernel_rfl) ?_
   refine D.gs (t := 70) rfl rfl rfl rfl (by kernel_rfl) ?_
   refine D.gs (t := 70) rfl rfl rfl rfl (by kernel_rfl) ?_
   refine D.gs (t := 70) rfl rfl rfl rfl (by kernel_rfl) ?_
   refine D.kw [] rfl (Quiet.pickT rfl rfl) ?_
   refine D.ph (Phases.fin (G.then_n (G.condT rfl (G.seq (G.region ?_)))))
   refine G.q (Quiet.build (us := []) fl_139 ze_139 rfl rfl (by simp [isCell])) rfl ?_
   refine G.oq (OpSpec.storeA rfl rfl ?c60 sz_139 ?c63 ?c61 ?c62) ?nx64
   case c60 => (first | (simp [isCell]; done) | (simp [isCell, setAll, Value.cells]; done))
   case c63 => (first | (simp; done) | (simp [setAll, spl, Value.cells]; done))
   case c61 => (first | (simp; done) | (simp [setAll, spl, Value.cells]; done))
   case c62 => exact nfz0 _ _
   rintro v L' rfl
   refine G.ag rfl rfl (G.nil (G.then_n (G.ret (G.then_r ?_))))
   have e : foundZ δ n = none := by unfold foundZ; rw [if_neg (by rw [hrd]; simpa using h16), if_pos (by rw [hrd, hs, hm]; unfold badMk; first | exact .inl h5_40 | (refine .inr ?_; first | exact .inl (by simpa using h5_47) | (refine .inr ?_; first | exact .inl h5_52 | (refine .inr ?_; first | exact .inl h5_60 | (refine .inr ?_; first | exact .inl h5_65 | (refine .inr ?_; first | exact .inl h5_70 | exact .inr (by simpa using h75)))))))]
   rw [e]
   exact G.done2 rfl (.cellA rfl ag_139 (by (repeat' constructor)) (by simp [spl, setAll, mkC]) rfl) (.tmp rfl) ⟨rfl, rfl⟩ (by (repeat' constructor)) (by (repeat' constructor))
  ·refine D.kDF (t := 39) rfl h5_40 ?_
   refine D.gqw [5, 6, 8, 9, 10, 11, 12, 13, 14, 15, 16, 17, 18, 19, 20, 21, 22, 23, 24, 25, 26, 27, 28, 29, 30, 31, 32, 33, 34, 35, 36, 37, 38] (t := 40) rfl rfl rfl (by kernel_rfl) (Quiet.fieldAddr rfl fo_139_0) ?_
   refine D.gqw [6, 8, 9, 10, 11, 12, 13, 14, 15, 16, 17, 18, 19, 20, 21, 22, 23, 24, 25, 26, 27, 28, 29, 30, 31, 32, 33, 34, 35, 36, 37, 38] (t := 40) rfl rfl rfl (by kernel_rfl) (Quiet.ld rfl ag_3) ?_
   refine D.gqw [8, 9, 10, 11, 12, 13, 14, 15, 16, 17, 18, 19, 20, 21, 22, 23, 24, 25, 26, 27, 28, 29, 30, 31, 32, 33, 34, 35, 36, 37, 38] (t := 40) rfl rfl rfl (by kernel_rfl) (Quiet.remE rfl rfl (by omega) (by decide)) ?_
   refine D.gqw [8, 9, 10, 11, 12, 13, 14, 15, 16, 17, 18, 19, 20, 21, 22, 23, 24, 25, 26, 27, 28, 29, 30, 31, 32, 33, 34, 35, 36, 37, 38] (t := 40) rfl rfl rfl (by kernel_rfl) (Quiet.move rfl) ?_
   refine D.gqw [9, 10, 11, 12, 13, 14, 15, 16, 17, 18, 19, 20, 21, 22, 23, 24, 25, 26, 27, 28, 29, 30, 31, 32, 33, 34, 35, 36, 37, 38] (t := 40) rfl rfl rfl (by kernel_rfl) (Quiet.int rfl rfl rfl) ?_
   refine D.kw [10, 11, 12, 13, 14, 15, 16, 17, 18, 19, 20, 21, 22, 23, 24, 25, 26, 27, 28, 29, 30, 31, 32, 33, 34, 35, 36, 37, 38] rfl (Quiet.pickF rfl rfl) ?_
   refine D.kw [11, 12, 13, 14, 15, 16, 17, 18, 19, 20, 21, 22, 23, 24, 25, 26, 27, 28, 29, 30, 31, 32, 33, 34, 35, 36, 37, 38] rfl (Quiet.move rfl) ?_
   refine D.ndec (t := 47) rfl (fun h5_47 => ?_) (fun h5_47 => ?_)
   ·refine D.kNT (t := 45) rfl h5_47 (D.kNT (t := 46) rfl h5_47 ?_)
    refine D.gs (t := 47) rfl rfl rfl rfl (by kernel_rfl) ?_
    refine D.gs (t := 47) rfl rfl rfl rfl (by kernel_rfl) ?_
    refine D.gs (t := 47) rfl rfl rfl rfl (by kernel_rfl) ?_
    refine D.kw [15, 16, 17, 18, 19, 20, 21, 22, 23, 24, 25, 26, 27, 28, 29, 30, 31, 32, 33, 34, 35, 36, 37, 38] rfl (Quiet.pickT rfl rfl) ?_
    refine D.kw [16, 17, 18, 19, 20, 21, 22, 23, 24, 25, 26, 27, 28, 29, 30, 31, 32, 33, 34, 35, 36, 37, 38] rfl (Quiet.move rfl) ?_
    refine D.gs (t := 52) rfl rfl rfl rfl (by kernel_rfl) ?_
    refine D.gs (t := 52) rfl rfl rfl rfl (by kernel_rfl) ?_
    refine D.gs (t := 52) rfl rfl rfl rfl (by kernel_rfl) ?_
    refine D.gs (t := 52) rfl rfl rfl rfl (by kernel_rfl) ?_
    refine D.gs (t := 52) rfl rfl rfl rfl (by kernel_rfl) ?_
    refine D.gs (t := 52) rfl rfl rfl rfl (by kernel_rfl) ?_
    refine D.kw [23, 24, 25, 26, 27, 28, 29, 30, 31, 32, 33, 34, 35, 36, 37, 38] rfl (Quiet.pickT rfl rfl) ?_
    refine D.kw [24, 25, 26, 27, 28, 29, 30, 31, 32, 33, 34, 35, 36, 37, 38] rfl (Quiet.move rfl) ?_
    refine D.gs (t := 60) rfl rfl rfl rfl (by kernel_rfl) ?_
    refine D.gs (t := 60) rfl rfl rfl rfl (by kernel_rfl) ?_
    refine D.gs (t := 60) rfl rfl rfl rfl (by kernel_rfl) ?_
    refine D.kw [28, 29, 30, 31, 32, 33, 34, 35, 36, 37, 38] rfl (Quiet.pickT rfl rfl) ?_
    refine D.kw [29, 30, 31, 32, 33, 34, 35, 36, 37, 38] rfl (Quiet.move rfl) ?_
    refine D.gs (t := 65) rfl rfl rfl rfl (by kernel_rfl) ?_
    refine D.gs (t := 65) rfl rfl rfl rfl (by kernel_rfl) ?_
    refine D.gs (t := 65) rfl rfl rfl rfl (by kernel_rfl) ?_
    refine D.kw [33, 34, 35, 36, 37, 38] rfl (Quiet.pickT rfl rfl) ?_
    refine D.kw [34, 35, 36, 37, 38] rfl (Quiet.move rfl) ?_
    refine D.gs (t := 70) rfl rfl rfl rfl (by kernel_rfl) ?_
    refine D.gs (t := 70) rfl rfl rfl rfl (by kernel_rfl) ?_
    refine D.gs (t := 70) rfl rfl rfl rfl (by kernel_rfl) ?_
    refine D.gs (t := 70) rfl rfl rfl rfl (by kernel_rfl) ?_
    refine D.kw [] rfl (Quiet.pickT rfl rfl) ?_
    refine D.ph (Phases.fin (G.then_n (G.condT rfl (G.seq (G.region ?_)))))
    refine G.q (Quiet.build (us := []) fl_139 ze_139 rfl rfl (by simp [isCell])) rfl ?_
    refine G.oq (OpSpec.storeA rfl rfl ?c77 sz_139 ?c80 ?c78 ?c79) ?nx81
    case c77 => (first | (simp [isCell]; done) | (simp [isCell, setAll, Value.cells]; done))
    case c80 => (first | (simp; done) | (simp [setAll, spl, Value.cells]; done))
    case c78 => (first | (simp; done) | (simp [setAll, spl, Value.cells]; done))
    case c79 => exact nfz0 _ _
    rintro v L' rfl
    refine G.ag rfl rfl (G.nil (G.then_n (G.ret (G.then_r ?_))))
    have e : foundZ δ n = none := by unfold foundZ; rw [if_neg (by rw [hrd]; simpa using h16), if_pos (by rw [hrd, hs, hm]; unfold badMk; first | exact .inl h5_40 | (refine .inr ?_; first | exact .inl (by simpa using h5_47) | (refine .inr ?_; first | exact .inl h5_52 | (refine .inr ?_; first | exact .inl h5_60 | (refine .inr ?_; first | exact .inl h5_65 | (refine .inr ?_; first | exact .inl h5_70 | exact .inr (by simpa using h75)))))))]
    rw [e]
    exact G.done2 rfl (.cellA rfl ag_139 (by (repeat' constructor)) (by simp [spl, setAll, mkC]) rfl) (.tmp rfl) ⟨rfl, rfl⟩ (by (repeat' constructor)) (by (repeat' constructor))
   ·refine D.kNF (t := 45) rfl h5_47 (D.kNF (t := 46) rfl h5_47 ?_)
    refine D.gqw [12, 13, 14, 15, 16, 17, 18, 19, 20, 21, 22, 23, 24, 25, 26, 27, 28, 29, 30, 31, 32, 33, 34, 35, 36, 37, 38] (t := 47) rfl rfl rfl (by kernel_rfl) (Quiet.fieldAddr rfl fo_139_1) ?_
    refine D.gqw [13, 14, 15, 16, 17, 18, 19, 20, 21, 22, 23, 24, 25, 26, 27, 28, 29, 30, 31, 32, 33, 34, 35, 36, 37, 38] (t := 47) rfl rfl rfl (by kernel_rfl) (Quiet.ld rfl ag_3) ?_
    refine D.gqw [14, 15, 16, 17, 18, 19, 20, 21, 22, 23, 24, 25, 26, 27, 28, 29, 30, 31, 32, 33, 34, 35, 36, 37, 38] (t := 47) rfl rfl rfl (by kernel_rfl) (Quiet.int rfl rfl rfl) ?_
    refine D.kw [15, 16, 17, 18, 19, 20, 21, 22, 23, 24, 25, 26, 27, 28, 29, 30, 31, 32, 33, 34, 35, 36, 37, 38] rfl (Quiet.pickF rfl rfl) ?_
    refine D.kw [16, 17, 18, 19, 20, 21, 22, 23, 24, 25, 26, 27, 28, 29, 30, 31, 32, 33, 34, 35, 36, 37, 38] rfl (Quiet.move rfl) ?_
    refine D.dec (t := 52) rfl (fun h5_52 => ?_) (fun h5_52 => ?_)
    ·refine D.kDT (t := 50) rfl h5_52 (D.kDT (t := 51) rfl h5_52 ?_)
     refine D.gs (t := 52) rfl rfl rfl rfl (by kernel_rfl) ?_
     refine D.gs (t := 52) rfl rfl rfl rfl (by kernel_rfl) ?_
     refine D.gs (t := 52) rfl rfl rfl rfl (by kernel_rfl) ?_
     refine D.gs (t := 52) rfl rfl rfl rfl (by kernel_rfl) ?_
     refine D.gs (t := 52) rfl rfl rfl rfl (by kernel_rfl) ?_
     refine D.gs (t := 52) rfl rfl rfl rfl (by kernel_rfl) ?_
     refine D.kw [23, 24, 25, 26, 27, 28, 29, 30, 31, 32, 33, 34, 35, 36, 37, 38] rfl (Quiet.pickT rfl rfl) ?_
     refine D.kw [24, 25, 26, 27, 28, 29, 30, 31, 32, 33, 34, 35, 36, 37, 38] rfl (Quiet.move rfl) ?_
     refine D.gs (t := 60) rfl rfl rfl rfl (by kernel_rfl) ?_
     refine D.gs (t := 60) rfl rfl rfl rfl (by kernel_rfl) ?_
     refine D.gs (t := 60) rfl rfl rfl rfl (by kernel_rfl) ?_
     refine D.kw [28, 29, 30, 31, 32, 33, 34, 35, 36, 37, 38] rfl (Quiet.pickT rfl rfl) ?_
     refine D.kw [29, 30, 31, 32, 33, 34, 35, 36, 37, 38] rfl (Quiet.move rfl) ?_
     refine D.gs (t := 65) rfl rfl rfl rfl (by kernel_rfl) ?_
     refine D.gs (t := 65) rfl rfl rfl rfl (by kernel_rfl) ?_
     refine D.gs (t := 65) rfl rfl rfl rfl (by kernel_rfl) ?_
     refine D.kw [33, 34, 35, 36, 37, 38] rfl (Quiet.pickT rfl rfl) ?_
     refine D.kw [34, 35, 36, 37, 38] rfl (Quiet.move rfl) ?_
     refine D.gs (t := 70) rfl rfl rfl rfl (by kernel_rfl) ?_
     refine D.gs (t := 70) rfl rfl rfl rfl (by kernel_rfl) ?_
     refine D.gs (t := 70) rfl rfl rfl rfl (by kernel_rfl) ?_
     refine D.gs (t := 70) rfl rfl rfl rfl (by kernel_rfl) ?_
     refine D.kw [] rfl (Quiet.pickT rfl rfl) ?_
     refine D.ph (Phases.fin (G.then_n (G.condT rfl (G.seq (G.region ?_)))))
     refine G.q (Quiet.build (us := []) fl_139 ze_139 rfl rfl (by simp [isCell])) rfl ?_
     refine G.oq (OpSpec.storeA rfl rfl ?c91 sz_139 ?c94 ?c92 ?c93) ?nx95
     case c91 => (first | (simp [isCell]; done) | (simp [isCell, setAll, Value.cells]; done))
     case c94 => (first | (simp; done) | (simp [setAll, spl, Value.cells]; done))
     case c92 => (first | (simp; done) | (simp [setAll, spl, Value.cells]; done))
     case c93 => exact nfz0 _ _
     rintro v L' rfl
     refine G.ag rfl rfl (G.nil (G.then_n (G.ret (G.then_r ?_))))
     have e : foundZ δ n = none := by unfold foundZ; rw [if_neg (by rw [hrd]; simpa using h16), if_pos (by rw [hrd, hs, hm]; unfold badMk; first | exact .inl h5_40 | (refine .inr ?_; first | exact .inl (by simpa using h5_47) | (refine .inr ?_; first | exact .inl h5_52 | (refine .inr ?_; first | exact .inl h5_60 | (refine .inr ?_; first | exact .inl h5_65 | (refine .inr ?_; first | exact .inl h5_70 | exact .inr (by simpa using h75)))))))]
     rw [e]
     exact G.done2 rfl (.cellA rfl ag_139 (by (repeat' constructor)) (by simp [spl, setAll, mkC]) rfl) (.tmp rfl) ⟨rfl, rfl⟩ (by (repeat' constructor)) (by (repeat' constructor))
    ·refine D.kDF (t := 50) rfl h5_52 (D.kDF (t := 51) rfl h5_52 ?_)
     refine D.gqw [17, 21, 22, 23, 24, 25, 26, 27, 28, 29, 30, 31, 32, 33, 34, 35, 36, 37, 38] (t := 52) rfl rfl rfl (by kernel_rfl) (Quiet.fieldAddr rfl fo_139_2) ?_
     refine D.gqw [21, 22, 23, 24, 25, 26, 27, 28, 29, 30, 31, 32, 33, 34, 35, 36, 37, 38] (t := 52) rfl rfl rfl (by kernel_rfl) (Quiet.ld rfl ag_3) ?_
     refine D.gqw [19, 20, 21, 22, 23, 24, 25, 26, 27, 28, 29, 30, 31, 32, 33, 34, 35, 36, 37, 38] (t := 52) rfl rfl rfl (by kernel_rfl) (Quiet.move rfl) ?_
     refine D.gm (t := 52) rfl rfl rfl (by kernel_rfl) (OpSpec.call Tryz.func109 rfl rfl (vs := [_]) rfl (half_spec d δ hn)) (by (repeat' constructor)) ?nx100
     refine D.gqw [21, 22, 23, 24, 25, 26, 27, 28, 29, 30, 31, 32, 33, 34, 35, 36, 37, 38] (t := 52) rfl rfl rfl (by kernel_rfl) (Quiet.mul rfl rfl (by unfold halfZ; omega)) ?_
     refine D.gqw [22, 23, 24, 25, 26, 27, 28, 29, 30, 31, 32, 33, 34, 35, 36, 37, 38] (t := 52) rfl rfl rfl (by kernel_rfl) (Quiet.int rfl rfl rfl) ?_
     refine D.kw [23, 24, 25, 26, 27, 28, 29, 30, 31, 32, 33, 34, 35, 36, 37, 38] rfl (Quiet.pickF rfl rfl) ?_
     refine D.kw [24, 25, 26, 27, 28, 29, 30, 31, 32, 33, 34, 35, 36, 37, 38] rfl (Quiet.move rfl) ?_
     refine D.dec (t := 60) rfl (fun h5_60 => ?_) (fun h5_60 => ?_)
     ·refine D.kDT (t := 58) rfl h5_60 (D.kDT (t := 59) rfl h5_60 ?_)
      refine D.gs (t := 60) rfl rfl rfl rfl (by kernel_rfl) ?_
      refine D.gs (t := 60) rfl rfl rfl rfl (by kernel_rfl) ?_
      refine D.gs (t := 60) rfl rfl rfl rfl (by kernel_rfl) ?_
      refine D.kw [28, 29, 30, 31, 32, 33, 34, 35, 36, 37, 38] rfl (Quiet.pickT rfl rfl) ?_
      refine D.kw [29, 30, 31, 32, 33, 34, 35, 36, 37, 38] rfl (Quiet.move rfl) ?_
      refine D.gs (t := 65) rfl rfl rfl rfl (by kernel_rfl) ?_
      refine D.gs (t := 65) rfl rfl rfl rfl (by kernel_rfl) ?_
      refine D.gs (t := 65) rfl rfl rfl rfl (by kernel_rfl) ?_
      refine D.kw [33, 34, 35, 36, 37, 38] rfl (Quiet.pickT rfl rfl) ?_
      refine D.kw [34, 35, 36, 37, 38] rfl (Quiet.move rfl) ?_
      refine D.gs (t := 70) rfl rfl rfl rfl (by kernel_rfl) ?_
      refine D.gs (t := 70) rfl rfl rfl rfl (by kernel_rfl) ?_
      refine D.gs (t := 70) rfl rfl rfl rfl (by kernel_rfl) ?_
      refine D.gs (t := 70) rfl rfl rfl rfl (by kernel_rfl) ?_
      refine D.kw [] rfl (Quiet.pickT rfl rfl) ?_
      refine D.ph (Phases.fin (G.then_n (G.condT rfl (G.seq (G.region ?_)))))
      refine G.q (Quiet.build (us := []) fl_139 ze_139 rfl rfl (by simp [isCell])) rfl ?_
      refine G.oq (OpSpec.storeA rfl rfl ?c108 sz_139 ?c111 ?c109 ?c110) ?nx112
      case c108 => (first | (simp [isCell]; done) | (simp [isCell, setAll, Value.cells]; done))
      case c111 => (first | (simp; done) | (simp [setAll, spl, Value.cells]; done))
      case c109 => (first | (simp; done) | (simp [setAll, spl, Value.cells]; done))
      case c110 => exact nfz0 _ _
      rintro v L' rfl
      refine G.ag rfl rfl (G.nil (G.then_n (G.ret (G.then_r ?_))))
      have e : foundZ δ n = none := by unfold foundZ; rw [if_neg (by rw [hrd]; simpa using h16), if_pos (by rw [hrd, hs, hm]; unfold badMk; first | exact .inl h5_40 | (refine .inr ?_; first | exact .inl (by simpa using h5_47) | (refine .inr ?_; first | exact .inl h5_52 | (refine .inr ?_; first | exact .inl h5_60 | (refine .inr ?_; first | exact .inl h5_65 | (refine .inr ?_; first | exact .inl h5_70 | exact .inr (by simpa using h75)))))))]
      rw [e]
      exact G.done2 rfl (.cellA rfl ag_139 (by (repeat' constructor)) (by simp [spl, setAll, mkC]) rfl) (.tmp rfl) ⟨rfl, rfl⟩ (by (repeat' constructor)) (by (repeat' constructor))
     ·refine D.kDF (t := 58) rfl h5_60 (D.kDF (t := 59) rfl h5_60 ?_)
      refine D.gqw [25, 26, 27, 28, 29, 30, 31, 32, 33, 34, 35, 36, 37, 38] (t := 60) rfl rfl rfl (by kernel_rfl) (Quiet.fieldAddr rfl fo_139_4) ?_
      refine D.gqw [26, 27, 28, 29, 30, 31, 32, 33, 34, 35, 36, 37, 38] (t := 60) rfl rfl rfl (by kernel_rfl) (Quiet.ld rfl ag_3) ?_
      refine D.gqw [27, 28, 29, 30, 31, 32, 33, 34, 35, 36, 37, 38] (t := 60) rfl rfl rfl (by kernel_rfl) (Quiet.int rfl rfl rfl) ?_
      refine D.kw [28, 29, 30, 31, 32, 33, 34, 35, 36, 37, 38] rfl (Quiet.pickF rfl rfl) ?_
      refine D.kw [29, 30, 31, 32, 33, 34, 35, 36, 37, 38] rfl (Quiet.move rfl) ?_
      refine D.dec (t := 65) rfl (fun h5_65 => ?_) (fun h5_65 => ?_)
      ·refine D.kDT (t := 63) rfl h5_65 (D.kDT (t := 64) rfl h5_65 ?_)
       refine D.gs (t := 65) rfl rfl rfl rfl (by kernel_rfl) ?_
       refine D.gs (t := 65) rfl rfl rfl rfl (by kernel_rfl) ?_
       refine D.gs (t := 65) rfl rfl rfl rfl (by kernel_rfl) ?_
       refine D.kw [33, 34, 35, 36, 37, 38] rfl (Quiet.pickT rfl rfl) ?_
       refine D.kw [34, 35, 36, 37, 38] rfl (Quiet.move rfl) ?_
       refine D.gs (t := 70) rfl rfl rfl rfl (by kernel_rfl) ?_
       refine D.gs (t := 70) rfl rfl rfl rfl (by kernel_rfl) ?_
       refine D.gs (t := 70) rfl rfl rfl rfl (by kernel_rfl) ?_
       refine D.gs (t := 70) rfl rfl rfl rfl (by kernel_rfl) ?_
       refine D.kw [] rfl (Quiet.pickT rfl rfl) ?_
       refine D.ph (Phases.fin (G.then_n (G.condT rfl (G.seq (G.region ?_)))))
       refine G.q (Quiet.build (us := []) fl_139 ze_139 rfl rfl (by simp [isCell])) rfl ?_
       refine G.oq (OpSpec.storeA rfl rfl ?c120 sz_139 ?c123 ?c121 ?c122) ?nx124
       case c120 => (first | (simp [isCell]; done) | (simp [isCell, setAll, Value.cells]; done))
       case c123 => (first | (simp; done) | (simp [setAll, spl, Value.cells]; done))
       case c121 => (first | (simp; done) | (simp [setAll, spl, Value.cells]; done))
       case c122 => exact nfz0 _ _
       rintro v L' rfl
       refine G.ag rfl rfl (G.nil (G.then_n (G.ret (G.then_r ?_))))
       have e : foundZ δ n = none := by unfold foundZ; rw [if_neg (by rw [hrd]; simpa using h16), if_pos (by rw [hrd, hs, hm]; unfold badMk; first | exact .inl h5_40 | (refine .inr ?_; first | exact .inl (by simpa using h5_47) | (refine .inr ?_; first | exact .inl h5_52 | (refine .inr ?_; first | exact .inl h5_60 | (refine .inr ?_; first | exact .inl h5_65 | (refine .inr ?_; first | exact .inl h5_70 | exact .inr (by simpa using h75)))))))]
       rw [e]
       exact G.done2 rfl (.cellA rfl ag_139 (by (repeat' constructor)) (by simp [spl, setAll, mkC]) rfl) (.tmp rfl) ⟨rfl, rfl⟩ (by (repeat' constructor)) (by (repeat' constructor))
      ·refine D.kDF (t := 63) rfl h5_65 (D.kDF (t := 64) rfl h5_65 ?_)
       refine D.gqw [30, 31, 32, 33, 34, 35, 36, 37, 38] (t := 65) rfl rfl rfl (by kernel_rfl) (Quiet.fieldAddr rfl fo_139_5) ?_
       refine D.gqw [31, 32, 33, 34, 35, 36, 37, 38] (t := 65) rfl rfl rfl (by kernel_rfl) (Quiet.ld rfl ag_3) ?_
       refine D.gqw [32, 33, 34, 35, 36, 37, 38] (t := 65) rfl rfl rfl (by kernel_rfl) (Quiet.int rfl rfl rfl) ?_
       refine D.kw [33, 34, 35, 36, 37, 38] rfl (Quiet.pickF rfl rfl) ?_
       refine D.kw [34, 35, 36, 37, 38] rfl (Quiet.move rfl) ?_
       refine D.dec (t := 70) rfl (fun h5_70 => ?_) (fun h5_70 => ?_)
       ·refine D.kDT (t := 68) rfl h5_70 (D.kDT (t := 69) rfl h5_70 ?_)
        refine D.gs (t := 70) rfl rfl rfl rfl (by kernel_rfl) ?_
        refine D.gs (t := 70) rfl rfl rfl rfl (by kernel_rfl) ?_
        refine D.gs (t := 70) rfl rfl rfl rfl (by kernel_rfl) ?_
        refine D.gs (t := 70) rfl rfl rfl rfl (by kernel_rfl) ?_
        refine D.kw [] rfl (Quiet.pickT rfl rfl) ?_
        refine D.ph (Phases.fin (G.then_n (G.condT rfl (G.seq (G.region ?_)))))
        refine G.q (Quiet.build (us := []) fl_139 ze_139 rfl rfl (by simp [isCell])) rfl ?_
        refine G.oq (OpSpec.storeA rfl rfl ?c131 sz_139 ?c134 ?c132 ?c133) ?nx135
        case c131 => (first | (simp [isCell]; done) | (simp [isCell, setAll, Value.cells]; done))
        case c134 => (first | (simp; done) | (simp [setAll, spl, Value.cells]; done))
        case c132 => (first | (simp; done) | (simp [setAll, spl, Value.cells]; done))
        case c133 => exact nfz0 _ _
        rintro v L' rfl
        refine G.ag rfl rfl (G.nil (G.then_n (G.ret (G.then_r ?_))))
        have e : foundZ δ n = none := by unfold foundZ; rw [if_neg (by rw [hrd]; simpa using h16), if_pos (by rw [hrd, hs, hm]; unfold badMk; first | exact .inl h5_40 | (refine .inr ?_; first | exact .inl (by simpa using h5_47) | (refine .inr ?_; first | exact .inl h5_52 | (refine .inr ?_; first | exact .inl h5_60 | (refine .inr ?_; first | exact .inl h5_65 | (refine .inr ?_; first | exact .inl h5_70 | exact .inr (by simpa using h75)))))))]
        rw [e]
        exact G.done2 rfl (.cellA rfl ag_139 (by (repeat' constructor)) (by simp [spl, setAll, mkC]) rfl) (.tmp rfl) ⟨rfl, rfl⟩ (by (repeat' constructor)) (by (repeat' constructor))
       ·refine D.kDF (t := 68) rfl h5_70 (D.kDF (t := 69) rfl h5_70 ?_)
        refine D.gqw [37, 38] (t := 70) rfl rfl rfl (by kernel_rfl) (Quiet.move rfl) ?_
        refine D.gqw [36, 37, 38] (t := 70) rfl rfl rfl (by kernel_rfl) (Quiet.loadAs (vs := mkC m) rfl ag_139 (by (repeat' constructor)) (by simp [mkC]) rfl) ?_
        refine D.gm (t := 70) rfl rfl rfl (by kernel_rfl) (OpSpec.call Tryz.func95 rfl rfl (vs := [_]) rfl (sector_spec m)) (by (repeat' constructor)) ?nx138
        refine D.gqw [38] (t := 70) rfl rfl rfl (by kernel_rfl) (Quiet.strne rfl rfl) ?_
        refine D.kw [] rfl (Quiet.pickF rfl rfl) ?_
        refine D.ph (Phases.fin (G.then_n ?_))
        refine G.condN rfl (fun h75 => ?_) (fun h75 => ?_)
        ·refine G.seq (G.region ?_)
         refine G.q (Quiet.build (us := []) fl_139 ze_139 rfl rfl (by simp [isCell])) rfl ?_
         refine G.oq (OpSpec.storeA rfl rfl ?c142 sz_139 ?c145 ?c143 ?c144) ?nx146
         case c142 => (first | (simp [isCell]; done) | (simp [isCell, setAll, Value.cells]; done))
         case c145 => (first | (simp; done) | (simp [setAll, spl, Value.cells]; done))
         case c143 => (first | (simp; done) | (simp [setAll, spl, Value.cells]; done))
         case c144 => exact nfz0 _ _
         rintro v L' rfl
         refine G.ag rfl rfl (G.nil (G.then_n (G.ret (G.then_r ?_))))
         have e : foundZ δ n = none := by unfold foundZ; rw [if_neg (by rw [hrd]; simpa using h16), if_pos (by rw [hrd, hs, hm]; unfold badMk; first | exact .inl h5_40 | (refine .inr ?_; first | exact .inl (by simpa using h5_47) | (refine .inr ?_; first | exact .inl h5_52 | (refine .inr ?_; first | exact .inl h5_60 | (refine .inr ?_; first | exact .inl h5_65 | (refine .inr ?_; first | exact .inl h5_70 | exact .inr (by simpa using h75)))))))]
         rw [e]
         exact G.done2 rfl (.cellA rfl ag_139 (by (repeat' constructor)) (by simp [spl, setAll, mkC]) rfl) (.tmp rfl) ⟨rfl, rfl⟩ (by (repeat' constructor)) (by (repeat' constructor))
        ·refine G.skip (G.then_n (G.seq (G.region ?_)))
         refine G.q (Quiet.loadAs (vs := mkC m) rfl ag_139 (by (repeat' constructor)) (by simp [mkC]) rfl) rfl ?_
         refine G.oq (OpSpec.storeA rfl rfl ?c149 sz_139 ?c152 ?c150 ?c151) ?nx153
         case c149 => simp [mkC, isCell]
         case c152 => simp [mkC]
         case c150 => simp [mkC]
         case c151 => exact nfz0 _ _
         rintro v L' rfl
         refine G.ag rfl rfl (G.nil (G.then_n (G.ret ?_)))
         have e : foundZ δ n = some m := by unfold foundZ; rw [if_neg (by rw [hrd]; simpa using h16), if_neg (by rw [hrd, hs, hm]; unfold badMk; simp only [not_or]; refine ⟨?_, ?_, ?_, ?_, ?_, ?_, ?_⟩ <;> first | omega | simpa using h75)]; rw [hrd, hs, hm]
         rw [e]
         exact G.done2 rfl (.cellA rfl ag_139 (by (repeat' constructor)) (by simp [spl, setAll, mkC]) rfl) (.tmp rfl) ⟨rfl, rfl⟩ (by (repeat' constructor)) (by (repeat' constructor))

end Go.Proofs.YtidjhgbdokcphaaGreat

/- Own work, by program: parted: walked. -/

namespace Go.Proofs.YtidjhgbdokcphaaGreat
open Go
theorem parted_spec (s : Bs) (num : Int) (hs : s.length ≤ 2147483648) : Fn Tryz.prog 114 #[vstr s, vint num] [] fun v L => (∃ l, partZ s num = some l ∧ (∃ a c, v = .tuple #[.slice a l.length c, .bool true] ∧ L = [strR (.slice a l.length c) l])) ∨ (partZ s num = none ∧ (∃ w, v = .tuple #[w, .bool false]) ∧ L = []) := by
 refine Fn.intro (vs := [vstr s, vint num]) Tryz.func114 rfl rfl ?_
 intro F W
 refine G.seq (G.region (G.ag rfl rfl (G.ag rfl rfl (G.nil (G.then_n (G.seq (G.region (G.ag rfl rfl (G.nil (G.then_n (G.seq (G.block (G.add (slR_nil 9 1) ?_)))))))))))))
 refine G.loopK (ι := Bs × (List Bs) × Nat × Value) (fun q E => (0, vstr q.1) :: (6, q.2.2.2) :: E) (fun q => [strR q.2.2.2 q.2.1]) (fun q => q.1.length < q.2.2.1 ∧ partF q.2.2.1 q.1 q.2.1 num = partZ s num ∧ q.2.1.length + q.1.length ≤ s.length ∧ ∃ a c, q.2.2.2 = .slice a q.2.1.length c) (fun q => q.1.length) (s, [], s.length + 1, .slice none 0 0) (ts := [1]) (.cons rfl (.nil)) (⟨Nat.lt_succ_self _, rfl, by simp, _, _, rfl⟩) ⟨rfl, rfl, rfl, trivial⟩ (by (repeat' constructor)) ?_
 rintro ⟨s2, out, f, u⟩ ⟨hf, hp, hle, au, cu, hu⟩
 dsimp only
 dsimp only at hf hp hle hu
 subst hu
 refine G.seq (G.seq (G.region (G.mv rfl rfl (G.q (Quiet.strne rfl rfl) rfl (G.nil (G.then_n ?_))))))
 refine G.condN rfl (fun h10 => ?_) (fun h10 => ?_)
 ·obtain ⟨f, rfl⟩ : ∃ k, f = k + 1 := ⟨f - 1, by omega⟩
  simp only [partF] at hp
  rw [if_neg h10] at hp
  refine G.skip (G.then_n (G.block (G.seq (G.seq (G.region (G.mv rfl rfl (G.q (Quiet.slen rfl Tryz.underlying46 rfl) rfl (G.mv rfl rfl (G.q (Quiet.int rfl rfl rfl) rfl (G.mv rfl rfl ?_))))))))))
  refine G.dec (t := 15) rfl (fun h3_15 => ?_) (fun h3_15 => ?_)
  ·refine G.kDT (t := 14) rfl h3_15 (G.gskip (t := 15) rfl rfl rfl rfl (G.gskip (t := 15) rfl rfl rfl rfl (G.gskip (t := 15) rfl rfl rfl rfl (G.q (Quiet.pickT rfl rfl) rfl (G.nil (G.then_n (G.condT rfl (G.seq (G.region (G.ag rfl rfl (G.ag rfl rfl (G.nil (G.then_n (G.ret (G.then_r (G.blk_r (G.then_r (G.blk_r (G.then_r ?_)))))))))))))))))))
   rw [if_pos (by first | exact .inl h3_15 | exact .inr (by omega))] at hp
   exact G.dn (l := [.tmp 4, .tmp 5]) rfl rfl (.inr ⟨hp.symm, ⟨_, rfl⟩, rfl⟩)
  ·refine G.kDF (t := 14) rfl h3_15 (G.grun (t := 15) rfl rfl rfl (G.mv rfl rfl (G.grun (t := 15) rfl rfl rfl (G.q (Quiet.strlen rfl Tryz.underlying9 rfl) rfl (G.grun (t := 15) rfl rfl rfl (G.q (Quiet.int rfl rfl rfl) rfl (G.q (Quiet.pickF rfl rfl) rfl (G.nil (G.then_n ?_)))))))))
   refine G.condD rfl (fun h19 => ?_) (fun h19 => ?_)
   ·refine G.seq (G.region (G.ag rfl rfl (G.ag rfl rfl (G.nil (G.then_n (G.ret (G.then_r (G.blk_r (G.then_r (G.blk_r (G.then_r ?_)))))))))))
    rw [if_pos (by first | exact .inl h3_15 | exact .inr (by omega))] at hp
    exact G.dn (l := [.tmp 4, .tmp 5]) rfl rfl (.inr ⟨hp.symm, ⟨_, rfl⟩, rfl⟩)
   ·refine G.skip (G.then_n (G.seq ?_))
    have h6 : 6 ≤ s2.length := by omega
    rw [if_neg (by rintro (h | h) <;> omega)] at hp
    refine G.region (G.mv rfl rfl ?_)
    refine G.q (Quiet.to (v' := vstr (s2.take 2)) (Quiet.strTo (j := 2) rfl rfl Tryz.underlying9 (by omega)) rfl) rfl ?_
    refine G.oq (OpSpec.call Tryz.func159 rfl rfl (vs := [_]) rfl (small_spec (s2.take 2) ?hs20)) ?nx21
    case hs20 => rw [List.length_take]; omega
    rintro v L' ⟨rfl, rfl⟩
    refine G.ag rfl rfl (G.nil ?_)
    obtain ⟨hn0, hn1, -⟩ := smallZ_nonneg (s := s2.take 2) (by rw [List.length_take]; omega)
    generalize smallZ (s2.take 2) = n at *
    obtain ⟨k, rfl⟩ := Int.eq_ofNat_of_zero_le hn0
    simp only [Int.toNat_natCast] at hp
    have hn1 : k < 65536 := by rw [List.length_take, Nat.min_eq_left (by omega)] at hn1; have e : (256 : Int) ^ 2 = 65536 := rfl; omega
    refine G.then_n (G.seq (G.seq (G.region (G.mv rfl rfl (G.q (Quiet.int rfl rfl rfl) rfl (G.mv rfl rfl ?_))))))
    refine G.dec (t := 25) rfl (fun h6_25 => ?_) (fun h6_25 => ?_)
    ·refine G.kDT (t := 24) rfl h6_25 (G.gskip (t := 25) rfl rfl rfl rfl (G.gskip (t := 25) rfl rfl rfl rfl (G.gskip (t := 25) rfl rfl rfl rfl (G.gskip (t := 25) rfl rfl rfl rfl (G.gskip (t := 25) rfl rfl rfl rfl (G.q (Quiet.pickT rfl rfl) rfl (G.nil (G.then_n (G.condT rfl (G.seq (G.region (G.ag rfl rfl (G.ag rfl rfl (G.nil (G.then_n (G.ret (G.then_r (G.blk_r (G.then_r (G.blk_r (G.then_r ?_)))))))))))))))))))))
     rw [if_pos (by first | exact .inl h6_25 | exact .inr (by omega))] at hp
     exact G.dn (l := [.tmp 4, .tmp 5]) rfl rfl (.inr ⟨hp.symm, ⟨_, rfl⟩, rfl⟩)
    ·refine G.kDF (t := 24) rfl h6_25 (G.grun (t := 25) rfl rfl rfl (G.mv rfl rfl (G.grun (t := 25) rfl rfl rfl ?_)))
     refine G.q (Quiet.add rfl rfl (by omega)) rfl ?_
     refine G.grun (t := 25) rfl rfl rfl (G.mv rfl rfl (G.grun (t := 25) rfl rfl rfl (G.q (Quiet.strlen rfl Tryz.underlying9 rfl) rfl (G.grun (t := 25) rfl rfl rfl (G.q (Quiet.int rfl rfl rfl) rfl (G.q (Quiet.pickF rfl rfl) rfl (G.nil (G.then_n ?_))))))))
     refine G.condD rfl (fun h31 => ?_) (fun h31 => ?_)
     ·refine G.seq (G.region (G.ag rfl rfl (G.ag rfl rfl (G.nil (G.then_n (G.ret (G.then_r (G.blk_r (G.then_r (G.blk_r (G.then_r ?_)))))))))))
      rw [if_pos (by first | exact .inl h6_25 | exact .inr (by omega))] at hp
      exact G.dn (l := [.tmp 4, .tmp 5]) rfl rfl (.inr ⟨hp.symm, ⟨_, rfl⟩, rfl⟩)
     ·refine G.skip (G.then_n (G.seq ?_))
      have hk4 : k ≤ 4000 := by omega
      have hk6 : k + 6 ≤ s2.length := by omega
      rw [if_neg (by rintro (h | h) <;> omega)] at hp
      refine G.region (G.mv rfl rfl (G.mv rfl rfl ?_))
      refine G.q (Quiet.add rfl rfl (by omega)) rfl ?_
      refine G.q (Quiet.to (v' := vstr (sub s2 2 (k + 2))) (Quiet.strMid (i := 2) (j := (k : Int) + 2) rfl rfl rfl Tryz.underlying9 (by omega)) (by rw [show ((k : Int) + 2).toNat = k + 2 by omega]; rfl)) rfl ?_
      refine G.ag rfl rfl (G.nil (G.then_n (G.seq (G.seq ?_))))
      refine G.draw [5] [[0, 1, 2, 3, 4, 5, 6], [7]] mixed (by kernel_rfl) ?_
      refine Phases.go [] (by (repeat' constructor)) ?_
      refine D.k rfl (Quiet.move rfl) ?_
      refine D.k rfl (Quiet.move rfl) ?_
      refine D.k rfl (Quiet.add rfl rfl (by omega)) ?_
      refine D.k rfl (Quiet.to (v' := vstr (s2.take (k + 6))) (Quiet.strTo (j := (k : Int) + 6) rfl rfl Tryz.underlying9 (by omega)) (by rw [show ((k : Int) + 6).toNat = k + 6 by omega])) ?_
      refine D.kw [5, 6] rfl (Quiet.move rfl) ?_
      refine D.h rfl (by kernel_rfl) (OpSpec.call Tryz.func99 rfl rfl (vs := [_]) rfl (record_spec (sub s2 2 (k + 2)) (by rw [sub_len (by omega)]; omega))) (by (repeat' constructor)) ?nx39
      rintro v L' ⟨⟨ar, cr, rfl⟩, rfl⟩
      refine D.kw [] rfl (Quiet.bytesBy (cs := recZ (sub s2 2 (k + 2))) (n := (recZ (sub s2 2 (k + 2))).length) (p := bytR (.slice ar (recZ (sub s2 2 (k + 2))).length cr) (recZ (sub s2 2 (k + 2)))) rfl Tryz.underlying125 Tryz.underlying5 Tryz.underlying9 (fun h hp => slR_rd hp) (by (repeat' constructor))) ?_
      refine D.ph ?_
      refine Phases.go [] (by (repeat' constructor)) ?_
      refine D.kw [] rfl (Quiet.strne rfl rfl) ?_
      refine D.ph (Phases.fin (G.then_n ?_))
      refine G.condN rfl (fun h43 => ?_) (fun h43 => ?_)
      ·refine G.seq (G.region (G.ag rfl rfl (G.ag rfl rfl (G.nil (G.then_n (G.ret (G.then_r (G.blk_r (G.then_r (G.blk_r (G.then_r ?_)))))))))))
       rw [if_pos h43] at hp
       exact G.dn (l := [.tmp 4, .tmp 5]) rfl rfl (.inr ⟨hp.symm, ⟨_, rfl⟩, rfl⟩)
      ·refine G.skip (G.then_n (G.seq ?_))
       rw [if_neg (fun hc => hc h43)] at hp
       refine G.region (G.mv rfl rfl (G.mv rfl rfl ?_))
       refine G.oq (OpSpec.buildSlice1 (vs := [_]) el_46 ze_9 rfl rfl rfl rfl rfl (by decide)) ?nx46
       rintro v L' ⟨b11_2, rfl, rfl⟩
       refine G.oq (OpSpec.append1 rfl rfl rfl el_46 ze_9 rfl rfl ?c48 ?c49 (Nat.le_refl _) ?c50 (by decide)) ?nx51
       case c48 => (first | (simp [isCell]; done) | (simp [isCell, setAll, Value.cells]; done))
       case c49 => rfl
       case c50 => omega
       rintro v L' ⟨⟨a11_3, c11_3, rfl⟩, rfl⟩
       refine G.ag rfl rfl (G.nil ?_)
       refine G.slCast (m' := (out ++ [sub s2 2 (k + 2)]).length) (xs' := strs (out ++ [sub s2 2 (k + 2)])) (by (repeat' constructor)) (by simp) (by simp [strs]) ?_
       refine G.then_n (G.region (G.mv rfl rfl (G.mv rfl rfl ?_)))
       refine G.q (Quiet.add rfl rfl (by omega)) rfl ?_
       refine G.q (Quiet.to (v' := vstr (s2.drop (k + 6))) (Quiet.strFrom (i := (k : Int) + 6) rfl rfl Tryz.underlying9 (by omega)) (by rw [show ((k : Int) + 6).toNat = k + 6 by omega])) rfl ?_
       refine G.ag rfl rfl (G.nil (G.blk_n (G.then_n ?_)))
       exact G.roundK ((s2.drop (k + 6), out ++ [sub s2 2 (k + 2)], f, .slice a11_3 (out.length + 1) c11_3)) (⟨by dsimp only; rw [List.length_drop]; omega, hp, by dsimp only; rw [List.length_drop, List.length_append, List.length_singleton]; omega, _, _, by rw [List.length_append, List.length_singleton]⟩) (by dsimp only; rw [List.length_drop]; omega) ⟨rfl, rfl, rfl, trivial⟩ (by (repeat' constructor)) (by ((repeat (apply Have.cons; (repeat (first | exact Pick.here | apply Pick.there)))); apply Have.base; repeat' constructor))
 ·have h10 : s2 = [] := by simpa using h10
  subst h10
  obtain ⟨f, rfl⟩ : ∃ k, f = k + 1 := ⟨f - 1, by simp at hf; omega⟩
  simp only [partF, eq_self, if_true] at hp
  refine G.exit (G.then_e (G.then_e (G.blk_e (G.then_n (G.seq (G.region (G.mv rfl rfl (G.mv rfl rfl (G.q (Quiet.slen rfl Tryz.underlying46 rfl) rfl (G.mv rfl rfl (G.q (Quiet.int rfl rfl rfl) rfl (G.ag rfl rfl (G.ag rfl rfl (G.nil (G.then_n (G.ret ?_))))))))))))))))
  split at hp
  · rename_i hq
    exact G.dn (l := [.tmp 4, .tmp 5]) rfl rfl (.inl ⟨out, hp.symm, _, _, by rw [decide_eq_true hq], rfl⟩)
  · rename_i hq
    exact G.dn (l := [.tmp 4, .tmp 5]) rfl rfl (.inr ⟨hp.symm, ⟨_, by rw [decide_eq_false hq]⟩, rfl⟩)

end Go.Proofs.YtidjhgbdokcphaaGreat

/- Own work, by program: Clip, Clone; Open: walked. -/

namespace Go.Proofs.YtidjhgbdokcphaaGreat
open Go
theorem G.nilEmpty {W : World} {k : Nat} {ds : List Deferred} {E : Env} {L R : List HP} {X : Act → World → Prop} {p : HP} {sz n c : Nat} {xs : List Value} (hr : ∀ h : Hp, p h → rdS sz h (.slice none n c) n xs) (hL : Pick p L R)
    (h : n = 0 → xs = [] → G W k ds E L X) : G W k ds E L X := by
  intro a w he hk hs
  obtain ⟨g1, -, hp⟩ := sep_head (hs.pick hL)
  rcases hr _ hp with ⟨h1, h2, -⟩ | ⟨b, off, cap, l, T, fr, hv, -⟩
  · exact h h1 h2 a w he hk hs
  · simp at hv
theorem clipB0_spec : Fn Tryz.prog 113 #[.slice none 0 0] [slR 5 1 (.slice none 0 0) 0 []] fun u L => u = .slice none 0 0 ∧ L = [slR 5 1 u 0 []] := by
 refine Fn.intro (vs := [.slice none 0 0]) Tryz.func113 rfl rfl ?_
 intro F W
 refine G.seq (G.region (G.ag rfl rfl (G.nil (G.then_n (G.seq (G.region (G.mv rfl rfl (G.mv rfl rfl (G.q (Quiet.slen rfl Tryz.underlying125 rfl) rfl (G.mv rfl rfl (G.q (Quiet.slen rfl Tryz.underlying125 rfl) rfl (G.q (Quiet.clip (n := 0) rfl el_125 rfl rfl (Nat.le_refl _) (.inl rfl)) rfl (G.ag rfl rfl (G.nil (G.then_n (G.ret ?_))))))))))))))))
 exact G.dn (l := [.tmp 2]) rfl rfl ⟨rfl, rfl⟩

theorem clipB1_spec (b n c : Nat) (hc : n ≤ c) (xs : List Value) : Fn Tryz.prog 113 #[.slice (some ⟨b, 0, none⟩) n c] [slR 5 1 (.slice (some ⟨b, 0, none⟩) n c) n xs] fun u L => u = .slice (some ⟨b, 0, none⟩) n n ∧ L = [slR 5 1 u n xs] := by
 refine Fn.intro (vs := [.slice (some ⟨b, 0, none⟩) n c]) Tryz.func113 rfl rfl ?_
 intro F W
 refine G.seq (G.region (G.ag rfl rfl (G.nil (G.then_n (G.seq (G.region (G.mv rfl rfl (G.mv rfl rfl (G.q (Quiet.slen rfl Tryz.underlying125 rfl) rfl (G.mv rfl rfl (G.q (Quiet.slen rfl Tryz.underlying125 rfl) rfl ?_)))))))))))
 refine G.q (Quiet.clip (n := n) rfl el_125 rfl rfl hc (.inr ⟨_, _, rfl⟩)) rfl ?_
 refine G.ag rfl rfl (G.nil (G.then_n (G.ret ?_)))
 refine G.slClip (by (repeat' constructor)) ?_
 exact G.dn (l := [.tmp 2]) rfl rfl ⟨rfl, rfl⟩

theorem clipB_spec (v : Value) (n : Nat) (xs : List Value) : Fn Tryz.prog 113 #[v] [slR 5 1 v n xs] fun u L => (∃ a c, u = .slice a n c) ∧ L = [slR 5 1 u n xs] := by
  intro F w hs
  obtain ⟨g1, -, hp⟩ := sep_head hs
  rcases hp with ⟨rfl, rfl, rfl⟩ | ⟨b, cap, rest, fr, rfl, -, -, -, h4, -⟩
  · exact (clipB0_spec F w hs).mono fun e w' ⟨u, L, ⟨h1, h2⟩, h3⟩ => ⟨u, L, ⟨⟨_, _, h1⟩, h2⟩, h3⟩
  · exact (clipB1_spec b n cap h4 xs F w hs).mono fun e w' ⟨u, L, ⟨h1, h2⟩, h3⟩ => ⟨u, L, ⟨⟨_, _, h1⟩, h2⟩, h3⟩
theorem clipT0_spec : Fn Tryz.prog 115 #[.slice none 0 0] [slR 9 1 (.slice none 0 0) 0 []] fun u L => u = .slice none 0 0 ∧ L = [slR 9 1 u 0 []] := by
 refine Fn.intro (vs := [.slice none 0 0]) Tryz.func115 rfl rfl ?_
 intro F W
 refine G.seq (G.region (G.ag rfl rfl (G.nil (G.then_n (G.seq (G.region (G.mv rfl rfl (G.mv rfl rfl (G.q (Quiet.slen rfl Tryz.underlying46 rfl) rfl (G.mv rfl rfl (G.q (Quiet.slen rfl Tryz.underlying46 rfl) rfl (G.q (Quiet.clip (n := 0) rfl el_46 rfl rfl (Nat.le_refl _) (.inl rfl)) rfl (G.ag rfl rfl (G.nil (G.then_n (G.ret ?_))))))))))))))))
 exact G.dn (l := [.tmp 2]) rfl rfl ⟨rfl, rfl⟩

theorem clipT1_spec (b n c : Nat) (hc : n ≤ c) (xs : List Value) : Fn Tryz.prog 115 #[.slice (some ⟨b, 0, none⟩) n c] [slR 9 1 (.slice (some ⟨b, 0, none⟩) n c) n xs] fun u L => u = .slice (some ⟨b, 0, none⟩) n n ∧ L = [slR 9 1 u n xs] := by
 refine Fn.intro (vs := [.slice (some ⟨b, 0, none⟩) n c]) Tryz.func115 rfl rfl ?_
 intro F W
 refine G.seq (G.region (G.ag rfl rfl (G.nil (G.then_n (G.seq (G.region (G.mv rfl rfl (G.mv rfl rfl (G.q (Quiet.slen rfl Tryz.underlying46 rfl) rfl (G.mv rfl rfl (G.q (Quiet.slen rfl Tryz.underlying46 rfl) rfl ?_)))))))))))
 refine G.q (Quiet.clip (n := n) rfl el_46 rfl rfl hc (.inr ⟨_, _, rfl⟩)) rfl ?_
 refine G.ag rfl rfl (G.nil (G.then_n (G.ret ?_)))
 refine G.slClip (by (repeat' constructor)) ?_
 exact G.dn (l := [.tmp 2]) rfl rfl ⟨rfl, rfl⟩

theorem clipT_spec (v : Value) (n : Nat) (xs : List Value) : Fn Tryz.prog 115 #[v] [slR 9 1 v n xs] fun u L => (∃ a c, u = .slice a n c) ∧ L = [slR 9 1 u n xs] := by
  intro F w hs
  obtain ⟨g1, -, hp⟩ := sep_head hs
  rcases hp with ⟨rfl, rfl, rfl⟩ | ⟨b, cap, rest, fr, rfl, -, -, -, h4, -⟩
  · exact (clipT0_spec F w hs).mono fun e w' ⟨u, L, ⟨h1, h2⟩, h3⟩ => ⟨u, L, ⟨⟨_, _, h1⟩, h2⟩, h3⟩
  · exact (clipT1_spec b n cap h4 xs F w hs).mono fun e w' ⟨u, L, ⟨h1, h2⟩, h3⟩ => ⟨u, L, ⟨⟨_, _, h1⟩, h2⟩, h3⟩
theorem cloneB_spec (v : Value) (n : Nat) (xs : List Value) (p : HP) (hr : ∀ h : Hp, p h → rdS 1 h v n xs) (hc : ∀ y ∈ xs, isCell y = true) (hb : n ≤ 4294967296) : Fn Tryz.prog 98 #[v] [p] fun u L => (∃ a c, u = .slice a n c) ∧ L = [slR 5 1 u n xs, p] := by
 refine Fn.intro (vs := [v]) Tryz.func98 rfl rfl ?_
 intro F W
 refine G.rdAny (p := p) hr (by (repeat' constructor)) fun aa ca e hlen => ?_
 subst e
 refine G.seq (G.region (G.ag rfl rfl (G.nil (G.then_n (G.seq (G.seq (G.region (G.mv rfl rfl ?_))))))))
 rcases aa with _ | aa
 ·refine G.q (Quiet.sleq rfl rfl Tryz.underlying125) rfl (G.nil (G.then_n (G.condT rfl (G.seq (G.region (G.ag rfl rfl (G.nil (G.then_n (G.ret (G.then_r ?_))))))))))
  refine G.nilEmpty (p := p) hr (by (repeat' constructor)) fun e1 e2 => ?_
  subst e1; subst e2
  refine G.add (slR_nil 5 1) ?_
  exact G.dn (l := [.tmp 2]) rfl rfl ⟨⟨_, _, rfl⟩, rfl⟩
 ·refine G.q (Quiet.sleq rfl rfl Tryz.underlying125) rfl (G.nil (G.then_n (G.condF rfl (G.skip (G.then_n (G.seq (G.region ?_)))))))
  refine G.oq (OpSpec.buildSlice1 (vs := []) el_125 ze_5 rfl rfl rfl rfl rfl (by decide)) ?nx6
  rintro v L' ⟨b0, rfl, rfl⟩
  refine G.mv rfl rfl ?_
  refine G.slMake (n := 0) (c := 0) (xs := []) (b := b0) (by (repeat' constructor)) (Nat.le_refl _) (Nat.zero_le _) rfl ?_
  refine G.oq (OpSpec.append (n := 0) (m := n) (xs := []) (ys := xs) (p := p) rfl rfl rfl el_125 (.inl ⟨_, Tryz.underlying125⟩) ze_5 rfl rfl ?hc9 ?hr10 ?hb11 (by decide)) ?nx12
  case hc9 => exact hc
  case hr10 => exact hr
  case hb11 => omega
  rintro v L' ⟨⟨a1, c1, rfl⟩, rfl⟩; rw [Nat.zero_add, List.nil_append]
  refine G.ag rfl rfl (G.nil (G.then_n (G.ret ?_)))
  exact G.dn (l := [.tmp 2]) rfl rfl ⟨⟨_, _, rfl⟩, rfl⟩

theorem cloneT_spec (v : Value) (n : Nat) (xs : List Value) (p : HP) (hr : ∀ h : Hp, p h → rdS 1 h v n xs) (hc : ∀ y ∈ xs, isCell y = true) (hb : n ≤ 4294967296) : Fn Tryz.prog 116 #[v] [p] fun u L => (∃ a c, u = .slice a n c) ∧ L = [slR 9 1 u n xs, p] := by
 refine Fn.intro (vs := [v]) Tryz.func116 rfl rfl ?_
 intro F W
 refine G.rdAny (p := p) hr (by (repeat' constructor)) fun aa ca e hlen => ?_
 subst e
 refine G.seq (G.region (G.ag rfl rfl (G.nil (G.then_n (G.seq (G.seq (G.region (G.mv rfl rfl ?_))))))))
 rcases aa with _ | aa
 ·refine G.q (Quiet.sleq rfl rfl Tryz.underlying46) rfl (G.nil (G.then_n (G.condT rfl (G.seq (G.region (G.ag rfl rfl (G.nil (G.then_n (G.ret (G.then_r ?_))))))))))
  refine G.nilEmpty (p := p) hr (by (repeat' constructor)) fun e1 e2 => ?_
  subst e1; subst e2
  refine G.add (slR_nil 9 1) ?_
  exact G.dn (l := [.tmp 2]) rfl rfl ⟨⟨_, _, rfl⟩, rfl⟩
 ·refine G.q (Quiet.sleq rfl rfl Tryz.underlying46) rfl (G.nil (G.then_n (G.condF rfl (G.skip (G.then_n (G.seq (G.region ?_)))))))
  refine G.oq (OpSpec.buildSlice1 (vs := []) el_46 ze_9 rfl rfl rfl rfl rfl (by decide)) ?nx6
  rintro v L' ⟨b0, rfl, rfl⟩
  refine G.mv rfl rfl ?_
  refine G.slMake (n := 0) (c := 0) (xs := []) (b := b0) (by (repeat' constructor)) (Nat.le_refl _) (Nat.zero_le _) rfl ?_
  refine G.oq (OpSpec.append (n := 0) (m := n) (xs := []) (ys := xs) (p := p) rfl rfl rfl el_46 (.inl ⟨_, Tryz.underlying46⟩) ze_9 rfl rfl ?hc9 ?hr10 ?hb11 (by decide)) ?nx12
  case hc9 => exact hc
  case hr10 => exact hr
  case hb11 => omega
  rintro v L' ⟨⟨a1, c1, rfl⟩, rfl⟩; rw [Nat.zero_add, List.nil_append]
  refine G.ag rfl rfl (G.nil (G.then_n (G.ret ?_)))
  exact G.dn (l := [.tmp 2]) rfl rfl ⟨⟨_, _, rfl⟩, rfl⟩

theorem open_spec (d : Nat) (δ : Dk) (hn : 2 ≤ δ.now.length ∧ δ.now.length ≤ 32768) (hok : δ.Ok) : Fn Tryz.prog 54 #[vptr d] [dkR d δ] fun v L => (δ.dead = true ∧ v = .tuple #[.pointer none, vint 2] ∧ L = [dkR d δ]) ∨
    (δ.dead = false ∧ openZ δ = none ∧ v = .tuple #[.pointer none, vint 31] ∧ L = [dkR d δ]) ∨ (δ.dead = false ∧ ∃ ω, openZ δ = some ω ∧ ∃ x, v = .tuple #[vptr x, vint 0] ∧ L = [dkR d δ, wlR x d ω]) := by
 refine Fn.intro (vs := [vptr d]) Tryz.func54 rfl rfl ?_
 intro F W
 have hn2 := hn.1
 refine G.seq (G.region (G.ag rfl rfl (G.ag rfl rfl (G.nil (G.then_n (G.seq (G.block (G.seq (G.region (G.mv rfl rfl (G.q (Quiet.ptreq rfl rfl Tryz.underlying24) rfl (G.ag rfl rfl (G.nil (G.then_n (G.condF rfl (G.seq (G.region (G.mv rfl rfl ?_))))))))))))))))))
 refine G.oq (OpSpec.call Tryz.func38 rfl rfl (vs := [_]) rfl (dead_spec d δ)) ?nx6
 rintro v L' ⟨rfl, rfl⟩
 refine G.ag rfl rfl (G.nil (G.then_n ?_))
 refine G.condB rfl (fun h17 => ?_) (fun h17 => ?_)
 ·refine G.seq (G.region (G.ag rfl rfl (G.ag rfl rfl (G.nil (G.then_n (G.ret (G.blk_r (G.then_r ?_))))))))
  exact G.dn (l := [.tmp 2, .tmp 3]) rfl rfl (.inl ⟨by simpa using h17, rfl, rfl⟩)
 ·have hd : δ.dead = false := by simpa using h17
  refine G.skip (G.blk_n (G.then_n (G.seq (G.region (G.mv rfl rfl ?_)))))
  refine G.oq (OpSpec.call Tryz.func112 rfl rfl (vs := [_, _]) rfl (found_spec d δ 0 hn hok)) ?nx11
  rintro v L' ⟨rfl, rfl⟩
  refine G.mv rfl rfl (G.q (Quiet.extract (vs := [.agg (mkC ((foundZ δ 0).getD mk0)).toArray, .bool (foundZ δ 0).isSome]) rfl rfl) rfl (G.q (Quiet.extract (vs := [.agg (mkC ((foundZ δ 0).getD mk0)).toArray, .bool (foundZ δ 0).isSome]) rfl rfl) rfl ?_))
  refine G.oq (OpSpec.allocA ze_139) ?nx15
  rintro v L' ⟨b4, rfl, rfl⟩
  refine G.oq (OpSpec.storeA rfl rfl ?c17 sz_139 ?c20 ?c18 ?c19) ?nx21
  case c17 => simp [mkC, isCell]
  case c20 => simp [mkC]
  case c18 => simp [mkC]
  case c19 => exact nfz0 _ _
  rintro v L' rfl
  refine G.ag rfl rfl (G.nil ?_)
  refine G.ptCast (b := b4) (l' := mkC ((foundZ δ 0).getD mk0)) (by (repeat' constructor)) rfl ?_
  refine G.then_n (G.seq ?_)
  refine G.joinK (ι := Option Mk) (fun q E => (5, .bool q.isSome) :: E) (fun q => [ptc b4 (mkC (q.getD mk0)) 139, dkR d δ]) (fun q => bestZ δ = q) (pre := [ptc b4 (mkC ((foundZ δ 0).getD mk0)) 139, dkR d δ]) (ts := [0, 2, 3, 4]) (.cons rfl (.cons rfl (.cons rfl (.cons rfl (.nil))))) (by (repeat' constructor)) ?_ ?_
  ·refine G.seq (G.region ?_)
   rcases hf0 : foundZ δ 0 with _ | m0
   ·refine G.mv rfl rfl ?_
    refine G.oq (OpSpec.call Tryz.func112 rfl rfl (vs := [_, _]) rfl (found_spec d δ 1 hn hok)) ?nx23
    rintro v L' ⟨rfl, rfl⟩
    rcases hf1 : foundZ δ 1 with _ | m1
    ·refine G.mv rfl rfl (G.q (Quiet.extract (vs := [.agg (mkC mk0).toArray, .bool false]) rfl rfl) rfl (G.q (Quiet.extract (vs := [.agg (mkC mk0).toArray, .bool false]) rfl rfl) rfl ?_))
     refine G.oq (OpSpec.allocA ze_139) ?nx27
     rintro v L' ⟨b6, rfl, rfl⟩
     refine G.oq (OpSpec.storeA rfl rfl ?c29 sz_139 ?c32 ?c30 ?c31) ?nx33
     case c29 => simp [mkC, isCell]
     case c32 => simp [mkC]
     case c30 => simp [mkC]
     case c31 => exact nfz0 _ _
     rintro v L' rfl
     refine G.ag rfl rfl (G.nil ?_)
     refine G.ptCast (b := b6) (l' := mkC mk0) (by (repeat' constructor)) rfl ?_
     refine G.then_n (G.seq (G.region (G.mv rfl rfl (G.mv rfl rfl (G.gskip (t := 31) rfl rfl rfl rfl (G.gskip (t := 31) rfl rfl rfl rfl (G.gskip (t := 31) rfl rfl rfl rfl (G.gskipU (t := 34) rfl rfl rfl (G.gskipU (t := 34) rfl rfl rfl (G.gskipU (t := 34) rfl rfl rfl (G.gskipU (t := 34) rfl rfl rfl (G.gskipU (t := 34) rfl rfl rfl (G.gskip (t := 31) rfl rfl rfl rfl (G.q (Quiet.pickF rfl rfl) rfl (G.nil (G.then_n (G.condF rfl (G.skip (G.then_n ?_)))))))))))))))))))
     exact G.meetK (none) (by unfold bestZ; rw [hf0, hf1]) ⟨rfl, rfl, rfl, rfl, rfl, trivial⟩ (by (repeat' constructor)) (by ((repeat (apply Have.cons; (repeat (first | exact Pick.here | apply Pick.there)))); apply Have.base; repeat' constructor))
    ·refine G.mv rfl rfl (G.q (Quiet.extract (vs := [.agg (mkC m1).toArray, .bool true]) rfl rfl) rfl (G.q (Quiet.extract (vs := [.agg (mkC m1).toArray, .bool true]) rfl rfl) rfl ?_))
     refine G.oq (OpSpec.allocA ze_139) ?nx37
     rintro v L' ⟨b6, rfl, rfl⟩
     refine G.oq (OpSpec.storeA rfl rfl ?c39 sz_139 ?c42 ?c40 ?c41) ?nx43
     case c39 => simp [mkC, isCell]
     case c42 => simp [mkC]
     case c40 => simp [mkC]
     case c41 => exact nfz0 _ _
     rintro v L' rfl
     refine G.ag rfl rfl (G.nil ?_)
     refine G.ptCast (b := b6) (l' := mkC m1) (by (repeat' constructor)) rfl ?_
     refine G.then_n (G.seq (G.region (G.mv rfl rfl (G.mv rfl rfl (G.grun (t := 31) rfl rfl rfl (G.mv rfl rfl (G.grun (t := 31) rfl rfl rfl (G.q (Quiet.not rfl) rfl (G.grun (t := 31) rfl rfl rfl (G.mv rfl rfl (G.gskip (t := 34) rfl rfl rfl rfl (G.gskip (t := 34) rfl rfl rfl rfl (G.gskip (t := 34) rfl rfl rfl rfl (G.gskip (t := 34) rfl rfl rfl rfl (G.gskip (t := 34) rfl rfl rfl rfl (G.grun (t := 31) rfl rfl rfl (G.q (Quiet.pickT rfl rfl) rfl (G.q (Quiet.pickT rfl rfl) rfl (G.nil (G.then_n (G.condT rfl (G.region ?_))))))))))))))))))))))
     refine G.q (Quiet.loadAs (vs := mkC m1) rfl ag_139 (by (repeat' constructor)) (by simp [mkC]) rfl) rfl ?_
     refine G.oq (OpSpec.storeA rfl rfl ?c47 sz_139 ?c50 ?c48 ?c49) ?nx51
     case c47 => simp [mkC, isCell]
     case c50 => simp [mkC]
     case c48 => simp [mkC]
     case c49 => exact nfz0 _ _
     rintro v L' rfl
     refine G.ag rfl rfl (G.nil ?_)
     refine G.ptCast (b := b4) (l' := mkC m1) (by (repeat' constructor)) rfl ?_
     refine G.then_n ?_
     exact G.meetK ((some m1)) (by unfold bestZ; rw [hf0, hf1]) ⟨rfl, rfl, rfl, rfl, rfl, trivial⟩ (by (repeat' constructor)) (by ((repeat (apply Have.cons; (repeat (first | exact Pick.here | apply Pick.there)))); apply Have.base; repeat' constructor))
   ·refine G.mv rfl rfl ?_
    refine G.oq (OpSpec.call Tryz.func112 rfl rfl (vs := [_, _]) rfl (found_spec d δ 1 hn hok)) ?nx54
    rintro v L' ⟨rfl, rfl⟩
    rcases hf1 : foundZ δ 1 with _ | m1
    ·refine G.mv rfl rfl (G.q (Quiet.extract (vs := [.agg (mkC mk0).toArray, .bool false]) rfl rfl) rfl (G.q (Quiet.extract (vs := [.agg (mkC mk0).toArray, .bool false]) rfl rfl) rfl ?_))
     refine G.oq (OpSpec.allocA ze_139) ?nx58
     rintro v L' ⟨b6, rfl, rfl⟩
     refine G.oq (OpSpec.storeA rfl rfl ?c60 sz_139 ?c63 ?c61 ?c62) ?nx64
     case c60 => simp [mkC, isCell]
     case c63 => simp [mkC]
     case c61 => simp [mkC]
     case c62 => exact nfz0 _ _
     rintro v L' rfl
     refine G.ag rfl rfl (G.nil ?_)
     refine G.ptCast (b := b6) (l' := mkC mk0) (by (repeat' constructor)) rfl ?_
     refine G.then_n (G.seq (G.region (G.mv rfl rfl (G.mv rfl rfl (G.gskip (t := 31) rfl rfl rfl rfl (G.gskip (t := 31) rfl rfl rfl rfl (G.gskip (t := 31) rfl rfl rfl rfl (G.gskipU (t := 34) rfl rfl rfl (G.gskipU (t := 34) rfl rfl rfl (G.gskipU (t := 34) rfl rfl rfl (G.gskipU (t := 34) rfl rfl rfl (G.gskipU (t := 34) rfl rfl rfl (G.gskip (t := 31) rfl rfl rfl rfl (G.q (Quiet.pickF rfl rfl) rfl (G.nil (G.then_n (G.condF rfl (G.skip (G.then_n ?_)))))))))))))))))))
     exact G.meetK ((some m0)) (by unfold bestZ; rw [hf0, hf1]) ⟨rfl, rfl, rfl, rfl, rfl, trivial⟩ (by (repeat' constructor)) (by ((repeat (apply Have.cons; (repeat (first | exact Pick.here | apply Pick.there)))); apply Have.base; repeat' constructor))
    ·refine G.mv rfl rfl (G.q (Quiet.extract (vs := [.agg (mkC m1).toArray, .bool true]) rfl rfl) rfl (G.q (Quiet.extract (vs := [.agg (mkC m1).toArray, .bool true]) rfl rfl) rfl ?_))
     refine G.oq (OpSpec.allocA ze_139) ?nx68
     rintro v L' ⟨b6, rfl, rfl⟩
     refine G.oq (OpSpec.storeA rfl rfl ?c70 sz_139 ?c73 ?c71 ?c72) ?nx74
     case c70 => simp [mkC, isCell]
     case c73 => simp [mkC]
     case c71 => simp [mkC]
     case c72 => exact nfz0 _ _
     rintro v L' rfl
     refine G.ag rfl rfl (G.nil ?_)
     refine G.ptCast (b := b6) (l' := mkC m1) (by (repeat' constructor)) rfl ?_
     refine G.then_n (G.seq (G.region (G.mv rfl rfl (G.mv rfl rfl (G.grun (t := 31) rfl rfl rfl (G.mv rfl rfl (G.grun (t := 31) rfl rfl rfl (G.q (Quiet.not rfl) rfl (G.grun (t := 31) rfl rfl rfl (G.mv rfl rfl (G.grun (t := 34) rfl rfl rfl (G.q (Quiet.fieldAddr rfl fo_139_0) rfl (G.grun (t := 34) rfl rfl rfl ?_)))))))))))))
     refine G.q (Quiet.ld rfl ag_3) rfl ?_
     refine G.grun (t := 34) rfl rfl rfl (G.q (Quiet.fieldAddr rfl fo_139_0) rfl (G.grun (t := 34) rfl rfl rfl ?_))
     refine G.q (Quiet.ld rfl ag_3) rfl ?_
     refine G.grun (t := 34) rfl rfl rfl (G.q (Quiet.int rfl rfl rfl) rfl (G.grun (t := 31) rfl rfl rfl (G.q (Quiet.pickF rfl rfl) rfl (G.q (Quiet.pickT rfl rfl) rfl (G.nil (G.then_n ?_))))))
     refine G.condD rfl (fun h41 => ?_) (fun h41 => ?_)
     ·refine G.region ?_
      refine G.q (Quiet.loadAs (vs := mkC m1) rfl ag_139 (by (repeat' constructor)) (by simp [mkC]) rfl) rfl ?_
      refine G.oq (OpSpec.storeA rfl rfl ?c82 sz_139 ?c85 ?c83 ?c84) ?nx86
      case c82 => simp [mkC, isCell]
      case c85 => simp [mkC]
      case c83 => simp [mkC]
      case c84 => exact nfz0 _ _
      rintro v L' rfl
      refine G.ag rfl rfl (G.nil ?_)
      refine G.ptCast (b := b4) (l' := mkC m1) (by (repeat' constructor)) rfl ?_
      refine G.then_n ?_
      exact G.meetK ((some m1)) (by unfold bestZ; rw [hf0, hf1]; exact congrArg some (if_pos h41)) ⟨rfl, rfl, rfl, rfl, rfl, trivial⟩ (by (repeat' constructor)) (by ((repeat (apply Have.cons; (repeat (first | exact Pick.here | apply Pick.there)))); apply Have.base; repeat' constructor))
     ·refine G.skip (G.then_n ?_)
      exact G.meetK ((some m0)) (by unfold bestZ; rw [hf0, hf1]; exact congrArg some (if_neg h41)) ⟨rfl, rfl, rfl, rfl, rfl, trivial⟩ (by (repeat' constructor)) (by ((repeat (apply Have.cons; (repeat (first | exact Pick.here | apply Pick.there)))); apply Have.base; repeat' constructor))
  ·rintro o hbest
   refine G.seq (G.seq (G.region ?_))
   rcases o with _ | m
   ·refine G.mv rfl rfl (G.q (Quiet.not rfl) rfl (G.nil (G.then_n (G.condT rfl (G.seq (G.region (G.ag rfl rfl (G.ag rfl rfl (G.nil (G.then_n (G.ret (G.then_r ?_))))))))))))
    exact G.dn (l := [.tmp 2, .tmp 3]) rfl rfl (.inr (.inl ⟨hd, openZ_none hbest, rfl, rfl⟩))
   ·simp only [Option.getD_some]
    have hm := bestZ_some hok hbest
    obtain ⟨e1, e2, e3, e4⟩ := bytesZ_len hok hn2 hm
    have hml := hm.len
    have hma := hm.area
    have hmn := hm.num
    have hhalf : halfZ δ ≤ 16383 := by unfold halfZ; omega
    refine G.mv rfl rfl (G.q (Quiet.not rfl) rfl (G.nil (G.then_n (G.condF rfl (G.skip (G.then_n (G.seq (G.add (slR_nil 5 1) (G.region (G.ag rfl rfl (G.nil (G.then_n (G.seq (G.seq (G.region (G.ag rfl rfl (G.nil (G.then_n (G.block ?_)))))))))))))))))))
    refine G.loopK (ι := Nat × Value) (fun q E => (8, q.2) :: (9, vint q.1) :: E) (fun q => [bytR q.2 (areaZ δ m.area q.1)]) (fun q => q.1 ≤ secs m ∧ ∃ a c, q.2 = .slice a (areaZ δ m.area q.1).length c) (fun q => secs m - q.1) (0, .slice none 0 0) (ts := [0, 2, 3, 4]) (.cons rfl (.cons rfl (.cons rfl (.cons rfl (.nil))))) (⟨Nat.zero_le _, _, _, rfl⟩) ⟨rfl, rfl, rfl, rfl, rfl, rfl, trivial⟩ (by (repeat' constructor)) ?_
    rintro ⟨i, u⟩ ⟨hi, au, cu, hu⟩
    dsimp only
    dsimp only at hi hu
    subst hu
    have hal := areaZ_len hok hn2 hma i (by omega)
    refine G.seq (G.seq (G.region (G.mv rfl rfl (G.q (Quiet.slen rfl Tryz.underlying125 rfl) rfl (G.q (Quiet.fieldAddr rfl fo_139_2) rfl ?_)))))
    refine G.q (Quiet.ld rfl ag_3) rfl ?_
    refine G.q (Quiet.int rfl rfl rfl) rfl (G.nil (G.then_n ?_))
    refine G.condD rfl (fun h49 => ?_) (fun h49 => ?_)
    ·have hi2 : i < secs m := by unfold secs; omega
     have hrd := area_read hd hn2 hma (i := i) (by omega)
     have hix := area_idx hn2 hma (i := i) (by omega)
     have hsl := getD_mem64' hok.sec (i := (2 + m.area * halfZ δ + i).toNat) (by omega)
     have hmul : 0 ≤ m.area * halfZ δ ∧ m.area * halfZ δ ≤ 16383 := by rcases (by omega : m.area = 0 ∨ m.area = 1) with h | h <;> rw [h] <;> unfold halfZ <;> omega
     refine G.skip (G.then_n (G.seq (G.block (G.seq ?_))))
     refine G.draw [] [[0, 1, 2, 3, 4, 5, 6, 7, 8, 9, 10, 11, 12, 13, 14]] mixed (by kernel_rfl) ?_
     refine Phases.go [ptc b4 _ _, dkR d δ] (by (repeat' constructor)) ?_
     refine D.kw [9, 10, 11, 12, 13, 14] rfl (Quiet.move rfl) ?_
     refine D.kw [2, 5, 6, 8, 9, 10, 11, 12, 13, 14] rfl (Quiet.fieldAddr rfl fo_139_1) ?_
     refine D.kw [5, 6, 8, 9, 10, 11, 12, 13, 14] rfl (Quiet.ld rfl ag_3) ?_
     refine D.kw [4, 5, 6, 8, 9, 10, 11, 12, 13, 14] rfl (Quiet.move rfl) ?_
     refine D.m rfl (by kernel_rfl) (OpSpec.call Tryz.func109 rfl rfl (vs := [_]) rfl (half_spec d δ hn)) (by (repeat' constructor)) ?nx105
     refine D.kw [6, 8, 9, 10, 11, 12, 13, 14] rfl (Quiet.mul rfl rfl (by omega)) ?_
     refine D.kw [8, 9, 10, 11, 12, 13, 14] rfl (Quiet.add rfl rfl (by omega)) ?_
     refine D.kw [8, 9, 10, 11, 12, 13, 14] rfl (Quiet.move rfl) ?_
     refine D.kw [9, 10, 11, 12, 13, 14] rfl (Quiet.add rfl rfl (by omega)) ?_
     refine D.m rfl (by kernel_rfl) (OpSpec.call Tryz.func91 rfl rfl (vs := [_, _]) rfl (read_spec d δ (2 + m.area * halfZ δ + i))) (by (repeat' constructor)) ?nx111
     rw [hrd]
     refine D.kw [11, 12, 13, 14] rfl (Quiet.move rfl) ?_
     refine D.kw [13, 14] rfl (Quiet.extract rfl rfl) ?_
     refine D.kw [14] rfl (Quiet.extract rfl rfl) ?_
     refine D.kw [14] rfl (Quiet.assign rfl) ?_
     refine D.kw [] rfl (Quiet.assign rfl) ?_
     refine D.ph (Phases.fin (G.then_n (G.region (G.mv rfl rfl (G.mv rfl rfl ?_)))))
     refine G.oq (OpSpec.appendS rfl rfl rfl el_125 Tryz.underlying9 ze_5 rfl rfl ?hb116 (by decide)) ?nx117
     case hb116 => dsimp only; omega
     rintro v L' ⟨⟨a16, c16, rfl⟩, rfl⟩; dsimp only
     refine G.ag rfl rfl (G.nil (G.blk_n (G.then_n (G.region (G.mv rfl rfl ?_)))))
     refine G.q (Quiet.add rfl rfl (by omega)) rfl ?_
     refine G.ag rfl rfl (G.nil (G.then_n ?_))
     rw [show bysL (areaZ δ m.area i) ++ (δ.now.getD (2 + m.area * halfZ δ + i).toNat []).map vbyte = bysL (areaZ δ m.area (i + 1)) by rw [areaZ_succ, bysL_append]; rfl, show (areaZ δ m.area i).length + (δ.now.getD (2 + m.area * halfZ δ + i).toNat []).length = (areaZ δ m.area (i + 1)).length by rw [areaZ_succ, List.length_append]]
     exact G.roundK ((i + 1, .slice a16 (areaZ δ m.area (i + 1)).length c16)) (⟨by dsimp only; omega, _, _, rfl⟩) (by dsimp only; omega) ⟨rfl, rfl, rfl, rfl, rfl, rfl, trivial⟩ (by (repeat' constructor)) (by ((repeat (apply Have.cons; (repeat (first | exact Pick.here | apply Pick.there)))); apply Have.base; repeat' constructor))
    ·have hi3 : i = secs m := by unfold secs; unfold secs at hi; omega
     subst hi3
     refine G.slAddr (a := au) (c := cu) (by (repeat' constructor)) fun hcap hadr => ?_
     refine G.slTo (m := (areaZ δ m.area (secs m)).length) (k := m.len.toNat) (by omega) (by (repeat' constructor)) ?_
     refine G.slCast (m' := (bytesZ δ m).length) (xs' := bysL (bytesZ δ m)) (by (repeat' constructor)) e3.symm (by rw [show bytesZ δ m = (areaZ δ m.area (secs m)).take m.len.toNat from rfl]; simp [bysL, List.map_take]) ?_
     refine G.exit (G.then_e (G.then_e (G.blk_e (G.then_n (G.seq (G.region (G.mv rfl rfl (G.q (Quiet.fieldAddr rfl fo_139_2) rfl ?_))))))))
     refine G.q (Quiet.ld rfl ag_3) rfl ?_
     refine G.q (Quiet.to (v' := .slice au (bytesZ δ m).length cu) (Quiet.slTo (j := m.len) rfl el_125 rfl (by omega) hadr) (by rw [e3])) rfl ?_
     rw [← e3]
     refine G.oq (OpSpec.call Tryz.func113 rfl rfl (vs := [_]) rfl (clipB_spec _ _ _)) ?nx125
     rintro v L' ⟨⟨a17, c17, rfl⟩, rfl⟩
     refine G.ag rfl rfl (G.nil (G.then_n (G.seq (G.region (G.mv rfl rfl ?_)))))
     refine G.q (Quiet.bytesBy (cs := bytesZ δ m) (n := (bytesZ δ m).length) (p := bytR (.slice a17 (bytesZ δ m).length c17) (bytesZ δ m)) rfl Tryz.underlying125 Tryz.underlying5 Tryz.underlying9 (fun h hp => slR_rd hp) (by (repeat' constructor))) rfl ?_
     refine G.q (Quiet.fieldAddr rfl fo_139_3) rfl ?_
     refine G.q (Quiet.ld rfl ag_3) rfl ?_
     refine G.oq (OpSpec.call Tryz.func114 rfl rfl (vs := [_, _]) rfl (parted_spec (bytesZ δ m) m.num ?hs130)) ?nx131
     case hs130 => omega
     rintro v L' (⟨l, hpart, ap, cp, rfl, rfl⟩ | ⟨hpart, ⟨w, rfl⟩, rfl⟩)
     ·obtain ⟨hl1, hl2⟩ := partZ_laid hpart
      have hlm := laidZ_many l
      rw [hl1] at hlm
      refine G.mv rfl rfl (G.q (Quiet.extract rfl rfl) rfl (G.q (Quiet.extract rfl rfl) rfl (G.ag rfl rfl (G.ag rfl rfl (G.nil (G.then_n (G.seq (G.seq (G.region (G.mv rfl rfl (G.q (Quiet.not rfl) rfl (G.nil (G.then_n (G.condF rfl (G.skip (G.then_n (G.seq (G.region (G.mv rfl rfl (G.mv rfl rfl (G.mv rfl rfl (G.q (Quiet.slen rfl Tryz.underlying46 rfl) rfl (G.mv rfl rfl (G.q (Quiet.fieldAddr rfl fo_139_1) rfl ?_))))))))))))))))))))))))
      refine G.q (Quiet.ld rfl ag_3) rfl ?_
      refine G.q (Quiet.fieldAddr rfl fo_139_0) rfl ?_
      refine G.q (Quiet.ld rfl ag_3) rfl ?_
      refine G.q (Quiet.fieldAddr rfl fo_139_4) rfl ?_
      refine G.q (Quiet.ld rfl ag_3) rfl ?_
      refine G.q (Quiet.fieldAddr rfl fo_139_5) rfl ?_
      refine G.q (Quiet.ld rfl ag_3) rfl ?_
      refine G.q (Quiet.build (us := [(0, _), (1, _), (2, _), (3, _), (4, _), (5, _), (6, _), (7, _)]) fl_142 ze_142 rfl rfl (by simp [isCell])) rfl ?_
      refine G.oq (OpSpec.box rfl) ?nx147
      rintro v L' ⟨x, rfl, rfl⟩
      refine G.ag rfl rfl (G.ag rfl rfl (G.nil (G.then_n (G.ret ?_))))
      refine G.wlFold (x := x) (d := d) (ω := ⟨l, l.length, m.area, m.count, m.a, m.b, false⟩) (by (repeat' constructor)) rfl rfl rfl (by rw [hl1]) (by rw [hl1]) ?_
      exact G.dn (l := [.tmp 2, .tmp 3]) rfl rfl (.inr (.inr ⟨hd, _, by rw [openZ_some hbest]; unfold openB; rw [hpart], _, rfl, rfl⟩))
     ·refine G.mv rfl rfl (G.q (Quiet.extract rfl rfl) rfl (G.q (Quiet.extract rfl rfl) rfl (G.ag rfl rfl (G.ag rfl rfl (G.nil (G.then_n (G.seq (G.seq (G.region (G.mv rfl rfl (G.q (Quiet.not rfl) rfl (G.nil (G.then_n (G.condT rfl (G.seq (G.region (G.ag rfl rfl (G.ag rfl rfl (G.nil (G.then_n (G.ret (G.then_r ?_))))))))))))))))))))))
      exact G.dn (l := [.tmp 2, .tmp 3]) rfl rfl (.inr (.inl ⟨hd, by rw [openZ_some hbest]; unfold openB; rw [hpart], rfl, rfl⟩))

end Go.Proofs.YtidjhgbdokcphaaGreat

/- Own work: what the calls of a log do, in plain words. -/

namespace Go.Proofs.YtidjhgbdokcphaaGreat
open Go

def laySec (all : Bs) (i : Nat) : Bs := (all.drop (i * 64)).take 64 ++ List.replicate (64 - ((all.drop (i * 64)).take 64).length) 0
theorem laySec_len (all : Bs) (i : Nat) : (laySec all i).length = 64 := by simp [laySec]; omega
def layF : Nat → Dk → Int → Bs → Nat → Dk × Int
  | 0, δ, _, _, _ => (δ, 0)
  | f + 1, δ, area, all, i =>
    if i * 64 < all.length then
      (if (δ.write (2 + area * halfZ δ + i) (laySec all i)).2 ≠ 0 then ((δ.write (2 + area * halfZ δ + i) (laySec all i)).1, 2)
       else layF f (δ.write (2 + area * halfZ δ + i) (laySec all i)).1 area all (i + 1))
    else (δ, 0)
def layZ (δ : Dk) (area : Int) (all : Bs) (frm : Nat) : Dk × Int := layF (all.length + 1) δ area all (frm / 64)
theorem layF_end {f : Nat} {δ : Dk} {area : Int} {all : Bs} {i : Nat} (h : ¬ i * 64 < all.length) : layF f δ area all i = (δ, 0) := by
  cases f with
  | zero => rfl
  | succ f => simp only [layF]; rw [if_neg h]
theorem write_keeps (δ : Dk) (n : Int) (s : Bs) : (δ.write n s).1.now.length = δ.now.length ∧ (δ.write n s).1.acts ≤ δ.acts + 1 := by
  unfold Dk.write
  split
  · exact ⟨rfl, by simp; omega⟩
  · split
    · exact ⟨rfl, by simp; omega⟩
    · exact ⟨by simp [Dk.act, Dk.put], by simp [Dk.act, Dk.put]⟩
theorem sync_keeps (δ : Dk) : δ.sync.1.now = δ.now ∧ δ.sync.1.acts ≤ δ.acts + 1 := by
  unfold Dk.sync
  split
  · exact ⟨rfl, by simp; omega⟩
  · split <;> exact ⟨by simp [Dk.act], by simp [Dk.act]⟩
theorem halfZ_of {δ δ' : Dk} (h : δ'.now.length = δ.now.length) : halfZ δ' = halfZ δ := by unfold halfZ; rw [h]
def nextZ (δ : Dk) (m : Mk) : Dk × Int :=
  if (δ.write (m.count % 2) m.sec).2 ≠ 0 then ((δ.write (m.count % 2) m.sec).1, 2)
  else if (δ.write (m.count % 2) m.sec).1.sync.2 ≠ 0 then ((δ.write (m.count % 2) m.sec).1.sync.1, 2) else ((δ.write (m.count % 2) m.sec).1.sync.1, 0)
def Wl.mark (ω : Wl) (area : Int) (l : List Bs) (a b : Int) : Mk := ⟨ω.count + 1, area, (laidZ l).length, l.length, a, b⟩
def sealZ (δ : Dk) (ω : Wl) (area : Int) (l : List Bs) : Dk × Wl × Int :=
  if δ.sync.2 ≠ 0 then (δ.sync.1, ω, 2)
  else if (nextZ δ.sync.1 (ω.mark area l ω.a ω.b)).2 ≠ 0 then ((nextZ δ.sync.1 (ω.mark area l ω.a ω.b)).1, ω, 2)
  else ((nextZ δ.sync.1 (ω.mark area l ω.a ω.b)).1, { ω with recs := l, synced := l.length, area := area, count := ω.count + 1 }, 0)
def dbt (r : Dk × Wl × Int) : Dk × Wl × Int := if r.2.2 = 2 then (r.1, { r.2.1 with doubt := true }, r.2.2) else r
def appendZ (δ : Dk) (ω : Wl) (s : Bs) : Dk × Wl × Int :=
  if ω.doubt then (δ, ω, 34) else if s.length > 4000 then (δ, ω, 33) else if ¬ ((laidZ ω.recs).length + s.length + 6 : Int) ≤ 64 * halfZ δ then (δ, ω, 30)
  else if (layZ δ ω.area (laidZ ω.recs ++ recZ s) (laidZ ω.recs).length).2 ≠ 0 then dbt ((layZ δ ω.area (laidZ ω.recs ++ recZ s) (laidZ ω.recs).length).1, ω, (layZ δ ω.area (laidZ ω.recs ++ recZ s) (laidZ ω.recs).length).2)
  else ((layZ δ ω.area (laidZ ω.recs ++ recZ s) (laidZ ω.recs).length).1, { ω with recs := ω.recs ++ [s] }, 0)
def syncZ (δ : Dk) (ω : Wl) : Dk × Wl × Int :=
  if ω.doubt then (δ, ω, 34) else if ω.synced = ω.recs.length then (δ, ω, 0) else if ω.count = 4294967295 then (δ, ω, 30) else dbt (sealZ δ ω ω.area ω.recs)
def cutZ (δ : Dk) (ω : Wl) (n : Int) : Dk × Wl × Int :=
  if ω.doubt then (δ, ω, 34) else if n < 0 ∨ n > ω.recs.length then (δ, ω, 32) else if ω.count = 4294967295 then (δ, ω, 30) else dbt (sealZ δ ω ω.area (ω.recs.take n.toNat))
def renewZ (δ : Dk) (ω : Wl) (l : List Bs) : Dk × Wl × Int :=
  if ω.doubt then (δ, ω, 34) else if l.any (fun s => decide (s.length > 4000)) then (δ, ω, 33) else if ¬ ((l.length : Int) * 6 ≤ 64 * halfZ δ) ∨ ω.count = 4294967295 then (δ, ω, 30)
  else if ¬ ((laidZ l).length : Int) ≤ 64 * halfZ δ then (δ, ω, 30)
  else if (layZ δ (1 - ω.area) (laidZ l) 0).2 ≠ 0 then dbt ((layZ δ (1 - ω.area) (laidZ l) 0).1, ω, (layZ δ (1 - ω.area) (laidZ l) 0).2)
  else dbt (sealZ (layZ δ (1 - ω.area) (laidZ l) 0).1 ω (1 - ω.area) l)
def setmZ (δ : Dk) (ω : Wl) (a b : Int) : Dk × Wl × Int :=
  if ω.doubt then (δ, ω, 34) else if a < 0 ∨ b < 0 then (δ, ω, 1) else if ω.count = 4294967295 then (δ, ω, 30)
  else if (nextZ δ (ω.mark ω.area (ω.recs.take ω.synced.toNat) a b)).2 ≠ 0 then dbt ((nextZ δ (ω.mark ω.area (ω.recs.take ω.synced.toNat) a b)).1, ω, (nextZ δ (ω.mark ω.area (ω.recs.take ω.synced.toNat) a b)).2)
  else ((nextZ δ (ω.mark ω.area (ω.recs.take ω.synced.toNat) a b)).1, { ω with a := a, b := b, count := ω.count + 1 }, 0)
structure WlI (δ : Dk) (ω : Wl) : Prop where
  size : 2 ≤ δ.now.length ∧ δ.now.length ≤ 32768
  acts : δ.acts + 10000000 < 4611686018427387904
  area : 0 ≤ ω.area ∧ ω.area ≤ 1
  count : 0 ≤ ω.count ∧ ω.count ≤ 4294967295
  synced : 0 ≤ ω.synced ∧ ω.synced ≤ ω.recs.length
  fits : ((laidZ ω.recs).length : Int) ≤ 64 * halfZ δ
theorem half_le {δ : Dk} (h : 2 ≤ δ.now.length ∧ δ.now.length ≤ 32768) : 0 ≤ halfZ δ ∧ halfZ δ ≤ 16383 := by unfold halfZ; omega
abbrev wc (d : Nat) (vr : Value) (sy : Int) (vb : Value) (ar ct a b : Int) (db : Bool) : List Value := [vptr d, vr, vint sy, vb, vint ar, vint ct, vint a, vint b, .bool db]
theorem lay_cells (all : Bs) (i k : Nat) (hk : k = all.length - i * 64) : spl (List.replicate 64 zB) 0 ((bysL (all.drop (i * 64))).take (min k 64 * 1)) = bysL (laySec all i) := by
  subst hk
  unfold laySec
  rw [bysL_append, Nat.mul_one]
  have e : (bysL (all.drop (i * 64))).take (min (all.length - i * 64) 64) = bysL ((all.drop (i * 64)).take 64) := by
    rw [show bysL ((all.drop (i * 64)).take 64) = (bysL (all.drop (i * 64))).take 64 from List.map_take]
    rcases Nat.le_total (all.length - i * 64) 64 with h | h
    · rw [Nat.min_eq_left h, List.take_of_length_le (by simp [bysL]), List.take_of_length_le (by simp [bysL]; omega)]
    · rw [Nat.min_eq_right h]
  rw [e]
  have hl : (bysL ((all.drop (i * 64)).take 64)).length = ((all.drop (i * 64)).take 64).length := bysL_len _
  generalize (all.drop (i * 64)).take 64 = t at *
  show (List.replicate 64 zB).take 0 ++ bysL t ++ (List.replicate 64 zB).drop (0 + (bysL t).length) = bysL t ++ bysL (List.replicate (64 - t.length) 0)
  rw [hl, Nat.zero_add, List.take_zero, List.nil_append, List.drop_replicate]
  congr 1
  show _ = (List.replicate (64 - t.length) (0 : UInt8)).map vbyte
  rw [List.map_replicate]; rfl
theorem layF_err : ∀ (f : Nat) (δ : Dk) (area : Int) (all : Bs) (i : Nat), (layF f δ area all i).2 = 0 ∨ (layF f δ area all i).2 = 2 := by
  intro f
  induction f with
  | zero => intro δ area all i; exact .inl rfl
  | succ f ih =>
    intro δ area all i
    simp only [layF]
    split
    · split
      · exact .inr rfl
      · exact ih _ _ _ _
    · exact .inl rfl
theorem layZ_err (δ : Dk) (area : Int) (all : Bs) (frm : Nat) : (layZ δ area all frm).2 = 0 ∨ (layZ δ area all frm).2 = 2 := layF_err _ _ _ _ _
theorem layF_keeps : ∀ (f : Nat) (δ : Dk) (area : Int) (all : Bs) (i : Nat), (layF f δ area all i).1.now.length = δ.now.length ∧ (layF f δ area all i).1.acts ≤ δ.acts + f := by
  intro f
  induction f with
  | zero => intro δ area all i; exact ⟨rfl, by simp [layF]⟩
  | succ f ih =>
    intro δ area all i
    simp only [layF]
    have hw := write_keeps δ (2 + area * halfZ δ + i) (laySec all i)
    split
    · split
      · exact ⟨hw.1, by dsimp only; omega⟩
      · have := ih (δ.write (2 + area * halfZ δ + i) (laySec all i)).1 area all (i + 1)
        exact ⟨by rw [this.1, hw.1], by omega⟩
    · exact ⟨rfl, by dsimp only; omega⟩
theorem nextZ_keeps (δ : Dk) (m : Mk) : (nextZ δ m).1.now.length = δ.now.length ∧ (nextZ δ m).1.acts ≤ δ.acts + 2 ∧ ((nextZ δ m).2 = 0 ∨ (nextZ δ m).2 = 2) := by
  have h1 := write_keeps δ (m.count % 2) m.sec
  have h2 := sync_keeps (δ.write (m.count % 2) m.sec).1
  unfold nextZ
  split
  · exact ⟨h1.1, by dsimp only; omega, .inr rfl⟩
  · split
    · exact ⟨by rw [h2.1, h1.1], by dsimp only; omega, .inr rfl⟩
    · exact ⟨by rw [h2.1, h1.1], by dsimp only; omega, .inl rfl⟩
end Go.Proofs.YtidjhgbdokcphaaGreat

