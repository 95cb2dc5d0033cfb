/- Own work, in part by program, for plainRefused.proved. -/
import Derived.Test.YtmbnebafdhpgpaaGreatDoorCVRefusedP1
import Derived.Test.YtmbnebafdhpgpaaGreatDoorCVRefusedP0
import Derived.Lib.ItoaNum
import Derived.Shelf.Strconv.Itoa3
import Derived.Shelf.Strings.Repeat
import Derived.Shelf.Strings.BuilderX
import Derived.Shelf.LaysM
import Derived.Ground.NamesProg
import Derived.Test.YtmbnebafdhpgpaaGreatDoorProg
import Derived.Lib.LaidTab
import Derived.Shelf.Bits.Mul64
set_option maxRecDepth 100000
namespace Go.Proofs.YtmbnebafdhpgpaaGreatDoor
open Go List Go.Proofs.Tryz 
abbrev A4 (n : Int) : Prop := -9223372036854775808 ≤ n ∧ n ≤ 9223372036854775807
abbrev AG : Value := .slice none 0 0
def L8 (a : Ac) : Bs := EZ a.1 ++ FM a.2
def Fi (l : List Ac) : Bs := Cu l.length ++ l.flatMap L8
def Ie (y : Pt) : Bs := EZ y.kind ++ FM y.path ++ FM y.data ++ Fi y.acl ++ [y.own, y.num, y.err].flatMap EZ
def KA (l : List Pt) : Bs := Cu l.length ++ l.flatMap Ie
def NW (e : En) : Bs := [e.zx, e.ses, e.xid].flatMap EZ ++ Ie e.x ++ KA e.subs
def Pt.pl (y : Pt) : Pt := ⟨y.kind, y.path, y.data, AG, y.acl, y.own, y.num, y.err, AG⟩
def En.pl (e : En) : En := ⟨e.zx, e.ses, e.xid, e.x.pl, e.subs.map Pt.pl⟩
theorem Qu (l : List Pt) : KA (l.map Pt.pl) = KA l := by
 unfold KA
 rw [length_map, flatMap_map]; rfl
theorem AAr (e : En) : NW e.pl = NW e := by
 unfold NW
 rw [show e.pl.subs = e.subs.map Pt.pl from rfl, Qu]; rfl
/-! ### Readings, whatever the state -/
abbrev Rn (α : Type) := Rs → α × Rs
def Xy {α : Type} (x : α) : Rn α := fun st => (x, st)
def Et {α β : Type} (f : Rn α) (g : α → Rn β) : Rn β := fun st => g (f st).1 (f st).2
def A5 {α : Type} (f : Rn α) : Nat → Rn (List α)
 | 0, st => ([], st)
 | n + 1, st => ((A5 f n st).1 ++ [(f (A5 f n st).2).1], (f (A5 f n st).2).2)
def Af : Rn Int := CN 0 MX
def Bj : Rn Bs := CN [] (I2 4096)
def Po : Rn Nat := CN 0 (FI 256)
def CW {α : Type} (f : Rn α) : Rn (List α) := Et Po (A5 f)
def HS : Rn Ac := Et Af fun n => Et Bj fun s => Xy (n, s)
def Lt : Rn Pt := Et Af fun k => Et Bj fun p => Et Bj fun d => Et (CW HS) fun l => Et Af fun o => Et Af fun n => Et Af fun x => Xy ⟨k, p, d, AG, l, o, n, x, AG⟩
def Zu : Rn En := Et Af fun z => Et Af fun s => Et Af fun x => Et Lt fun y => Et (CW Lt) fun l => Xy ⟨z, s, x, y, l⟩
def ABf (x : En × Rs) : Option En := match x with
 | (q, some []) => some q
 | _ => none
def Rc (s : Bs) : Option En := ABf (Zu (some s))
/-! ### What may be laid -/
structure AcI (a : Ac) : Prop where
 n : A4 a.1
 s : a.2.length < FS
structure PtI (y : Pt) : Prop where
 kind : A4 y.kind
 own : A4 y.own
 num : A4 y.num
 err : A4 y.err
 path : y.path.length < FS
 data : y.data.length < FS
 many : y.acl.length < FS
 acl : ∀ a ∈ y.acl, AcI a
structure EnI (e : En) : Prop where
 zx : A4 e.zx
 ses : A4 e.ses
 xid : A4 e.xid
 x : PtI e.x
 many : e.subs.length < FS
 subs : ∀ y ∈ e.subs, PtI y
/-! ### What is read was laid so -/
def Ij (w : Nat) (bs : Bs) : HP := fun h => ∃ y : Option Addr × Nat, True ∧ CD [Ae w [.slice y.1 bs.length y.2, AA 0] 252, NA (.slice y.1 bs.length y.2) bs] h
def Ke (r : Nat) (s : Bs) (at' : Nat) (e : Int) : HP := fun h => ∃ y : Nat × Nat, (at' ≤ s.length ∧ s.length ≤ 70368744177664) ∧ CD [Ae r [.slice (some ⟨y.1, 0, none⟩) s.length y.2, AA at', AA e] 246, NA (.slice (some ⟨y.1, 0, none⟩) s.length y.2) s] h
def E0 (s : Bs) (at' : Nat) (e : Int) : Rs := if e = 0 then some (s.drop at') else none
def Ic (r : Nat) (st : Rs) : HP := fun h => ∃ y : Bs × (Nat × Int), E0 y.1 y.2.1 y.2.2 = st ∧ CD [Ke r y.1 y.2.1 y.2.2] h
section
variable {P : Program} {W : World} {n : Nat} {ds : List Deferred} {E : B0} {L R : List HP} {X : Act → World → Prop}
theorem G.wrOpen {w : Nat} {bs : Bs} (hL : BI (Ij w bs) L R) (h : ∀ a c, G W n ds E (Ae w [.slice a bs.length c, AA 0] 252 :: NA (.slice a bs.length c) bs :: R) X) : G W n ds E L X :=
 G.focus hL (G.open (q := fun y : Option Addr × Nat => [Ae w [.slice y.1 bs.length y.2, AA 0] 252, NA (.slice y.1 bs.length y.2) bs]) (φ := fun _ => True) (fun _ hp => hp) fun y _ => h y.1 y.2)
theorem G.wrFold {w : Nat} (bs : Bs) {l xs : List Value} {a : Option Addr} {c m : Nat} (hL : BC [Ae w l 252, Ad 5 1 (.slice a m c) m xs] L R) (hl : l = [.slice a m c, AA 0]) (hm : m = bs.length) (hx : xs = I3 bs) (h : G W n ds E (Ij w bs :: R) X) : G W n ds E L X := by
 subst hl; subst hm; subst hx
 exact G.fold hL (fun _ hp => ⟨(a, c), trivial, hp⟩) h
theorem G.rdOpen {r : Nat} {s : Bs} {k : Nat} {e : Int} (hL : BI (Ke r s k e) L R) (h : ∀ a c, k ≤ s.length → s.length ≤ 70368744177664 → G W n ds E (Ae r [.slice (some ⟨a, 0, none⟩) s.length c, AA k, AA e] 246 :: NA (.slice (some ⟨a, 0, none⟩) s.length c) s :: R) X) : G W n ds E L X :=
 G.focus hL (G.open (q := fun y : Nat × Nat => [Ae r [.slice (some ⟨y.1, 0, none⟩) s.length y.2, AA k, AA e] 246, NA (.slice (some ⟨y.1, 0, none⟩) s.length y.2) s]) (φ := fun _ => k ≤ s.length ∧ s.length ≤ 70368744177664) (fun _ hp => hp) fun y hy => h y.1 y.2 hy.1 hy.2)
theorem G.rdFold {r : Nat} (s : Bs) (k : Nat) (e : Int) {l : List Value} {a c : Nat} (hL : BC [Ae r l 246, NA (.slice (some ⟨a, 0, none⟩) s.length c) s] L R) (hl : l = [.slice (some ⟨a, 0, none⟩) s.length c, AA k, AA e]) (hk : k ≤ s.length) (hs : s.length ≤ 70368744177664) (h : G W n ds E (Ke r s k e :: R) X) : G W n ds E L X := by
 subst hl
 exact G.fold hL (fun _ hp => ⟨(a, c), ⟨hk, hs⟩, hp⟩) h
theorem Fn.rdUp {f : FuncId} {args : Array Value} {r : Nat} {α : Type} {d : α} {p : Pa α} {v : α → Value} (h : ∀ s k e, Fn P f args [Ke r s k e] fun u L => ∃ k' e', E0 s k' e' = (CN d p (E0 s k e)).2 ∧ u = v (CN d p (E0 s k e)).1 ∧ L = [Ke r s k' e']) (st : Rs) :
  Fn P f args [Ic r st] fun u L => u = v (CN d p st).1 ∧ L = [Ic r (CN d p st).2] := by
 intro F w hs
 obtain ⟨h1, h2, hd, a1, a2, ⟨y, hy, hp⟩, hF⟩ := hs
 subst hy
 have hs' : St ([Ke r y.1 y.2.1 y.2.2] ++ F) w := FE ⟨h1, h2, hd, a1, a2, hp, hF⟩
 refine (h _ _ _ F w hs').mono ?_
 rintro e w' ⟨u, L, ⟨k', e', h3, rfl, rfl⟩, he, hs2, hk⟩
 refine ⟨_, _, ⟨rfl, rfl⟩, he, Bt (fun hh hq => ⟨(y.1, (k', e')), h3, hh, fun _ => none, fun _ => .inr rfl, fun _ _ e => e, fun _ _ e => (by cases e), hq, trivial⟩) hs2, hk⟩
theorem Fn.rdEnd {f : FuncId} {args : Array Value} {r : Nat} (h : ∀ s k e, Fn P f args [Ke r s k e] fun u L => ∃ e1, (e1 = 0 ↔ E0 s k e = some []) ∧ u = AA e1 ∧ L = [Ke r s k e1]) (st : Rs) :
  Fn P f args [Ic r st] fun u L => ∃ e1, (e1 = 0 ↔ st = some []) ∧ u = AA e1 ∧ ∃ st', L = [Ic r st'] := by
 intro F w hs
 obtain ⟨h1, h2, hd, a1, a2, ⟨y, hy, hp⟩, hF⟩ := hs
 subst hy
 have hs' : St ([Ke r y.1 y.2.1 y.2.2] ++ F) w := FE ⟨h1, h2, hd, a1, a2, hp, hF⟩
 refine (h _ _ _ F w hs').mono ?_
 rintro e w' ⟨u, L, ⟨e1, h3, rfl, rfl⟩, he, hs2, hk⟩
 refine ⟨_, _, ⟨e1, h3, rfl, _, rfl⟩, he, Bt (fun hh hq => ⟨(y.1, (y.2.1, e1)), rfl, hh, fun _ => none, fun _ => .inr rfl, fun _ _ e => e, fun _ _ e => (by cases e), hq, trivial⟩) hs2, hk⟩
theorem AAs {r : Nat} {s : Bs} {k : Nat} {e : Int} {h : Hp} (hp : CD [Ke r s k e] h) : Ic r (E0 s k e) h := ⟨(s, (k, e)), rfl, hp⟩
theorem G.rdUpF {r : Nat} {s : Bs} {k : Nat} {e : Int} {st : Rs} (hL : BI (Ke r s k e) L R) (hs : E0 s k e = st) (h : G W n ds E (Ic r st :: R) X) : G W n ds E L X := by
 subst hs; exact G.fold (.cons hL .nil) (fun _ hp => AAs hp) h
end
theorem AAY {b i j c : Nat} {s : Bs} {h : Hp} (hi : i ≤ j) (hj : j ≤ s.length) (hp : NA (.slice (some ⟨b, 0, none⟩) s.length c) s h) : Cx 1 h (.slice (some (if c = i then ⟨b, 0, none⟩ else ⟨b, 0 + i * 1, none⟩)) (j - i) (c - i)) ((s.take j).drop i).length (((s.take j).drop i).map Cv) := by
 obtain ⟨⟨rest, fr⟩, h1, h2, h3, h4, h5⟩ := Lh hp
 have hl : ((s.take j).drop i).length = j - i := by rw [length_drop, length_take]; omega
 rcases Nat.lt_or_ge i j with g | g
 ·refine .inr ⟨b, i, c - i, I3 s ++ rest, 5, fr, ?_, h1, ?_, ?_, by omega⟩
  ·rw [if_neg om, hl]; simp
  ·rw [hl, Nat.mul_one, drop_append_of_le_length (by simp [I3]; omega), take_append_of_le_length (by simp [I3]; omega)]
   unfold I3
   rw [← map_drop, ← map_take, drop_take]
  ·rw [hl]; simp [I3]; omega
 ·refine .inl ⟨by omega, ?_, ?_⟩
  ·rw [drop_eq_nil_of_le (by rw [length_take]; omega)]; rfl
  ·rw [show j - i = 0 by omega]; exact ⟨_, _, rfl⟩
/-! ### Bits -/
theorem D9 (x : Int) : IntKind.u64.wrap x = x % 18446744073709551616 := rfl
theorem Oq (x : Int) : IntKind.u8.wrap x = x % 256 := rfl
theorem ABT : ∀ b : BitVec 8, (b ||| 128#8).toNat = b.toNat % 128 + 128 := by decide +kernel
theorem Zb (u : Nat) : Value.int .u8 (IntKind.u8.wrap (BitVec.ofInt IntKind.u8.bits (IntKind.u8.wrap (u : Int)) ||| BitVec.ofInt IntKind.u8.bits 128).toNat) = Cv (UInt8.ofNat (u % 128 + 128)) := by
 show Value.int .u8 _ = Value.int .u8 _
 congr 1
 have h : (BitVec.ofInt 8 (IntKind.u8.wrap (u : Int)) ||| BitVec.ofInt 8 128).toNat = u % 128 + 128 := by
  rw [show BitVec.ofInt 8 128 = 128#8 from rfl, ABT, BitVec.toNat_ofInt, Oq]
  omega
 show IntKind.u8.wrap ((BitVec.ofInt 8 (IntKind.u8.wrap (u : Int)) ||| BitVec.ofInt 8 128).toNat : Int) = _
 rw [h, Oq, KI om]
 omega
theorem YY {u : Nat} (h : u < 128) : Value.int .u8 (IntKind.u8.wrap (u : Int)) = Cv (UInt8.ofNat u) := by
 show Value.int .u8 _ = Value.int .u8 _
 rw [Oq, KI om]
 congr 1; omega
theorem Xz {n : Int} (h : -9223372036854775808 ≤ n ∧ n ≤ 9223372036854775807) : IntKind.u64.wrap (BitVec.ofInt IntKind.u64.bits (IntKind.u64.wrap (IntKind.u64.wrap n * 2 ^ min (1 : Int).toNat IntKind.u64.bits)) ^^^ BitVec.ofInt IntKind.u64.bits (IntKind.u64.wrap (n.fdiv (2 ^ min (63 : Int).toNat IntKind.i64.bits)))).toNat = (PP n : Int) := by
 have e1 : (2 : Int) ^ min (1 : Int).toNat IntKind.u64.bits = 2 := rfl
 have e2 : (2 : Int) ^ min (63 : Int).toNat IntKind.i64.bits = 9223372036854775808 := rfl
 rw [e1, e2, Int.fdiv_eq_ediv_of_nonneg _ dQ]
 show IntKind.u64.wrap ((BitVec.ofInt 64 (IntKind.u64.wrap (IntKind.u64.wrap n * 2)) ^^^ BitVec.ofInt 64 (IntKind.u64.wrap (n / 9223372036854775808))).toNat : Int) = _
 unfold PP
 by_cases h0 : 0 ≤ n
 ·rw [if_pos h0, show n / 9223372036854775808 = 0 by omega, show BitVec.ofInt 64 (IntKind.u64.wrap 0) = 0#64 from rfl, BitVec.xor_zero, BitVec.toNat_ofInt, D9, D9, D9]
  omega
 ·rw [if_neg h0, show n / 9223372036854775808 = -1 by omega, show BitVec.ofInt 64 (IntKind.u64.wrap (-1)) = BitVec.allOnes 64 from rfl, BitVec.xor_allOnes, BitVec.toNat_not, BitVec.toNat_ofInt, D9, D9, D9]
  omega
theorem XP (u : Nat) : IntKind.u64.wrap (BitVec.ofInt IntKind.u64.bits (u : Int) &&& BitVec.ofInt IntKind.u64.bits 1).toNat = ((u % 2 : Nat) : Int) := by
 show IntKind.u64.wrap ((BitVec.ofInt 64 (u : Int) &&& BitVec.ofInt 64 1).toNat : Int) = _
 have h : (BitVec.ofInt 64 (u : Int) &&& BitVec.ofInt 64 1).toNat = u % 2 := by
  rw [BitVec.toNat_and, show (BitVec.ofInt 64 1).toNat = 1 from rfl, Nat.and_one_is_mod, BitVec.toNat_ofInt]
  have e : ((2 ^ 64 : Nat) : Int) = 18446744073709551616 := rfl
  rw [e]; omega
 rw [h, D9]; omega
theorem XF {u : Nat} (h : u < FS) : IntKind.i64.wrap (BitVec.ofInt IntKind.i64.bits (IntKind.i64.wrap ((u : Int).fdiv (2 ^ min (1 : Int).toNat IntKind.u64.bits))) ^^^ BitVec.ofInt IntKind.i64.bits (-((u % 2 : Nat) : Int))).toNat = SL u := by
 have e1 : (2 : Int) ^ min (1 : Int).toNat IntKind.u64.bits = 2 := rfl
 have e64 : ((2 ^ 64 : Nat) : Int) = 18446744073709551616 := rfl
 unfold FS at h
 rw [e1, Int.fdiv_eq_ediv_of_nonneg _ dQ]
 show IntKind.i64.wrap ((BitVec.ofInt 64 (IntKind.i64.wrap ((u : Int) / 2)) ^^^ BitVec.ofInt 64 (-((u % 2 : Nat) : Int))).toNat : Int) = _
 have e3 : IntKind.i64.wrap ((u : Int) / 2) = (u : Int) / 2 := KO om
 rw [e3]
 unfold SL
 by_cases h0 : u % 2 = 0
 ·rw [if_pos h0, h0, show BitVec.ofInt 64 (-((0 : Nat) : Int)) = 0#64 from rfl, BitVec.xor_zero, BitVec.toNat_ofInt, WS, e64]
  omega
 ·rw [if_neg h0, show u % 2 = 1 by omega, show BitVec.ofInt 64 (-((1 : Nat) : Int)) = BitVec.allOnes 64 from rfl, BitVec.xor_allOnes, BitVec.toNat_not, BitVec.toNat_ofInt, WS, e64]
  omega
theorem ZQ : ∀ b : BitVec 8, (b &&& 127#8).toNat = b.toNat % 128 := by decide +kernel
theorem WQ (c : UInt8) : IntKind.u64.wrap (IntKind.u8.wrap (BitVec.ofInt IntKind.u8.bits (c.toNat : Int) &&& BitVec.ofInt IntKind.u8.bits 127).toNat) = ((c.toNat % 128 : Nat) : Int) := by
 have hc := c.toNat_lt
 have h : (BitVec.ofInt 8 (c.toNat : Int) &&& BitVec.ofInt 8 127).toNat = c.toNat % 128 := by
  rw [show BitVec.ofInt 8 127 = 127#8 from rfl, ZQ, BitVec.toNat_ofInt]
  have e : ((2 ^ 8 : Nat) : Int) = 256 := rfl
  rw [e]; omega
 show IntKind.u64.wrap (IntKind.u8.wrap ((BitVec.ofInt 8 (c.toNat : Int) &&& BitVec.ofInt 8 127).toNat : Int)) = _
 rw [h, Oq, D9]; omega
theorem ABI (k : Nat) : (2 : Nat) ^ (7 * k) = 128 ^ k := by rw [Nat.pow_mul]
theorem Xj {k u x : Nat} (hk : k ≤ 9) (hu : u < 128 ^ k) (hx : x < 128) (h9 : k = 9 → x ≤ 1) :
  IntKind.u64.wrap (BitVec.ofInt IntKind.u64.bits (u : Int) ||| BitVec.ofInt IntKind.u64.bits (IntKind.u64.wrap ((x : Int) * 2 ^ min (7 * (k : Int)).toNat IntKind.u64.bits))).toNat = ((u + x * 128 ^ k : Nat) : Int) := by
 have em : min (7 * (k : Int)).toNat IntKind.u64.bits = 7 * k := by
  have : IntKind.u64.bits = 64 := rfl
  omega
 have hb : x * 128 ^ k < 18446744073709551616 := by
  rcases Nat.lt_or_ge k 9 with g | g
  ·have h4 : 128 ^ k ≤ 128 ^ 8 := Nat.pow_le_pow_right dQ om
   have e8 : (128 : Nat) ^ 8 = 72057594037927936 := by decide
   have : x * 128 ^ k ≤ 127 * 128 ^ 8 := Nat.mul_le_mul om h4
   omega
  ·have : k = 9 := by omega
   subst this
   have := h9 rfl
   have e9 : (128 : Nat) ^ 9 = 9223372036854775808 := by decide
   have : x * 128 ^ 9 ≤ 1 * 128 ^ 9 := Nat.mul_le_mul_right _ om
   omega
 have hu64 : u < 18446744073709551616 := by
  have h4 : 128 ^ k ≤ 128 ^ 9 := Nat.pow_le_pow_right dQ hk
  have e9 : (128 : Nat) ^ 9 = 9223372036854775808 := by decide
  omega
 have hs : u + x * 128 ^ k < 18446744073709551616 := by
  rcases Nat.lt_or_ge k 9 with g | g
  ·have h4 : 128 ^ (k + 1) ≤ 128 ^ 9 := Nat.pow_le_pow_right dQ om
   have e9 : (128 : Nat) ^ 9 = 9223372036854775808 := by decide
   have : x * 128 ^ k ≤ 127 * 128 ^ k := Nat.mul_le_mul_right _ om
   rw [Nat.pow_succ] at h4
   omega
  ·have : k = 9 := by omega
   subst this
   have := h9 rfl
   have e9 : (128 : Nat) ^ 9 = 9223372036854775808 := by decide
   have : x * 128 ^ 9 ≤ 1 * 128 ^ 9 := Nat.mul_le_mul_right _ om
   omega
 rw [em]
 have e2 : (x : Int) * 2 ^ (7 * k) = ((x * 128 ^ k : Nat) : Int) := by
  rw [← ABI]; simp
 have e4 : IntKind.u64.wrap ((x * 128 ^ k : Nat) : Int) = ((x * 128 ^ k : Nat) : Int) := by rw [D9]; exact Int.emod_eq_of_lt om om
 rw [e2, e4]
 show IntKind.u64.wrap ((BitVec.ofInt 64 (u : Int) ||| BitVec.ofInt 64 ((x * 128 ^ k : Nat) : Int)).toNat : Int) = _
 have e3 : (BitVec.ofInt 64 (u : Int) ||| BitVec.ofInt 64 ((x * 128 ^ k : Nat) : Int)).toNat = u + x * 128 ^ k := by
  have e64 : ((2 ^ 64 : Nat) : Int) = 18446744073709551616 := rfl
  have f1 : (BitVec.ofInt 64 (u : Int)).toNat = u := by rw [BitVec.toNat_ofInt, e64]; omega
  have f2 : (BitVec.ofInt 64 ((x * 128 ^ k : Nat) : Int)).toNat = x * 128 ^ k := by rw [BitVec.toNat_ofInt, e64]; omega
  rw [BitVec.toNat_or, f1, f2, Nat.or_comm, ← ABI, ← Nat.shiftLeft_eq, ← Nat.shiftLeft_add_eq_or_of_lt (by rw [ABI]; exact hu), Nat.add_comm]
 rw [e3, D9]
 omega
theorem Vg : Fn prog 119 #[] [] fun v L => ∃ w, v = AI w ∧ L = [Ij w []] := by
 refine Fn.intro func119 Y Y fun F W => ?_
 refine .sr (.an Y (.sr (.q (.to (v' := .agg [.slice none 0 0, AA 0].toArray) (.buildN (pl := [(0, 2)]) (us := []) (cells := [.slice none 0 0, AA 0]) underlying252 kQ ABP Y Y) Y) Y (.oq (.box Y) ?_))))
 rintro v L' ⟨w, rfl, rfl⟩
 refine .an Y (.ret (.add (AN 5 1) (.wrFold (w := w) [] (a := none) (c := 0) (m := 0) O Y Y Y ?_)))
 exact .dn Y Y ⟨w, Y, Y⟩
theorem Kf (w : Nat) (bs cs : Bs) (va : Value) (p : HP) (hp : ∀ h : Hp, p h → Cx 1 h va cs.length (I3 cs)) (hl : bs.length + cs.length ≤ 70368744177664) : Fn prog 236 #[AI w, va] [Ij w bs, p] fun v L => v = .tuple #[] ∧ L = [Ij w (bs ++ cs), p] := by
 refine Fn.intro func236 Y Y fun F W => ?_
 refine .wrOpen O fun wa wc => (.region (.m Y (.m Y (.nf Y G0 (.u (.ld Y NH) (.m Y (.oq (.append (n := bs.length) (m := cs.length) (ys := I3 cs) (p := p) Y Y Y KX (.inl ⟨_, underlying181⟩) ABe Y Y ?hc7 hp ?hb8 dQ) ?_)))))))
 case hc7 => exact VC _
 case hb8 => omega
 rintro v L' ⟨⟨a6, c6, rfl⟩, rfl⟩
 refine .nf Y G0 (.st Y Y Y ABK ?_)
 refine .nil (.done_n (.wrFold (w := w) (bs ++ cs) (a := a6) (c := c6) O (by rfl) (by simp) (by rw [RJ]) ?_))
 exact .vv
theorem Xm {u : Nat} (h : 127 < u) (bs : Bs) : bs ++ [UInt8.ofNat (u % 128 + 128)] ++ DS (u / 128) = bs ++ DS u := by
 rw [DS.eq_1 u, if_neg om, append_assoc]; rfl
theorem YS {u : Nat} (h : ¬ 127 < u) (bs : Bs) : bs ++ [UInt8.ofNat u] = bs ++ DS u := by
 rw [DS.eq_1 u, if_pos om]
theorem ACo (u : Nat) : Value.int .u64 ((u : Int).fdiv (2 ^ min (7 : Int).toNat IntKind.u64.bits)) = .int .u64 ((u / 128 : Nat) : Int) := by
 have e1 : (2 : Int) ^ min (7 : Int).toNat IntKind.u64.bits = 128 := rfl
 rw [e1, Int.fdiv_eq_ediv_of_nonneg _ dQ]; rfl
theorem Ja (w : Nat) (bs0 : Bs) (u0 : Nat) (hu : u0 < FS) (hl : bs0.length ≤ 70368744177568) : Fn prog 235 #[AI w, .int .u64 u0] [Ij w bs0] fun v L => v = .tuple #[] ∧ L = [Ij w (bs0 ++ DS u0)] := by
 refine Fn.intro func235 Y Y fun F W => ?_
 have hs10 := EU hu
 refine .seq (.block (.loopK (ι := Nat × Bs) (fun q E => (1, .int .u64 q.1) :: E) (fun q => [Ij w q.2]) (fun q => q.1 ≤ u0 ∧ q.2 ++ DS q.1 = bs0 ++ DS u0) (fun q => q.1) (u0, bs0) (ts := [0]) O (⟨Nat.le_refl _, Y⟩) O O ?_))
 rintro ⟨u, bs⟩ ⟨hu0, heq⟩
 dsimp only
 dsimp only at hu0 heq
 have hbl := congrArg List.length heq
 simp only [length_append] at hbl
 have hsl := Z2 u
 refine .seq (.sm Y (.ui Y Y Y (.nt (.condD Y (fun h5 => ?_) (fun h5 => ?_)))))
 ·have h127 : 127 < u := by omega
  refine .sk (.seq (.block (.region (.m Y (.nf Y Jh (.m Y (.q (.conv Y underlying180 underlying5) Y (.q (.as (v' := Cv (UInt8.ofNat (u % 128 + 128))) (by exact Zb u) (.or Y Y)) Y (.oq (.buildSlice1 (vs := [_]) KX ABe Y Y Y Y Y dQ) ?_)))))))))
  rintro v L' ⟨b2, rfl, rfl⟩
  refine .slMake (b := b2) (n := 1) (c := 1) (xs := [Cv (UInt8.ofNat (u % 128 + 128))]) O dQ (by simp) Y (.oq (.call func236 Y Y (vs := [_, _]) Y (Kf w bs [(UInt8.ofNat (u % 128 + 128))] _ (Ad 5 1 (.slice (some ⟨b2, 0, none⟩) 1 1) 1 [Cv (UInt8.ofNat (u % 128 + 128))]) (fun h hp => AZ hp) (by simp; omega))) ?_)
  rintro v L' ⟨rfl, rfl⟩
  refine .nil (.blk_n (.then_n (.region (.m Y (.q (.as (v' := .int .u64 ((u / 128 : Nat) : Int)) (by exact ACo u) (.shr Y Y (by first | decide | omega))) Y (.an Y ?_))))))
  exact .rk ((u / 128, bs ++ [(UInt8.ofNat (u % 128 + 128))])) (⟨by dsimp only; omega, by dsimp only; rw [Xm om]; exact heq⟩) (by dsimp only; omega) O
 have h127 : ¬ 127 < u := by omega
 refine .xe (.region (.m Y (.nf Y Jh (.m Y (.q (.as (v' := Cv (UInt8.ofNat u)) (by exact YY om) (.conv Y underlying180 underlying5)) Y (.oq (.buildSlice1 (vs := [_]) KX ABe Y Y Y Y Y dQ) ?_))))))
 rintro v L' ⟨b3, rfl, rfl⟩
 refine .slMake (b := b3) (n := 1) (c := 1) (xs := [Cv (UInt8.ofNat u)]) O dQ (by simp) Y (.oq (.call func236 Y Y (vs := [_, _]) Y (Kf w bs [(UInt8.ofNat u)] _ (Ad 5 1 (.slice (some ⟨b3, 0, none⟩) 1 1) 1 [Cv (UInt8.ofNat u)]) (fun h hp => AZ hp) (by simp; omega))) ?_)
 rintro v L' ⟨rfl, rfl⟩
 refine .nil (.done_n ?_)
 rw [YS h127, heq]
 exact .vv
theorem Ky (w : Nat) (bs : Bs) (n : Int) (hn : -9223372036854775808 ≤ n ∧ n ≤ 9223372036854775807) (hl : bs.length ≤ 70368744177568) : Fn prog 190 #[AI w, AA n] [Ij w bs] fun v L => v = .tuple #[] ∧ L = [Ij w (bs ++ EZ n)] := by
 refine Fn.intro func190 Y Y fun F W => ?_
 have hz := TH hn
 refine .region (.m Y (.m Y (.q (.conv Y underlying3 underlying180) Y (.q (.shl Y Y (by first | decide | omega)) Y (.m Y (.q (.shr Y Y (by first | decide | omega)) Y (.q (.conv Y underlying3 underlying180) Y (.q (.as (v' := .int .u64 (PP n : Nat)) (by exact congrArg (Value.int .u64) (Xz hn)) (.xor Y Y)) Y (.oq (.c func235 [_, _] (Ja _ _ _ ?hu9 ?hl10)) ?_)))))))))
 case hu9 => assumption
 case hl10 => omega
 rintro v L' ⟨rfl, rfl⟩
 refine .nil (.done_n ?_)
 exact .vv
theorem H9 (w : Nat) (bs : Bs) (n : Nat) (hn : n ≤ 70368744177664) (hl : bs.length ≤ 70368744177568) : Fn prog 194 #[AI w, AA n] [Ij w bs] fun v L => v = .tuple #[] ∧ L = [Ij w (bs ++ Cu n)] := by
 refine Fn.intro func194 Y Y fun F W => ?_
 have hz : n < FS := by unfold FS; omega
 refine .region (.m Y (.m Y (.u (.max2 Y Y) (.q (.as (v' := .int .u64 (n : Nat)) (by exact congrArg (Value.int .u64) (by rw [D9]; omega)) (.conv Y underlying3 underlying180)) Y (.oq (.c func235 [_, _] (Ja _ _ _ ?hu5 ?hl6)) ?_)))))
 case hu5 => assumption
 case hl6 => omega
 rintro v L' ⟨rfl, rfl⟩
 refine .nil (.done_n ?_)
 exact .vv
theorem JP (w : Nat) (bs s : Bs) (hl : bs.length + s.length ≤ 70368744177368) : Fn prog 191 #[AI w, AD s] [Ij w bs] fun v L => v = .tuple #[] ∧ L = [Ij w (bs ++ FM s)] := by
 refine Fn.intro func191 Y Y fun F W => ?_
 have hc : (Cu s.length).length ≤ 10 := EU (by unfold FS; omega)
 refine .sm Y (.m Y (.q (.strlen Y underlying9 Y) Y (.oq (.c func194 [_, _] (H9 _ _ _ ?hn4 ?hb5)) ?_)))
 case hn4 => first | assumption | omega
 case hb5 => omega
 rintro v L' ⟨rfl, rfl⟩
 refine .nt (.region (.m Y (.nf Y Jh (.m Y (.oq (.strBytes Y underlying9 underlying181 underlying5) ?_)))))
 rintro v L' ⟨rfl, b8, c8, rfl⟩
 refine .oq (.call func236 Y Y (vs := [_, _]) Y (Kf w (bs ++ Cu s.length) s _ (Ad 5 1 (.slice (some ⟨b8, 0, none⟩) s.length c8) s.length (s.map Cv)) (fun h hp => AZ hp) (by simp; omega))) ?_
 rintro v L' ⟨rfl, rfl⟩
 refine .nil (.done_n ?_)
 rw [append_assoc]
 exact .vv
theorem QD (w : Nat) (bs : Bs) : Fn prog 120 #[AI w] [Ij w bs] fun v L => v = AD bs ∧ L = [Ij w bs] := by
 refine Fn.intro func120 Y Y fun F W => ?_
 refine .wrOpen O fun wa wc => (.sr (.an Y (.sm Y (.nf Y Jh (.fa Y G0 (.u (.ld Y NH) (.q (.bytesBy (cs := bs) (n := bs.length) (p := NA (.slice wa bs.length wc) bs) Y underlying181 underlying5 underlying9 (fun h hp => AZ hp) O) Y (.an Y (.ret (.wrFold (w := w) bs O Y Y Y ?_))))))))))
 exact .vv
theorem I4 (r : Nat) (s : Bs) (k : Nat) (e : Int) : Fn prog 183 #[AI r] [Ke r s k e] fun v L => v = AA ((s.length : Int) - k) ∧ L = [Ke r s k e] := by
 refine Fn.intro func183 Y Y fun F W => ?_
 refine .rdOpen O fun ra rc hkl hsz => (.sr (.an Y (.seq (.draw [] [[0, 1, 2, 3, 4, 5, 6, 7, 8, 9, 10]] mixed kQ (.g0 (.mv Y Y (.nf Y Y Y G0 (.kv Y (.ld Y NH) (.kv Y (.slen Y underlying181 Y) (.mv Y Y (.nf Y Y Y DM (.kv Y (.ld Y AR) (.kv Y (.sub Y Y om) (.kv Y (.assign Y) (.pf (.ret (.rdFold (r := r) s (k) (e) O (by first | rfl | (simp only [List.set]; congr; omega)) om hsz ?_)))))))))))))))))
 exact .vv
theorem FC (r : Nat) (s : Bs) (k : Nat) (e e' : Int) : Fn prog 232 #[AI r, AA e'] [Ke r s k e] fun v L => v = .tuple #[] ∧ L = [Ke r s k (if e = 0 then e' else e)] := by
 refine Fn.intro func232 Y Y fun F W => ?_
 refine .rdOpen O fun ra rc hkl hsz => (.sm Y (.nf Y Gd (.u (.ld Y Ey) (.ui Y Y Y (.nt (.condD Y (fun h8 => ?_) (fun h8 => ?_)))))))
 ·refine .region (.m Y (.m Y (.nf Y Gd (.st Y Y Y MD ?_))))
  refine .nil (.done_n (.rdFold (r := r) s (k) (if e = 0 then e' else e) O (by rw [if_pos h8]; rfl) om hsz ?_))
  exact .vv
 refine .skip (.done_n (.rdFold (r := r) s (k) (if e = 0 then e' else e) O (by rw [if_neg h8]) om hsz ?_))
 exact .vv
theorem TA (r : Nat) (s : Bs) (k : Nat) (e : Int) : Fn prog 184 #[AI r] [Ke r s k e] fun v L => v = .tuple #[] ∧ L = [Ke r s k (if e = 0 then 11 else e)] := by
 refine Fn.intro func184 Y Y fun F W => ?_
 refine .region (.m Y (.cv func232 [_, _] (FC _ _ _ _ _) ?_))
 refine .nil (.done_n ?_)
 exact .vv
def Mh (s : Bs) (k : Nat) (e : Int) (u m : Nat) (e' : Int) : Prop :=
 ((e ≠ 0 ∨ Ff 0 0 (s.drop k) = none) ∧ u = 0 ∧ m = 0 ∧ e' ≠ 0) ∨ (e = 0 ∧ e' = 0 ∧ k + m ≤ s.length ∧ Ff 0 0 (s.drop k) = some (u, s.drop (k + m)))
def ABW (k : Nat) (c : UInt8) : Prop := (k = 9 ∧ 1 < c.toNat) ∨ (c.toNat = 0 ∧ 0 < k)
instance (k : Nat) (c : UInt8) : Decidable (ABW k c) := inferInstanceAs (Decidable (_ ∨ _))
theorem PM {s : Bs} {k j u : Nat} (h : k + j < s.length) : Ff j u (s.drop (k + j)) = if ABW j s[k + j] then none else if s[k + j].toNat < 128 then some (u + s[k + j].toNat % 128 * 128 ^ j, s.drop (k + j + 1)) else Ff (j + 1) (u + s[k + j].toNat % 128 * 128 ^ j) (s.drop (k + j + 1)) := by
 rw [drop_eq_getElem_cons h]
 conv => lhs; unfold Ff
 rfl
theorem Ys {s : Bs} {k j u : Nat} (h : s.length ≤ k + j) : Ff j u (s.drop (k + j)) = none := by
 rw [drop_eq_nil_of_le h]; unfold Ff; rfl
theorem Jb (r : Nat) (s : Bs) (k : Nat) (e : Int) : Fn prog 233 #[AI r] [Ke r s k e] fun v L => ∃ u m e', Mh s k e u m e' ∧ v = .tuple #[.int .u64 (u : Nat), AA (m : Nat)] ∧ L = [Ke r s k e'] := by
 refine Fn.intro func233 Y Y fun F W => ?_
 refine .rdOpen O fun ra rc hkl hsz => (.sr (.a Y (.an Y (.seq (.sr ?_)))))
 rcases Decidable.em (e = 0) with he0 | he0
 ·subst he0
  refine .m Y (.nf Y Gd (.u (.ld Y Ey) (.q (.as (v' := .bool false) (by rfl) (.int Y Y Y)) Y (.nt (.condF Y (.sk (.sr (.an Y (.seq (.sm Y (.nf Y CT (.rdFold (r := r) s (k) (0) O (by first | rfl | (simp only [List.set]; congr; omega)) om hsz (.cv func183 [_] (I4 r s k 0) ?_)))))))))))))
  refine .m Y (.nil (.rdOpen O fun ra1 rc1 _ _ => (.then_n (.block (.loopK (ι := Nat × Nat) (fun q E => (16, AA q.1) :: (4, .int .u64 q.2) :: E) (fun q => []) (fun q => k + q.1 ≤ s.length ∧ q.1 ≤ 9 ∧ q.2 < 128 ^ q.1 ∧ Ff q.1 q.2 (s.drop (k + q.1)) = Ff 0 0 (s.drop k)) (fun q => s.length - q.1) (0, 0) (ts := [0, 15]) O (⟨by dsimp only; omega, by dsimp only; omega, by dsimp only; decide, rfl⟩) O O ?_)))))
  rintro ⟨j, u⟩ ⟨hj, hj9, huj, hsv⟩
  dsimp only
  dsimp only at hj hj9 huj hsv
  refine .sr (.ui Y Y Y (.nt (.seq (.condD Y (fun h17 => ?_) (fun h17 => ?_)))))
  ·have hlt : k + j < s.length := by omega
   have hxl := s[k + j].toNat_lt
   refine .sk (.seq (.block (.sm Y (.an Y (.seq (.draw [] [[0, 1, 2, 3, 4, 5, 6, 7, 8, 9, 10, 11, 12, 13, 14]] mixed kQ (.g0 (.mv Y Y (.nf Y Y Y CT (.kv Y (.fieldAddr Y G0) (.kv Y (.ld Y NH) (.mv Y Y (.nf Y Y Y CT (.kv Y (.fieldAddr Y DM) (.kv Y (.ld Y AR) (.mv Y Y (.kv Y (.add Y Y om) (.kv Y (.indexAddr Y Y KX om) (.kv Y (.loadRd (sz := 1) (j := k + j) (p := NA (.slice _ s.length _) s) (v := Cv s[k + j]) Y ABx O (fun h hp => AZ hp) om (by simp [I3, List.getElem?_eq_getElem hlt])) ?_)))))))))))))))))))
   refine D.kv Y (.assign Y) (.pf (.seq (.seq (.joinK (ι := Bool) (fun q E => (46, .bool q) :: E) (fun q => []) (fun q => q = decide (ABW j s[k + j])) (pre := []) (ts := [0, 4, 5, 6, 15, 16, 17, 18, 19, 20, 21, 22, 23, 24, 25, 26, 27, 28, 29, 30, 31, 32]) O O ?_ ?_))))
   ·refine .region (.m Y (.ui Y Y Y (.m Y (.dec (t := 35) Y (fun h8_35 => ?_) (fun h8_35 => ?_)))))
    ·refine .kDT (t := 34) Y h8_35 (.gr (.m Y (.gr (.ui Y Y Y (.pT Y Y (.m Y (.dec (t := 39) Y (fun h8_39 => ?_) (fun h8_39 => ?_))))))))
     ·refine .kDT (t := 37) Y h8_39 (.kDT (t := 38) Y h8_39 (.gk (.gk (.gk (.gn (.gn (.gk (.pT Y Y (.nt ?_)))))))))
      exact .mk (true) ((by rw [decide_eq_true]; exact .inl ⟨by omega, by omega⟩)) O
     refine .kDF (t := 37) Y h8_39 (.kDF (t := 38) Y h8_39 (.gr (.m Y (.gr (.ui Y Y Y (.gr (.m Y (.dec (t := 42) Y (fun h8_42 => ?_) (fun h8_42 => ?_)))))))))
     ·refine .kDT (t := 41) Y h8_42 (.gr (.m Y (.gr (.ui Y Y Y (.gr (.pT Y Y (.pF Y Y (.nt ?_))))))))
      exact .mk ((decide ((j : Int) > 0))) ((by exact decide_eq_decide.2 ⟨fun g => .inr ⟨by omega, by omega⟩, fun g => by rcases g with ⟨g1, g2⟩ | ⟨g1, g2⟩ <;> omega⟩)) O
     refine .kDF (t := 41) Y h8_42 (.gk (.gk (.gr (.pF Y Y (.pF Y Y (.nt ?_))))))
     exact .mk (false) ((by exact (decide_eq_false (by rintro (⟨g1, g2⟩ | ⟨g1, g2⟩) <;> omega)).symm)) O
    refine .kDF (t := 34) Y h8_35 (.gk (.gk (.pF Y Y (.m Y (.gr (.m Y (.gr (.ui Y Y Y (.gr (.m Y (.dec (t := 42) Y (fun h8_42 => ?_) (fun h8_42 => ?_))))))))))))
    ·refine .kDT (t := 41) Y h8_42 (.gr (.m Y (.gr (.ui Y Y Y (.gr (.pT Y Y (.pF Y Y (.nt ?_))))))))
     exact .mk ((decide ((j : Int) > 0))) ((by exact decide_eq_decide.2 ⟨fun g => .inr ⟨by omega, by omega⟩, fun g => by rcases g with ⟨g1, g2⟩ | ⟨g1, g2⟩ <;> omega⟩)) O
    refine .kDF (t := 41) Y h8_42 (.gk (.gk (.gr (.pF Y Y (.pF Y Y (.nt ?_))))))
    exact .mk (false) ((by exact (decide_eq_false (by rintro (⟨g1, g2⟩ | ⟨g1, g2⟩) <;> omega)).symm)) O
   rintro b hb
   subst hb
   refine .condD Y (fun h46 => ?_) (fun h46 => ?_)
   ·refine .seq (.rdFold (r := r) s (k) (0) O (by first | rfl | (simp only [List.set]; congr; omega)) om hsz (.region (.m Y (.oq (.c func232 [_, _] (FC r s k 0 11)) ?_))))
    rintro v L' ⟨rfl, rfl⟩; rw [if_pos rfl]
    refine .nt (.sr (.a Y (.an Y (.rt (.blk_r (.then_r (.then_r (.blk_r (.then_r ?_)))))))))
    exact .dn Y Y ⟨0, 0, 11, .inl ⟨.inr (by rw [← hsv, PM hlt, if_pos h46]), Y, Y, by decide⟩, rfl, rfl⟩
   have h9 : j = 9 → s[k + j].toNat ≤ 1 := fun g => by rcases Nat.lt_or_ge 1 s[k + j].toNat with g2 | g2; exact absurd (.inl ⟨g, g2⟩) h46; exact g2
   refine .sk (.sm Y (.m Y (.u (.and Y Y) (.q (.as (v' := .int .u64 ((s[k + j].toNat % 128 : Nat) : Int)) (by exact congrArg (Value.int .u64) (WQ _)) (.conv Y underlying5 underlying180)) Y (.m Y (.q (.mul Y Y om) Y (.q (.shl Y Y (by first | decide | omega)) Y (.q (.as (v' := .int .u64 ((u + s[k + j].toNat % 128 * 128 ^ j : Nat) : Int)) (by exact congrArg (Value.int .u64) (Xj hj9 huj om (fun g => by have := h9 g; omega))) (.or Y Y)) Y (.an Y (.sm Y (.ui Y Y Y (.nt (.condD Y (fun h58 => ?_) (fun h58 => ?_))))))))))))))
   ·refine .sm Y (.m Y (.q (.add Y Y om) Y (.a Y (.an Y (.ret (.blk_r (.then_r (.then_r (.blk_r (.then_r (.rdFold (r := r) s (k) (0) O (by first | rfl | (simp only [List.set]; congr; omega)) om hsz ?_)))))))))))
    exact .dn Y Y ⟨_, j + 1, 0, .inr ⟨Y, Y, by omega, by rw [← hsv, PM hlt, if_neg h46, if_pos om]; rfl⟩, rfl, rfl⟩
   refine .skip (.blk_n (.then_n (.region (.q (.add Y Y om) Y (.m Y (.nt ?_))))))
   exact .rk ((j + 1, u + s[k + j].toNat % 128 * 128 ^ j)) (⟨by dsimp only; omega, by dsimp only; rcases Nat.lt_or_ge j 9 with g | g; (omega); exact absurd (h9 om) om, by dsimp only; rw [Nat.pow_succ]; have := Nat.mul_le_mul_right (128 ^ j) (show s[k + j].toNat % 128 ≤ 127 by omega); omega, by dsimp only; rw [← hsv, PM hlt, if_neg h46, if_neg om]; rfl⟩) (by dsimp only; omega) O
  refine .xe (.seq (.rdFold (r := r) s (k) (0) O (by first | rfl | (simp only [List.set]; congr; omega)) om hsz (.region (.m Y (.oq (.c func232 [_, _] (FC r s k 0 10)) ?_)))))
  rintro v L' ⟨rfl, rfl⟩; rw [if_pos rfl]
  refine .nt (.sr (.a Y (.an Y (.ret ?_))))
  exact .dn Y Y ⟨0, 0, 10, .inl ⟨.inr (by rw [← hsv]; exact Ys om), Y, Y, by decide⟩, rfl, rfl⟩
 refine .m Y (.nf Y Gd (.u (.ld Y Ey) (.q (.as (v' := .bool true) (by simp [he0]) (.int Y Y Y)) Y (.nt (.condT Y (.sr (.a Y (.an Y (.rt (.rdFold (r := r) s (k) (e) O (by first | rfl | (simp only [List.set]; congr; omega)) om hsz ?_))))))))))
 exact .dn Y Y ⟨0, 0, e, .inl ⟨.inl he0, Y, Y, he0⟩, Y, Y⟩
theorem Mh.lt {s : Bs} {k : Nat} {e : Int} {u m : Nat} {e' : Int} (h : Mh s k e u m e') : u < FS := by
 rcases h with ⟨-, rfl, -⟩ | ⟨-, -, -, h⟩
 ·decide
 ·exact Ol 0 0 _ _ _ h dQ dQ
theorem Mh.le {s : Bs} {k : Nat} {e : Int} {u m : Nat} {e' : Int} (h : Mh s k e u m e') (hk : k ≤ s.length) : k + m ≤ s.length := by
 rcases h with ⟨-, -, rfl, -⟩ | ⟨-, -, h, -⟩
 ·exact hk
 ·exact h
theorem Mh.num {s : Bs} {k : Nat} {e : Int} {u m : Nat} {e' : Int} (h : Mh s k e u m e') : E0 s (k + m) e' = (CN 0 MX (E0 s k e)).2 ∧ SL u = (CN 0 MX (E0 s k e)).1 := by
 rcases h with ⟨h1, rfl, rfl, h2⟩ | ⟨rfl, rfl, -, h⟩
 ·have e2 : E0 s (k + 0) e' = none := if_neg h2
  rw [e2]
  rcases h1 with h1 | h1
  ·have e1 : E0 s k e = none := if_neg h1
   rw [e1]; exact ⟨rfl, rfl⟩
  ·unfold E0
   split
   ·unfold CN MX; dsimp only; rw [h1]; exact ⟨rfl, rfl⟩
   ·exact ⟨rfl, rfl⟩
 ·have e1 : E0 s k 0 = some (s.drop k) := if_pos rfl
  have e2 : E0 s (k + m) 0 = some (s.drop (k + m)) := if_pos rfl
  rw [e1, e2]
  unfold CN MX; dsimp only; rw [h]; exact ⟨rfl, rfl⟩
theorem Mh.cntT {s : Bs} {k : Nat} {e : Int} {u m : Nat} {e' : Int} {most : Nat} (h : Mh s k e u m e') (hm : most < u) : CN 0 (FI most) (E0 s k e) = (0, none) := by
 rcases h with ⟨h1, rfl, rfl, h2⟩ | ⟨rfl, rfl, -, h⟩
 ·omega
 ·have e1 : E0 s k 0 = some (s.drop k) := if_pos rfl
  rw [e1]
  unfold CN FI; dsimp only; rw [h]; dsimp only; rw [if_pos hm]
theorem Mh.cntF {s : Bs} {k : Nat} {e : Int} {u m : Nat} {e' : Int} {most : Nat} (h : Mh s k e u m e') (hm : ¬ most < u) : E0 s (k + m) e' = (CN 0 (FI most) (E0 s k e)).2 ∧ u = (CN 0 (FI most) (E0 s k e)).1 := by
 rcases h with ⟨h1, rfl, rfl, h2⟩ | ⟨rfl, rfl, -, h⟩
 ·have e2 : E0 s (k + 0) e' = none := if_neg h2
  rw [e2]
  rcases h1 with h1 | h1
  ·have e1 : E0 s k e = none := if_neg h1
   rw [e1]; exact ⟨rfl, rfl⟩
  ·unfold E0
   split
   ·unfold CN FI; dsimp only; rw [h1]; exact ⟨rfl, rfl⟩
   ·exact ⟨rfl, rfl⟩
 ·have e1 : E0 s k 0 = some (s.drop k) := if_pos rfl
  have e2 : E0 s (k + m) 0 = some (s.drop (k + m)) := if_pos rfl
  rw [e1, e2]
  unfold CN FI; dsimp only; rw [h]; dsimp only; rw [if_neg hm]; exact ⟨rfl, rfl⟩
theorem Td {s : Bs} {k : Nat} {e x : Int} (hx : x ≠ 0) : E0 s k (if e = 0 then x else e) = none := by
 refine if_neg ?_
 split
 ·exact hx
 ·assumption
theorem ZV {s : Bs} {k : Nat} {e : Int} {most n k1 : Nat} {e1 : Int} (h1 : E0 s k1 e1 = (CN 0 (FI most) (E0 s k e)).2) (hn : n = (CN 0 (FI most) (E0 s k e)).1) (hk : k1 ≤ s.length) :
  ((s.length : Int) - k1 < n → CN [] (I2 most) (E0 s k e) = ([], none)) ∧ (¬ (s.length : Int) - k1 < n → E0 s (k1 + n) e1 = (CN [] (I2 most) (E0 s k e)).2 ∧ (s.take (k1 + n)).drop k1 = (CN [] (I2 most) (E0 s k e)).1) := by
 cases hst : E0 s k e with
 | none =>
  rw [hst] at h1 hn
  have h1 : E0 s k1 e1 = none := h1
  have hn : n = 0 := hn
  subst hn
  refine ⟨fun h => by omega, fun _ => ⟨?_, ?_⟩⟩
  ·unfold E0 at h1 ⊢
   split at h1
   ·cases h1
   ·rename_i g; rw [if_neg g]; rfl
  ·rw [Nat.add_zero, drop_eq_nil_of_le (by rw [length_take]; omega)]; rfl
 | some q =>
  rw [hst] at h1 hn
  cases hc : FI most q with
  | none =>
   have f : CN 0 (FI most) (some q) = (0, none) := by unfold CN; dsimp only; rw [hc]
   have f2 : CN [] (I2 most) (some q) = ([], none) := by unfold CN I2; dsimp only; rw [hc]
   rw [f] at h1 hn
   rw [f2]
   have h1 : E0 s k1 e1 = none := h1
   have hn : n = 0 := hn
   subst hn
   refine ⟨fun h => by omega, fun _ => ⟨?_, ?_⟩⟩
   ·unfold E0 at h1 ⊢
    split at h1
    ·cases h1
    ·rename_i g; rw [if_neg g]
   ·rw [Nat.add_zero, drop_eq_nil_of_le (by rw [length_take]; omega)]
  | some x =>
   obtain ⟨m, z⟩ := x
   have f : CN 0 (FI most) (some q) = (m, some z) := by unfold CN; dsimp only; rw [hc]
   rw [f] at h1 hn
   have h1 : E0 s k1 e1 = some z := h1
   have hn : n = m := hn
   subst hn
   unfold E0 at h1
   split at h1
   ·rename_i g
    subst g
    have h1 : s.drop k1 = z := Option.some.inj h1
    subst h1
    have hl : (s.drop k1).length = s.length - k1 := length_drop
    refine ⟨fun h => ?_, fun h => ?_⟩
    ·unfold CN I2; dsimp only; rw [hc]; dsimp only; rw [if_pos om]
    ·have e2 : E0 s (k1 + n) 0 = some (s.drop (k1 + n)) := if_pos rfl
     have f2 : CN [] (I2 most) (some q) = ((s.drop k1).take n, some ((s.drop k1).drop n)) := by unfold CN I2; dsimp only; rw [hc]; dsimp only; rw [if_neg om]
     rw [e2, f2, drop_drop, drop_take]
     exact ⟨rfl, by rw [show k1 + n - k1 = n by omega]⟩
   ·cases h1
theorem S8 (r : Nat) (s : Bs) (k : Nat) (e : Int) : Fn prog 185 #[AI r] [Ke r s k e] fun v L => ∃ k' e', E0 s k' e' = (CN 0 MX (E0 s k e)).2 ∧ v = AA (CN 0 MX (E0 s k e)).1 ∧ L = [Ke r s k' e'] := by
 refine Fn.intro func185 Y Y fun F W => ?_
 refine .sr (.an Y (.sm Y (.oq (.c func233 [_] (Jb r s k e)) ?_)))
 rintro v L' ⟨u, m, e', hA, rfl, rfl⟩; have hu := hA.lt
 refine .m Y (.ex Y Y (.ex Y Y (.a Y (.an Y (.seq (.rdOpen O fun ra rc hkl hsz => ?_))))))
 have hkm := hA.le hkl
 refine .region (.m Y (.nf Y CT (.fa Y DM (.u (.ld Y AR) (.m Y (.q (.add Y Y om) Y (.nf Y CT (.fa Y DM (.st Y Y Y CC ?_)))))))))
 refine .nt (.sm Y (.q (.shr Y Y (by first | decide | omega)) Y (.q (.conv Y underlying180 underlying3) Y (.m Y (.q (.as (v' := .int .u64 ((u % 2 : Nat) : Int)) (by exact congrArg (Value.int .u64) (XP u)) (.and Y Y)) Y (.q (.as (v' := AA ((u % 2 : Nat) : Int)) (by rw [KO om]) (.conv Y underlying180 underlying3)) Y (.q (.neg Y om) Y (.q (.as (v' := AA (SL u)) (by exact congrArg (Value.int .i64) (XF hu)) (.xor Y Y)) Y (.an Y (.ret (.rdFold (r := r) s (k + m) (e') O (by first | rfl | (simp only [List.set]; congr; omega)) om hsz ?_)))))))))))
 rw [hA.num.2]
 exact .dn Y Y ⟨k + m, e', hA.num.1, Y, Y⟩
theorem Jk (r most : Nat) (hm : most ≤ 70368744177664) (s : Bs) (k : Nat) (e : Int) : Fn prog 189 #[AI r, AA most] [Ke r s k e] fun v L => ∃ k' e', E0 s k' e' = (CN 0 (FI most) (E0 s k e)).2 ∧ v = AA ((CN 0 (FI most) (E0 s k e)).1 : Nat) ∧ L = [Ke r s k' e'] := by
 refine Fn.intro func189 Y Y fun F W => ?_
 refine .sr (.an Y (.sm Y (.oq (.c func233 [_] (Jb r s k e)) ?_)))
 rintro v L' ⟨u, m, e', hA, rfl, rfl⟩; have hu := hA.lt
 refine .m Y (.ex Y Y (.ex Y Y (.a Y (.an Y (.seq (.sm Y (.m Y (.u (.max2 Y Y) (.q (.as (v' := .int .u64 (most : Nat)) (by exact congrArg (Value.int .u64) (by rw [D9]; omega)) (.conv Y underlying3 underlying180)) Y (.ui Y Y Y (.nt (.condD Y (fun h16 => ?_) (fun h16 => ?_)))))))))))))
 ·refine .sm Y (.cv func232 [_, _] (FC r s k e' 12) ?_)
  refine .nt (.sr (.an Y (.rt ?_)))
  rw [hA.cntT (most := most) om]
  exact .dn Y Y ⟨k, _, Td (x := 12) dQ, Y, Y⟩
 refine .sk (.seq (.rdOpen O fun ra rc hkl hsz => ?_))
 have hkm := hA.le hkl
 refine .region (.m Y (.nf Y CT (.fa Y DM (.u (.ld Y AR) (.m Y (.q (.add Y Y om) Y (.nf Y CT (.fa Y DM (.st Y Y Y CC ?_)))))))))
 refine .nt (.sm Y (.q (.as (v' := AA (u : Nat)) (by rw [KO om]) (.conv Y underlying180 underlying3)) Y (.an Y (.ret (.rdFold (r := r) s (k + m) (e') O (by first | rfl | (simp only [List.set]; congr; omega)) om hsz ?_)))))
 obtain ⟨hc1, hc2⟩ := hA.cntF (most := most) om
 rw [hc2]
 exact .dn Y Y ⟨k + m, e', hc1, Y, Y⟩
theorem Q9 (r most : Nat) (hm : most ≤ 70368744177664) (s : Bs) (k : Nat) (e : Int) : Fn prog 234 #[AI r, AA most] [Ke r s k e] fun v L => ∃ k' e', E0 s k' e' = (CN [] (I2 most) (E0 s k e)).2 ∧ v = AD (CN [] (I2 most) (E0 s k e)).1 ∧ L = [Ke r s k' e'] := by
 refine Fn.intro func234 Y Y fun F W => ?_
 refine .rdOpen O fun ra rc hkl hsz => (.sr (.an Y (.sm Y (.nf Y CT (.fa Y DM (.u (.ld Y AR) (.a Y (.nil (.rdFold (r := r) s (k) (e) O (by first | rfl | (simp only [List.set]; congr; omega)) om hsz (.then_n (.sm Y (.m Y (.oq (.c func189 [_, _] (Jk r most hm s k e)) ?_)))))))))))))
 rintro v L' ⟨k1, e1, hs1, rfl, rfl⟩
 obtain ⟨n, hn⟩ : ∃ n, n = (CN 0 (FI most) (E0 s k e)).1 := ⟨_, rfl⟩
 rw [← hn]
 refine .a Y (.nil (.rdOpen O fun ra2 rc2 hk1 _ => ?_))
 have hrun := ZV hs1 hn hk1
 refine .rdFold (r := r) s k1 e1 O Y hk1 hsz (.then_n (.seq (.sm Y (.nf Y CT (.cv func183 [_] (I4 r s k1 e1) ?_)))))
 refine .m Y (.ui Y Y Y (.nt (.condD Y (fun h20 => ?_) (fun h20 => ?_))))
 ·refine .seq (.rdOpen O fun ra3 rc3 _ _ => (.region (.m Y (.m Y (.nf Y CT (.fa Y DM (.st Y Y Y CC ?_)))))))
  refine .nil (.rdFold (r := r) s (k) (e1) O (by first | rfl | (simp only [List.set]; congr; omega)) om hsz (.then_n (.sm Y (.cv func232 [_, _] (FC r s k e1 10) ?_))))
  refine .nt (.sr (.an Y (.rt ?_)))
  rw [hrun.1 h20]
  exact .dn Y Y ⟨k, _, Td (x := 10) dQ, Y, Y⟩
 refine .sk (.seq (.rdOpen O fun ra3 rc3 _ _ => ?_))
 obtain ⟨hr1, hr2⟩ := hrun.2 h20
 refine .region (.m Y (.nf Y CT (.fa Y DM (.u (.ld Y AR) (.m Y (.q (.add Y Y om) Y (.nf Y CT (.fa Y DM (.st Y Y Y CC ?_)))))))))
 refine .nil (.ptCast (b := r) (l' := [.slice (some ⟨ra3, 0, none⟩) s.length rc3, AA ((k1 + n : Nat) : Int), AA e1]) O Y ?_)
 refine .slAddr O fun hcap _ => (.then_n (.seq (.draw [] [[0, 1, 2, 3, 4, 5, 6, 7, 8, 9, 10, 11, 12, 13, 14, 15, 16, 17, 18, 19]] mixed kQ (.g0 (.mv Y Y (.nf Y Y Y CT (.kv Y (.fieldAddr Y G0) (.kv Y (.ld Y NH) (.mv Y Y (.nf Y Y Y CT (.kv Y (.fieldAddr Y DM) (.kv Y (.ld Y AR) (.mv Y Y (.kv Y (.as (v' := AA (k1 : Nat)) (by congr 1; omega) (.sub Y Y om)) (.mv Y Y (.nf Y Y Y CT (.kv Y (.fieldAddr Y DM) (.kv Y (.ld Y AR) (.kv Y (.to (v' := .slice (some (if rc3 = k1 then ⟨ra3, 0, none⟩ else ⟨ra3, 0 + k1 * 1, none⟩)) (k1 + n - k1) (rc3 - k1)) (.slSlice (i := (k1 : Int)) (j := ((k1 + n : Nat) : Int)) Y KX (by exact rfl) (by exact rfl) om) (by simp only [Int.toNat_natCast])) ?_)))))))))))))))))))
 refine D.kv Y (.bytesBy (cs := (s.take (k1 + n)).drop k1) (n := ((s.take (k1 + n)).drop k1).length) (p := NA (.slice (some ⟨ra3, 0, none⟩) s.length rc3) s) Y underlying181 underlying5 underlying9 (fun h hp => AAY om om hp) O) (.kv Y (.assign Y) (.pf (.ret (.rdFold (r := r) s (k1 + n) (e1) O (by first | rfl | (simp only [List.set]; congr; omega)) om hsz ?_))))
 rw [hr2]
 exact .dn Y Y ⟨k1 + n, e1, hr1, Y, Y⟩
theorem AB8 {s : Bs} {k : Nat} {e : Int} (h : k < s.length) : (if e = 0 then (11 : Int) else e) = 0 ↔ E0 s k e = some [] := by
 have hl : (s.drop k).length = s.length - k := length_drop
 unfold E0
 split
 ·refine ⟨fun g => absurd g dQ, fun g => ?_⟩
  rw [Option.some.inj g] at hl; simp at hl; omega
 ·rename_i g; exact ⟨fun q => absurd q g, fun q => by cases q⟩
theorem ABy {s : Bs} {k : Nat} {e : Int} (h : s.length ≤ k) : e = 0 ↔ E0 s k e = some [] := by
 unfold E0
 split
 ·rename_i g; exact ⟨fun _ => by rw [drop_eq_nil_of_le h], fun _ => g⟩
 ·rename_i g; exact ⟨fun q => absurd q g, fun q => by cases q⟩
theorem SB (r : Nat) (s : Bs) (k : Nat) (e : Int) : Fn prog 115 #[AI r] [Ke r s k e] fun v L => ∃ e1, (e1 = 0 ↔ E0 s k e = some []) ∧ v = AA e1 ∧ L = [Ke r s k e1] := by
 refine Fn.intro func115 Y Y fun F W => ?_
 refine .rdOpen O fun ra rc hkl hsz => (.rdFold (r := r) s (k) (e) O (by first | rfl | (simp only [List.set]; congr; omega)) om hsz (.sr (.an Y (.seq (.sm Y (.nf Y CT (.cv func183 [_] (I4 r s k e) ?_)))))))
 refine .ui Y Y Y (.nt (.condD Y (fun h7 => ?_) (fun h7 => ?_)))
 ·refine .region (.m Y (.cv func184 [_] (TA r s k e) ?_))
  refine .nt (.seq (.rdOpen O fun ra3 rc3 _ _ => (.region (.m Y (.nf Y Gd (.u (.ld Y Ey) (.an Y (.ret (.rdFold (r := r) s (k) (if e = 0 then 11 else e) O (by first | rfl | (simp only [List.set]; congr; omega)) om hsz ?_)))))))))
  exact .dn Y Y ⟨_, AB8 om, Y, Y⟩
 refine .sk (.seq (.rdOpen O fun ra3 rc3 _ _ => (.region (.m Y (.nf Y Gd (.u (.ld Y Ey) (.an Y (.ret (.rdFold (r := r) s (k) (e) O (by first | rfl | (simp only [List.set]; congr; omega)) om hsz ?_)))))))))
 exact .dn Y Y ⟨_, ABy om, Y, Y⟩
theorem R0 (s : Bs) (hs : s.length ≤ 70368744177664) : Fn prog 114 #[AD s] [] fun v L => ∃ r, v = AI r ∧ L = [Ic r (some s)] := by
 refine Fn.intro func114 Y Y fun F W => ?_
 refine .sr (.an Y (.sm Y (.oq (.strBytes Y underlying9 underlying181 underlying5) ?_)))
 rintro v L' ⟨rfl, b8, c8, rfl⟩
 refine .q (.to (v' := .agg [.slice (some ⟨b8, 0, none⟩) s.length c8, AA 0].toArray) (.build (us := [(0, _)]) AA6 ABZ Y Y (by simp [AB])) Y) Y (.q (.to (v' := .agg [.slice (some ⟨b8, 0, none⟩) s.length c8, AA 0, AA 0].toArray) (.buildN (pl := [(0, 2), (2, 1)]) (us := [(0, _)]) (cells := [.slice (some ⟨b8, 0, none⟩) s.length c8, AA 0, AA 0]) underlying246 kQ ABC Y Y) Y) Y (.oq (.box Y) ?_))
 rintro v L' ⟨r, rfl, rfl⟩
 refine .an Y (.ret (.rdFold (r := r) s 0 0 O Y (Nat.zero_le _) hs (.rdUpF (r := r) (st := some s) O Y ?_)))
 exact .dn Y Y ⟨r, Y, Y⟩
theorem V1 (r : Nat) (st : Rs) : Fn prog 185 #[AI r] [Ic r st] fun v L => v = AA (CN 0 MX st).1 ∧ L = [Ic r (CN 0 MX st).2] := Fn.rdUp (v := AA) (fun s k e => S8 r s k e) st
theorem LP (r most : Nat) (hm : most ≤ 70368744177664) (st : Rs) : Fn prog 189 #[AI r, AA most] [Ic r st] fun v L => v = AA ((CN 0 (FI most) st).1 : Nat) ∧ L = [Ic r (CN 0 (FI most) st).2] := Fn.rdUp (v := fun n : Nat => AA n) (fun s k e => Jk r most hm s k e) st
theorem TV (r most : Nat) (hm : most ≤ 70368744177664) (st : Rs) : Fn prog 234 #[AI r, AA most] [Ic r st] fun v L => v = AD (CN [] (I2 most) st).1 ∧ L = [Ic r (CN [] (I2 most) st).2] := Fn.rdUp (v := AD) (fun s k e => Q9 r most hm s k e) st
theorem U8 (r : Nat) (st : Rs) : Fn prog 115 #[AI r] [Ic r st] fun v L => ∃ e1, (e1 = 0 ↔ st = some []) ∧ v = AA e1 ∧ ∃ st', L = [Ic r st'] := Fn.rdEnd (fun s k e => SB r s k e) st
def Pt.wa (y : Pt) (v : Value) : Pt := ⟨y.kind, y.path, y.data, v, y.acl, y.own, y.num, y.err, y.subsV⟩
def Pt.ws (y : Pt) (v : Value) : Pt := ⟨y.kind, y.path, y.data, y.aclV, y.acl, y.own, y.num, y.err, v⟩
def aclR (y : Pt) : HP := Ad 75 2 y.aclV y.acl.length (y.acl.flatMap CP)
def AAc (e : En) : HP := Ad 60 8 e.x.subsV e.subs.length (e.subs.flatMap A1)
def entR (e : En) : HP := CD [aclR e.x, AAc e, Ah aclR e.subs]
structure PtW (p : HP) (y : Pt) : Prop where
 i : PtI y
 acl : ∀ h : Hp, p h → Cx 2 h y.aclV y.acl.length (y.acl.flatMap CP)
structure EnW (p : HP) (e : En) : Prop where
 i : EnI e
 acl : ∀ h : Hp, p h → Cx 2 h e.x.aclV e.x.acl.length (e.x.acl.flatMap CP)
 subs : ∀ h : Hp, p h → Cx 8 h e.x.subsV e.subs.length (e.subs.flatMap A1)
 each : ∀ y ∈ e.subs, ∀ h : Hp, p h → Cx 2 h y.aclV y.acl.length (y.acl.flatMap CP)
theorem EnW.x {p : HP} {e : En} (h : EnW p e) : PtW p e.x := ⟨h.i.x, h.acl⟩
theorem EnW.sub {p : HP} {e : En} (h : EnW p e) {y : Pt} (hy : y ∈ e.subs) : PtW p y := ⟨h.i.subs y hy, h.each y hy⟩
theorem Te {α : Type} (f : α → Bs) (l : List α) (j : Nat) : ((l.take j).flatMap f).length ≤ (l.flatMap f).length := by
 conv => rhs; rw [← take_append_drop j l]
 rw [flatMap_append, length_append]; omega
theorem Lm {α : Type} (f : α → Bs) {l : List α} {j : Nat} (hj : j < l.length) : (l.take (j + 1)).flatMap f = (l.take j).flatMap f ++ f l[j] := by
 rw [take_succ_eq_append_getElem hj, flatMap_append]; simp
theorem Rv {α : Type} (f : α → Bs) {l : List α} {j : Nat} (hj : j < l.length) : ((l.take j).flatMap f).length + (f l[j]).length ≤ (l.flatMap f).length := by
 have := Te f l (j + 1)
 rw [Lm f hj, length_append] at this
 exact this
theorem MU {α : Type} (f : Rn α) (st : Rs) : ∀ n, (A5 f n st).1.length = n
 | 0 => rfl
 | n + 1 => by show ((A5 f n st).1 ++ [_]).length = n + 1; rw [length_append, MU f st n]; rfl
theorem UB (st : Rs) : (Po st).1 ≤ 256 := by
 unfold Po CN
 split
 ·exact Nat.zero_le _
 ·split
  ·rename_i x hx; exact (Xp hx).2
  ·exact Nat.zero_le _
theorem ZR {p : HP} {h : Hp} (hp : p h) : CD [p] h := ⟨h, fun _ => none, fun _ => .inr rfl, fun _ _ e => e, fun _ _ e => (by cases e), hp, trivial⟩
theorem Zn {b : Nat} {l : List Value} {T : TypeId} {h : Hp} (hp : CD [Ae b l T] h) : Ae b l T h := GD hp
theorem AAJ {α : Type} {f : α → HP} {l : List α} {y : α} {h : Hp} (hs : CD [f y, Ah f l] h) : Ah f (l ++ [y]) h :=
 Ht (perm_append_comm (l₁ := [y])) (FL hs)
section
variable {P : Program} {W : World} {n : Nat} {ds : List Deferred} {E : B0} {L R : List HP} {X : Act → World → Prop} {ty : TypeId}
theorem G.bigAdd {α : Type} {f : α → HP} {l : List α} (y : α) {p : HP} (hp : p = f y) (hL : BC [p, Ah f l] L R) (h : G W n ds E (Ah f (l ++ [y]) :: R) X) : G W n ds E L X := by
 subst hp
 exact G.fold hL (fun w hw => AAJ hw) h
theorem G.wrCast {w : Nat} {bs bs' : Bs} (hL : BI (Ij w bs) L R) (hb : bs = bs') (h : G W n ds E (Ij w bs' :: R) X) : G W n ds E L X := by
 subst hb; exact G.perm hL.perm h
theorem AP.inL {o : Oper} {p p' q : HP} (h : AP P o E [p] fun _ L' => L' = [p']) : AP P o E [CD [p, q]] fun _ L' => L' = [CD [p', q]] := by
 intro ρ w F ha hs
 have hs' : St ([p] ++ ([q] ++ F)) w := FE (L1 := [p, q]) hs
 refine (h ρ w _ ha hs').mono ?_
 rintro v w' ⟨L', rfl, hs2, hk⟩
 exact ⟨_, rfl, F5 (L1 := [p', q]) hs2, hk⟩
theorem AP.inR {o : Oper} {p q q' : HP} (h : AP P o E [q] fun _ L' => L' = [q']) : AP P o E [CD [p, q]] fun _ L' => L' = [CD [p, q']] := by
 intro ρ w F ha hs
 have hs1 : St (p :: q :: F) w := FE (L1 := [p, q]) hs
 have hs' : St ([q] ++ ([p] ++ F)) w := Ek hs1
 refine (h ρ w _ ha hs').mono ?_
 rintro v w' ⟨L', rfl, hs2, hk⟩
 exact ⟨_, rfl, F5 (L1 := [p, q']) (Ek hs2), hk⟩
end
def Jf (a : Nat × Nat) : Value := .pointer (some ⟨a.1, a.2, none⟩)
/-! ### Wishes -/
structure Rq where
 kind : Int
 xid : Int
 path : Bs
 data : Bs
 aclV : Value
 acl : List Ac
 flags : Int
 ver : Int
 watch : Bool
 subsV : Value
 armV : Value
def D6 (r : Rq) : List Value := [AA r.kind, AA r.xid, AD r.path, AD r.data, r.aclV, AA r.flags, AA r.ver, .bool r.watch, r.subsV, r.armV]
structure RqA (p : HP) (r : Rq) : Prop where
 kind : A4 r.kind
 xid : A4 r.xid
 flags : A4 r.flags
 ver : A4 r.ver
 path : r.path.length ≤ 1048566
 data : r.data.length ≤ 1048576
 acl : ∀ h : Hp, p h → Cx 2 h r.aclV r.acl.length (r.acl.flatMap CP)
 many : r.acl.length ≤ 1048576
 ids : ∀ a ∈ r.acl, A4 a.1 ∧ a.2.length ≤ 1048576
 sub : ∃ a n c, r.subsV = .slice a n c
 arm : ∃ a n c, r.armV = .slice a n c
def FP : Pt := ⟨0, [], [], AG, [], 0, 0, 0, AG⟩
structure B4 where
 ses : Int
 ids : List Bs
def Ft (p : Bs) (n : Int) : Bs := p ++ ((List.replicate 10 (48 : UInt8) ++ Lib.itoa (max n 0)).drop (Lib.itoa (max n 0)).length)
abbrev Ai (b : Prop) [Decidable b] (e : Int) : Int := if b then e else 0
def Hj (τ : Tr) (ids : List Bs) (p : Bs) (perm : Int) : Prop := AQ τ p ∧ We (Dn τ p) perm ids = true
instance (τ : Tr) (ids : List Bs) (p : Bs) (perm : Int) : Decidable (Hj τ ids p perm) := inferInstanceAs (Decidable (_ ∧ _))
def JA (τ : Tr) (r : Rq) : LN := AU τ (AL r.path)
def B3 (τ : Tr) (r : Rq) : Bs := if andI r.flags 2 ≠ 0 then Ft r.path (JA τ r).cver else r.path
def Ar (τ : Tr) (u : B4) (r : Rq) : Pt := ⟨1, B3 τ r, r.data, AG, r.acl, if andI r.flags 1 ≠ 0 then u.ses else 0, C1 ((JA τ r).cver + 1), 0, AG⟩
def Dp (τ : Tr) (u : B4) (r : Rq) : List Int :=
  [BG r.path, Ai (r.data.length > 100 ∨ r.flags < 0 ∨ r.flags > 3) 1, Ai (¬ FW r.acl = true) 50, Ai (¬ AQ τ (AL r.path)) 60, Ai ((JA τ r).own ≠ 0) 63,
   Ai (¬ Hj τ u.ids (AL r.path) 4) 65, Ai (BG (B3 τ r) ≠ 0) 41, Ai (AQ τ (B3 τ r)) 61, Ai ((AS τ).length ≥ 64) 64, Ai (andI r.flags 1 ≠ 0 ∧ (AF τ u.ses).length ≥ 32) 64]
def EA (τ : Tr) (r : Rq) : Pt := ⟨2, r.path, [], AG, [], 0, C1 ((JA τ r).cver + 1), 0, AG⟩
def GX (τ : Tr) (u : B4) (r : Rq) : List Int :=
 [BG r.path, Ai (r.path = [47]) 1, Ai (¬ AQ τ r.path) 60, Ai (¬ Hj τ u.ids (AL r.path) 8) 65, Ai (r.ver ≠ -1 ∧ r.ver ≠ (AU τ r.path).ver) 66, Ai ((AU τ r.path).kids > 0) 62]
def Eh (r : Rq) : Int := if r.kind = 3 then Ai (r.data.length > 100) 1 else if r.kind = 4 then Ai (¬ FW r.acl = true) 50 else 0
def OL (k : Int) : Int := if k = 3 then 2 else if k = 4 then 16 else 1
def C5 (k : Int) (s : LN) : Int := if k = 4 then s.av else s.ver
def J3 (τ : Tr) (u : B4) (r : Rq) : List Int :=
 [BG r.path, Eh r, Ai (¬ AQ τ r.path) 60, Ai (¬ Hj τ u.ids r.path (OL r.kind)) 65, Ai (r.ver ≠ -1 ∧ r.ver ≠ C5 r.kind (AU τ r.path)) 66]
def FJ (τ : Tr) (r : Rq) : Pt :=
 if r.kind = 3 then ⟨3, r.path, r.data, AG, [], 0, C1 (C5 3 (AU τ r.path) + 1), 0, AG⟩
 else if r.kind = 4 then ⟨4, r.path, [], AG, r.acl, 0, C1 (C5 4 (AU τ r.path) + 1), 0, AG⟩ else FP
def AV (τ : Tr) (u : B4) (r : Rq) : Pt × Int :=
 if r.kind = 1 then (Ar τ u r, B2 (Dp τ u r)) else if r.kind = 2 then (EA τ r, B2 (GX τ u r))
 else if r.kind = 3 ∨ r.kind = 4 ∨ r.kind = 5 then (FJ τ r, B2 (J3 τ u r)) else (FP, 110)
def Ax (e n : Int) : Pt := ⟨8, [], [], AG, [], 0, n, e, AG⟩
def Bd (u : B4) : List Rq → Tr → Tr × List Pt × Option (Nat × Int)
  | [], τ => (τ, [], none)
  | r :: l, τ => if (AV τ u r).2 ≠ 0 then (τ, [], some (0, (AV τ u r).2))
    else ((Bd u l (AC τ τ.zx (AV τ u r).1 []).1).1, (AV τ u r).1 :: (Bd u l (AC τ τ.zx (AV τ u r).1 []).1).2.1, (Bd u l (AC τ τ.zx (AV τ u r).1 []).1).2.2.map fun x => (x.1 + 1, x.2))
def A6 (τ : Tr) (u : B4) (l : List Rq) : Pt × List Pt :=
 if l.length = 0 ∨ l.length > 8 then (Ax 1 (-1), []) else match (Bd u l τ).2.2 with
  | some (i, e) => (Ax e i, [])
  | none => (⟨7, [], [], AG, [], 0, 0, 0, AG⟩, (Bd u l τ).2.1)
def CH (τ : Tr) (p : Bs) : Pt := ⟨2, p, [], AG, [], 0, C1 ((AU τ (AL p)).cver + 1), 0, AG⟩
def A0 : List Bs → Tr → List Pt
 | [], _ => []
 | p :: l, τ => CH τ p :: A0 l (AC τ τ.zx (CH τ p) []).1
def Cz (τ : Tr) (s : Int) : Pt × List Pt := (⟨6, [], [], AG, [], s, 0, 0, AG⟩, A0 (AF τ s).reverse τ)
def Ba (k : Int) : Bool := decide (1 ≤ k) && decide (k ≤ 8) && !decide (k = 5)
def Cn (τ : Tr) (u : B4) (r : Rq) (subs : List Rq) : Pt × List Pt :=
 if ¬ Ba r.kind = true then (Ax 110 (-1), []) else if ¬ CF τ u.ses then (Ax 67 (-1), [])
 else if r.kind = 6 then A6 τ u subs else if r.kind = 7 then (FP, []) else if r.kind = 8 then Cz τ u.ses
 else if (AV τ u r).2 ≠ 0 then (Ax (AV τ u r).2 (-1), []) else ((AV τ u r).1, [])
end Go.Proofs.YtmbnebafdhpgpaaGreatDoor
/-
 DERIVED: THE SHELF's CONTRACTS AT THIS DUMP, IN PLAIN WORDS (tools/lay-plain.mjs out of 'YtmbnebafdhpgpaaGreatDoorLayP.lean', which tools/lay-shelf.mjs wrote): THE SAME DECLARATIONS UNDER THE SAME NAMES: 'import', 'namespace', 'open', 'def', 'theorem' AND NOTHING ELSE: no command of the shelf's: FOR A HAND-IN. Each laying: the table of numbers ('.._ren') and one theorem, a field a fact of the dump's own or the kernel's comparison; each GB: ONE APPLICATION.
-/
namespace Go.Proofs
open Go List Go.Proofs.Tryz Go.Shelf
def Tryz.itoaA_ren : Go.Shelf.Ren := ⟨fun | 171 => 217 | 243 => 248 | 246 => 276 | 283 => 224 | 284 => 225 | 285 => 226 | 286 => 227 | 129 => 207 | 317 => 256 | 318 => 257 | 319 => 258 | 320 => 259 | 337 => 282 | 338 => 283 | n => n, fun | 3 => 3 | 9 => 9 | 2 => 2 | 4 => 4 | 171 => 279 | 0 => 0 | 53 => 180 | 37 => 181 | 5 => 5 | 173 => 281 | 212 => 306 | 51 => 219 | 20 => 20 | 213 => 307 | 46 => 160 | 232 => 326 | 233 => 327 | n => n, fun | 17 => 1 | 18 => 2 | 19 => 3 | n => n⟩
theorem Tryz.itoaA : Go.Proofs.LaysM.n171 prog Tryz.itoaA_ren := {
 mixed := by kernel_rfl
 f129 := func207.trans (congrArg some (by kernel_rfl))
 f171 := func217.trans (congrArg some (by kernel_rfl))
 f243 := func248.trans (congrArg some (by kernel_rfl))
 f246 := func276.trans (congrArg some (by kernel_rfl))
 f283 := func224.trans (congrArg some (by kernel_rfl))
 f284 := func225.trans (congrArg some (by kernel_rfl))
 f285 := func226.trans (congrArg some (by kernel_rfl))
 f286 := func227.trans (congrArg some (by kernel_rfl))
 f317 := func256.trans (congrArg some (by kernel_rfl))
 f318 := func257.trans (congrArg some (by kernel_rfl))
 f319 := func258.trans (congrArg some (by kernel_rfl))
 f320 := func259.trans (congrArg some (by kernel_rfl))
 f337 := func282.trans (congrArg some (by kernel_rfl))
 f338 := func283.trans (congrArg some (by kernel_rfl))
 t0 := underlying0
 a0 := Tryz.isAgg0
 z0 := Tryz.sizeOf0
 v0 := Tryz.zeroValue0
 t2 := underlying2
 a2 := Tryz.isAgg2
 z2 := Tryz.sizeOf2
 v2 := Tryz.zeroValue2
 t3 := underlying3
 a3 := Tryz.isAgg3
 z3 := Tryz.sizeOf3
 v3 := Tryz.zeroValue3
 t4 := underlying4
 a4 := Tryz.isAgg4
 z4 := Tryz.sizeOf4
 v4 := Tryz.zeroValue4
 t5 := underlying5
 a5 := Tryz.isAgg5
 z5 := Tryz.sizeOf5
 v5 := Tryz.zeroValue5
 t9 := underlying9
 a9 := Tryz.isAgg9
 z9 := Tryz.sizeOf9
 v9 := Tryz.zeroValue9
 t20 := underlying20
 a20 := Tryz.isAgg20
 z20 := Tryz.sizeOf20
 v20 := Tryz.zeroValue20
 t37 := underlying181
 a37 := Tryz.isAgg181
 z37 := Tryz.sizeOf181
 v37 := Tryz.zeroValue181
 t46 := underlying160
 a46 := Tryz.isAgg160
 z46 := Tryz.sizeOf160
 v46 := Tryz.zeroValue160
 t51 := underlying219
 a51 := Tryz.isAgg219
 z51 := Tryz.sizeOf219
 v51 := Tryz.zeroValue219
 t53 := underlying180
 a53 := Tryz.isAgg180
 z53 := Tryz.sizeOf180
 v53 := Tryz.zeroValue180
 t171 := underlying279
 a171 := Tryz.isAgg279
 z171 := Tryz.sizeOf279
 v171 := Tryz.zeroValue279
 t173 := underlying281
 a173 := Tryz.isAgg281
 z173 := Tryz.sizeOf281
 v173 := Tryz.zeroValue281
 t212 := underlying306
 a212 := Tryz.isAgg306
 z212 := Tryz.sizeOf306
 v212 := Tryz.zeroValue306
 t213 := underlying307
 a213 := Tryz.isAgg307
 z213 := Tryz.sizeOf307
 t232 := underlying326
 a232 := Tryz.isAgg326
 z232 := Tryz.sizeOf326
 v232 := Tryz.zeroValue326
 t233 := underlying327
 a233 := Tryz.isAgg327
 z233 := Tryz.sizeOf327
 v233 := Tryz.zeroValue327
 g17 := by kernel_rfl
 g18 := by kernel_rfl
 g19 := by kernel_rfl
 i0 := by kernel_rfl
 i2 := by kernel_rfl
 i3 := by kernel_rfl
 i4 := by kernel_rfl
 i5 := by kernel_rfl
 i9 := by kernel_rfl
 i20 := by kernel_rfl
 i37 := by kernel_rfl
 i46 := by kernel_rfl
 i51 := by kernel_rfl
 i53 := by kernel_rfl
 i171 := by kernel_rfl
 i173 := by kernel_rfl
 i212 := by kernel_rfl
 i232 := by kernel_rfl
 i233 := by kernel_rfl
 m17 := by kernel_rfl
 m18 := by kernel_rfl
 m19 := by kernel_rfl }
def Tryz.repeatA_ren : Go.Shelf.Ren := ⟨fun | 105 => 96 | 212 => 77 | 99 => 175 | 165 => 176 | 166 => 177 | 170 => 178 | 169 => 179 | 263 => 136 | 264 => 137 | 206 => 228 | 240 => 229 | 241 => 230 | 276 => 260 | 277 => 261 | n => n, fun | 9 => 9 | 3 => 3 | 4 => 4 | 20 => 20 | 0 => 0 | 46 => 160 | 109 => 161 | 5 => 5 | 72 => 237 | 76 => 240 | 51 => 219 | 146 => 220 | 53 => 180 | 148 => 222 | 70 => 235 | 37 => 181 | 75 => 239 | 127 => 283 | 164 => 308 | 80 => 209 | n => n, fun | n => n⟩
theorem Tryz.repeatA : Go.Proofs.Lays.n105 prog Tryz.repeatA_ren := {
 mixed := by kernel_rfl
 f99 := func175.trans (congrArg some (by kernel_rfl))
 f105 := func96.trans (congrArg some (by kernel_rfl))
 f165 := func176.trans (congrArg some (by kernel_rfl))
 f166 := func177.trans (congrArg some (by kernel_rfl))
 f169 := func179.trans (congrArg some (by kernel_rfl))
 f170 := func178.trans (congrArg some (by kernel_rfl))
 f206 := func228.trans (congrArg some (by kernel_rfl))
 f212 := func77.trans (congrArg some (by kernel_rfl))
 f240 := func229.trans (congrArg some (by kernel_rfl))
 f241 := func230.trans (congrArg some (by kernel_rfl))
 f263 := func136.trans (congrArg some (by kernel_rfl))
 f264 := func137.trans (congrArg some (by kernel_rfl))
 f276 := func260.trans (congrArg some (by kernel_rfl))
 f277 := func261.trans (congrArg some (by kernel_rfl))
 t0 := underlying0
 a0 := Tryz.isAgg0
 z0 := Tryz.sizeOf0
 v0 := Tryz.zeroValue0
 t3 := underlying3
 a3 := Tryz.isAgg3
 z3 := Tryz.sizeOf3
 v3 := Tryz.zeroValue3
 t4 := underlying4
 a4 := Tryz.isAgg4
 z4 := Tryz.sizeOf4
 v4 := Tryz.zeroValue4
 t5 := underlying5
 a5 := Tryz.isAgg5
 z5 := Tryz.sizeOf5
 v5 := Tryz.zeroValue5
 t9 := underlying9
 a9 := Tryz.isAgg9
 z9 := Tryz.sizeOf9
 v9 := Tryz.zeroValue9
 t20 := underlying20
 a20 := Tryz.isAgg20
 z20 := Tryz.sizeOf20
 v20 := Tryz.zeroValue20
 t37 := underlying181
 a37 := Tryz.isAgg181
 z37 := Tryz.sizeOf181
 v37 := Tryz.zeroValue181
 t46 := underlying160
 a46 := Tryz.isAgg160
 z46 := Tryz.sizeOf160
 v46 := Tryz.zeroValue160
 t51 := underlying219
 a51 := Tryz.isAgg219
 z51 := Tryz.sizeOf219
 v51 := Tryz.zeroValue219
 t53 := underlying180
 a53 := Tryz.isAgg180
 z53 := Tryz.sizeOf180
 v53 := Tryz.zeroValue180
 t70 := underlying235
 a70 := Tryz.isAgg235
 z70 := Tryz.sizeOf235
 v70 := Tryz.zeroValue235
 t72 := underlying237
 a72 := Tryz.isAgg237
 z72 := Tryz.sizeOf237
 v72 := Tryz.zeroValue237
 t75 := underlying239
 a75 := Tryz.isAgg239
 z75 := Tryz.sizeOf239
 v75 := Tryz.zeroValue239
 t76 := underlying240
 a76 := Tryz.isAgg240
 z76 := Tryz.sizeOf240
 v76 := Tryz.zeroValue240
 t109 := underlying161
 a109 := Tryz.isAgg161
 z109 := Tryz.sizeOf161
 v109 := Tryz.zeroValue161
 t127 := underlying283
 a127 := Tryz.isAgg283
 z127 := Tryz.sizeOf283
 v127 := Tryz.zeroValue283
 t146 := underlying220
 a146 := Tryz.isAgg220
 z146 := Tryz.sizeOf220
 v146 := Tryz.zeroValue220
 t148 := underlying222
 a148 := Tryz.isAgg222
 z148 := Tryz.sizeOf222
 v148 := Tryz.zeroValue222
 t164 := underlying308
 a164 := Tryz.isAgg308
 z164 := Tryz.sizeOf308
 v164 := Tryz.zeroValue308 }
end Go.Proofs
namespace Go.Proofs.YtmbnebafdhpgpaaGreatDoor
open Go List Go.Proofs.Tryz Go.RowKit Go.Sort Go.Shelf
def Gr (p : HP) : Prop := ∀ (h : Hp) (w : World), p h → (∀ b o, h b = some o → w.heap[b]? = some o) → Lib.TabIs prog w "internal/strconv.uint64pow10" .u64 Lib.pow10Tab
theorem Vc (p : HP) (hT : Gr p) (n : Int) (hn : A4 n) : Fn prog 217 #[AA n] [p] fun v L => v = AD (Lib.itoa n) ∧ L = [p] := by
 intro F w hs
 obtain ⟨h1, hle, hp⟩ := Ap (show CD (p :: F) _ from hs)
 refine (Any.strconv_Itoa Tryz.itoaA n hn.1 hn.2 w (hT h1 w hp hle)).mono ?_
 rintro e w' ⟨rfl, k, os, rfl⟩
 have hb : Below w.heap.size w (Sort.grow (w.drewN k) os) := ⟨rfl, rfl, rfl, by simp [Sort.grow, World.drewN], fun b hb => by
  show (w.heap ++ os)[b]? = _
  rw [Array.getElem?_append_left hb]⟩
 exact ⟨_, _, ⟨rfl, rfl⟩, rfl, hs.below hb, Au.below hb⟩
theorem Xs (n : Int) (hn : 0 ≤ n ∧ n ≤ 9223372036854775807) : (Lib.itoa n).length ≤ 20 := by
 unfold Lib.itoa
 rw [if_neg om]
 have key : ∀ (k u : Nat), u < 10 ^ (k + 1) → (Lib.decDigits u).length ≤ k + 1 := by
  intro k
  induction k with
  | zero => intro u h; rw [Lib.decDigits, dif_pos om]; simp
  | succ k ih =>
   intro u h
   rw [Lib.decDigits]
   split
   ·simp
   ·rw [length_append, length_singleton]
    have := ih (u / 10) (by rw [Nat.div_lt_iff_lt_mul dQ]; rw [Nat.pow_succ] at h; exact h)
    omega
 exact key 19 _ om
theorem Tk : Builder.Extra prog Tryz.repeatA_ren where
 sizeBuilder := by kernel_rfl
 liesBuilder := by kernel_rfl
 t5 := underlying5
 a5 := Tryz.isAgg5
 z5 := Tryz.sizeOf5
 v5 := Tryz.zeroValue5
 infoByte := by kernel_rfl
 cellsByte := by kernel_rfl
 sizeByte := by kernel_rfl
 neB5 := by decide
theorem QV : Fn prog 96 #[AD [48], AA 10] [] fun v L => v = AD (List.replicate 10 48) ∧ L = [] := by
 intro F w hs
 refine (Any.strings_Repeat Tryz.repeatA Tk (bs [48]) 10 w dQ dQ).mono ?_
 rintro e w' ⟨rfl, hb⟩
 exact ⟨_, _, ⟨by kernel_rfl, rfl⟩, rfl, hs.below hb, Au.below hb⟩
theorem CA.share {P : Program} {f : FuncId} {fn : Func} {c : Code} {us vs ws : List Value} {pre Q R : List HP} {φ : Value → Prop} (hf : P.funcs[f]? = some fn) (hb : fn.body = some c) (hn : (fn.name == "runtime.NumGoroutine") = false)
  (hp : BC pre Q R) (h : Fn P f (us ++ vs ++ ws).toArray pre fun v L => φ v ∧ L = pre) : CA P (.func (.func f) us.toArray ws.toArray) vs [CD Q] (fun v L => φ v ∧ L = [CD Q]) := by
 refine CA.of hf hb hn ?_
 intro F w hs
 obtain ⟨h1, h2, hd, a1, a2, hq, hF⟩ := hs
 have hs' : St (Q ++ F) w := NF hd a1 a2 hq hF
 have hs2 : St (pre ++ (R ++ F)) w := by have := C6 (hp.perm.append_right F) hs'; rwa [append_assoc] at this
 refine (h (R ++ F) w hs2).mono ?_
 rintro e w' ⟨v, L, ⟨hv, hL⟩, he, hs3, hk⟩
 rw [hL] at hs3
 have hs4 : St ((pre ++ R) ++ F) w' := by rw [append_assoc]; exact hs3
 exact ⟨v, _, ⟨hv, rfl⟩, he, F5 (C6 (hp.perm.append_right F).symm hs4), hk⟩
theorem Fn.unpack {P : Program} {f : FuncId} {args : Array Value} {p : HP} {q : List HP} {φ : Value → Prop} (h : Fn P f args [p, CD q] fun v L => φ v ∧ L = [p, CD q]) : Fn P f args (p :: q) fun v L => φ v ∧ L = p :: q := by
 intro F w hs
 obtain ⟨h1, h2, hd, a1, a2, hp, hF⟩ := hs
 have hs' : St ([p, CD q] ++ F) w := ⟨h1, h2, hd, a1, a2, hp, F5 hF⟩
 refine (h F w hs').mono ?_
 rintro e w' ⟨v, L, ⟨hv, rfl⟩, he, hs2, hk⟩
 obtain ⟨g1, g2, gd, c1, c2, gp, gF⟩ := hs2
 exact ⟨v, _, ⟨hv, rfl⟩, he, ⟨g1, g2, gd, c1, c2, gp, FE gF⟩, hk⟩
theorem AK.andI {P : Program} {E : B0} {L : List HP} {ty : TypeId} {t t' : TypeId} {x y : Operand} {a b : Int} (hx : ev E x = some (.int .i64 a)) (hy : ev E y = some (.int .i64 b)) :
  AK P ⟨none, .binOp .and t x y t', ty, "", #[], none⟩ E L (AA (andI a b)) := AK.and hx hy
theorem AK.addW {P : Program} {E : B0} {L : List HP} {ty : TypeId} {t t' : TypeId} {x y : Operand} {a b : Int} (hx : ev E x = some (.int .i64 a)) (hy : ev E y = some (.int .i64 b)) :
  AK P ⟨none, .binOp .add t x y t', ty, "", #[], none⟩ E L (AA (C1 (a + b))) := AK.int hx hy rfl
theorem PJ (p : Bs) (n : Int) : (Ft p n).length ≤ p.length + 10 := by
 unfold Ft
 rw [length_append, length_drop, length_append, length_replicate]; omega
def CE (x : Pt) (w : Value) : Pt := ⟨x.kind, x.path, x.data, w, x.acl, x.own, x.num, x.err, x.subsV⟩
def CM (t : Nat) (u : B4) (iv : Value) (r : Rq) : List Value := AI t :: AA u.ses :: iv :: D6 r
structure Dr (p : HP) (u : B4) (iv : Value) (r : Rq) : Prop where
 rq : RqA p r
 ses : A4 u.ses
 ids : ∀ h : Hp, p h → Cx 1 h iv u.ids.length (Ao u.ids)
 few : u.ids.length ≤ 1048576
 shape : ∃ a n c, iv = .slice a n c
 ashape : ∃ a n c, r.aclV = .slice a n c
 tab : Gr p
theorem Dr.cells {p : HP} {u : B4} {iv : Value} {r : Rq} (h : Dr p u iv r) (t : Nat) : (CM t u iv r).all AB = true := by
 obtain ⟨a, n, c, e1⟩ := h.shape
 obtain ⟨a2, n2, c2, e2⟩ := h.ashape
 obtain ⟨a3, n3, c3, e3⟩ := h.rq.sub
 obtain ⟨a4, n4, c4, e4⟩ := h.rq.arm
 simp [CM, D6, e1, e2, e3, e4, AB]
theorem OS {p : HP} {u : B4} {iv : Value} {r : Rq} (h : Dr p u iv r) (τ : Tr) : (B3 τ r).length ≤ 1048576 := by
 have := h.rq.path
 unfold B3
 split
 ·have := PJ r.path (JA τ r).cver; omega
 ·omega
theorem WM {τ : Tr} {N : Nat} (ho : τ.Ok N) (q : Bs) : (Dn τ q).length ≤ 1048576 := by
 unfold Dn
 rcases hl : AE τ.nodes q with _ | x
 ·simp
 ·exact ho.acls _ (EG hl)
theorem Qa {τ : Tr} {q : Bs} (h : (if AQ τ q then (0 : Int) else 60) = 0) : AQ τ q := by
 rcases Decidable.em (AQ τ q) with g | g
 ·exact g
 ·rw [if_neg g] at h; omega
theorem Of {τ : Tr} {q : Bs} (h : ¬ (if AQ τ q then (0 : Int) else 60) = 0) : ¬ AQ τ q := fun g => h (if_pos g)
theorem Nk (p : HP) (hT : Gr p) (s : Bs) (n : Int) (hs : s.length ≤ 1099511627776) (hn : A4 n) : Fn prog 142 #[AD s, AA n] [p] fun v L => v = AD (Ft s n) ∧ L = [p] := by
 refine Fn.intro func142 Y Y fun F W => ?_
 have hcd : ((List.replicate 10 (48 : UInt8) ++ Lib.itoa (max n 0)).drop (Lib.itoa (max n 0)).length).length ≤ 10 := by rw [length_drop, length_append, length_replicate]; omega
 have hlen := Xs (max n 0) (by unfold A4 at hn; omega)
 have hcl : (List.replicate 10 (48 : UInt8) ++ Lib.itoa (max n 0)).length = (Lib.itoa (max n 0)).length + 10 := by rw [length_append, length_replicate]; omega
 have hcr : (List.replicate 10 (48 : UInt8)).length = 10 := length_replicate
 refine .sr (.an Y (.sr (.cv func96 [_, _] (QV) ?_)))
 refine .m Y (.u (.max2 Y Y) (.cv func217 [_] (Vc p hT (max n 0) (by unfold A4 at *; omega)) ?_))
 refine .q (.concat Y Y om) Y (.an Y (.sm Y (.m Y (.m Y (.q (.to (v' := AA ((Lib.itoa (max n 0)).length + 10)) (.strlen (a := List.replicate 10 (48 : UInt8) ++ Lib.itoa (max n 0)) Y underlying9 Y) (by rw [hcl]; rfl)) Y (.q (.to (v' := AA ((Lib.itoa (max n 0)).length)) (.sub Y Y om) (by congr 1; omega)) Y (.q (.to (v' := AD ((List.replicate 10 (48 : UInt8) ++ Lib.itoa (max n 0)).drop (Lib.itoa (max n 0)).length)) (.strFrom (i := ((Lib.itoa (max n 0)).length : Int)) Y Y underlying9 (by rw [hcl]; omega)) (by rw [Int.toNat_natCast])) Y (.q (.concat Y Y om) Y (.an Y (.ret ?_))))))))))
 exact .vv
theorem Eq (t : Nat) (τ : Tr) (zx ses xid : Int) (x : Pt) (subs : List Pt) (p : HP) (hx : TxA p x subs) (N : Nat) (ho : τ.Ok N) (hN : N + subs.length ≤ 1099511627776) : Fn prog 42 #[AI t, .agg ([AA zx, AA ses, AA xid] ++ A1 x).toArray] [Aa t τ, p] fun v L => ∃ u e, v = .tuple #[u, AA e] ∧ e = (AC τ zx x subs).2.2 ∧ (∃ a c, u = .slice a (AC τ zx x subs).2.1.length c) ∧ L = [Aa t (AC τ zx x subs).1, p, Ad 50 3 u (AC τ zx x subs).2.1.length ((AC τ zx x subs).2.1.flatMap BU)] := by
 refine Fn.intro func42 Y Y fun F W => ?_
 refine .rdAny (p := p) hx.rd O fun asb csb esub _ => ?_
 have hrd := hx.rd
 rw [esub] at hrd
 have hfs := hx.few
 refine .sr (.oq (.box Y) ?_)
 rintro v L' ⟨be, rfl, rfl⟩
 refine .a Y (.a Y (.nil (.ptCast (b := be) (l' := ([AA zx, AA ses, AA xid] ++ A1 x)) O Y ?_)))
 refine .then_n (.sr (.an Y (.sr (.fa Y HW (.q (.loadAs (vs := A1 x) Y Az O (by simp [A1]) Y) Y (.oq (.allocA BK) ?_))))))
 rintro v L' ⟨bx, rfl, rfl⟩
 refine .sa Y Y BP (by exact hx.own.all) ?_
 refine .nil (.ptCast (b := bx) (l' := A1 x) O Y ?_)
 refine .then_n (.seq (.trOpen (τ := τ) O fun rn rs m s hI => (.region (.m Y (.fa Y C4 (.u (.ld Y AR) (.nf Y Mz (.st Y Y Y CC ?_))))))))
 refine .nil (.trFold (τ := (zxT τ zx)) (hI.zx zx) O Y Y Y (.then_n (.seq (.sr (.fa Y B1 (.u (.ld Y AR) (.nt (.block (.sr (.ui Y Y Y (.an Y (.condD Y (fun h26 => ?_) (fun h26 => ?_)))))))))))))
 ·refine .sr (.fa Y CZ (.u (.ld Y AR) (.ui Y Y Y (.nt (.condD Y (fun h30 => ?_) (fun h30 => ?_))))))
  ·refine .trOpen (τ := (zxT τ zx)) O fun rn rs m s hI => (.draw [11] [[0, 1, 2, 3, 4, 5, 6, 7, 8, 9, 10, 11]] mixed kQ (.g0 (.mv Y Y (.nf Y Y Y Gq (.kv Y (.ld Y Ku) (.kv Y (.fieldAddr Y CZ) (.kv Y (.ld Y AR) (.kv Y (.fieldAddr Y Cl) (.kv Y (.ld Y AR) (.kv Y (.fieldAddr Y FA) (.kv Y (.ld Y Ag) (.kv Y (.build (us := [(0, _), (1, _)]) ABL Md Y Y (by simp [AB])) (.hh Y (.mapSet (m := s) (enc := ssV) (v := (x.num, x.data)) (k := x.own) (AX.int underlying3) Y Y Y underlying111 ?he40) ?_)))))))))))))
   case he40 => rfl
   rintro v L' rfl
   refine D.ph (.fin (.trFold (τ := (openS (zxT τ zx) x.own x.num x.data)) (hI.open x.own x.num x.data) O Y Y Y (.blk_n (.then_n (.sm Y (.a Y (.an Y (.ret (.add (AN 50 3) ?_)))))))))
   have hc : AC τ zx x subs = (openS (zxT τ zx) x.own x.num x.data, ([], 0)) := by unfold AC; dsimp only; rw [if_pos h26, if_pos om]
   refine .trCast (τ' := (AC τ zx x subs).1) O (by rw [hc]) (.slCast (T := 50) (sz := 3) (m' := (AC τ zx x subs).2.1.length) (xs' := (AC τ zx x subs).2.1.flatMap BU) O (by (rw [hc]; try rfl)) (by (rw [hc]; try rfl)) ?_)
   exact .dn Y Y ⟨_, _, Y, by rw [hc], ⟨_, _, by (rw [hc]; try rfl)⟩, rfl⟩
  refine .skip (.blk_n (.then_n (.sm Y (.a Y (.an Y (.ret (.add (AN 50 3) ?_)))))))
  have hc : AC τ zx x subs = ((zxT τ zx), ([], 0)) := by unfold AC; dsimp only; rw [if_pos h26, if_neg om]
  refine .trCast (τ' := (AC τ zx x subs).1) O (by rw [hc]) (.slCast (T := 50) (sz := 3) (m' := (AC τ zx x subs).2.1.length) (xs' := (AC τ zx x subs).2.1.flatMap BU) O (by (rw [hc]; try rfl)) (by (rw [hc]; try rfl)) ?_)
  exact .dn Y Y ⟨_, _, Y, by rw [hc], ⟨_, _, by (rw [hc]; try rfl)⟩, rfl⟩
 refine .sr (.ui Y Y Y (.an Y (.condD Y (fun h42 => ?_) (fun h42 => ?_))))
 ·refine .seq (.sr (.fa Y Cm (.q (.as (v' := .slice asb subs.length csb) (by exact esub) (.ld Y Gl)) Y (.q (.slen Y underlying58 Y) Y (.m Y (.nt (.block (.add (AN 50 3) (.trCast (τ' := (AH (zxT τ zx) zx ((subs.take 0).filter Aj)).1) O (by rw [take_zero]; rfl) (.slCast (T := 50) (sz := 3) (m' := (AH (zxT τ zx) zx ((subs.take 0).filter Aj)).2.length) (xs' := (AH (zxT τ zx) zx ((subs.take 0).filter Aj)).2.flatMap BU) O (by rw [take_zero]; rfl) (by rw [take_zero]; rfl) (.loopK (ι := Nat × Value) (fun q E => (47, AA q.1) :: (6, q.2) :: E) (fun q => [Aa t (AH (zxT τ zx) zx ((subs.take q.1).filter Aj)).1, Ad 50 3 q.2 (AH (zxT τ zx) zx ((subs.take q.1).filter Aj)).2.length ((AH (zxT τ zx) zx ((subs.take q.1).filter Aj)).2.flatMap BU)]) (fun q => q.1 ≤ subs.length ∧ ∃ a c, q.2 = .slice a (AH (zxT τ zx) zx ((subs.take q.1).filter Aj)).2.length c) (fun q => subs.length - q.1) (0, .slice none 0 0) (ts := [0, 3, 4, 5, 7, 45, 46]) O (⟨Nat.zero_le _, none, 0, by rw [take_zero]; rfl⟩) O O ?_)))))))))))
  rintro ⟨i, u⟩ ⟨hi, au, cu, hu⟩
  dsimp only
  dsimp only at hi hu
  subst hu
  have hev := G1 (zxT τ zx) zx ((subs.take i).filter Aj)
  have hfl := length_filter_le Aj (subs.take i)
  rw [length_take] at hfl
  have hok : (AH (zxT τ zx) zx ((subs.take i).filter Aj)).1.Ok (N + subs.length) := ((ho.zx zx).parts zx _ (fun y hy => (hx.each y (mem_of_mem_take (mem_filter.1 hy).1)).few)).more om
  refine .sr (.ui Y Y Y (.nt (.seq (.condD Y (fun h48 => ?_) (fun h48 => ?_)))))
  ·have hi2 : i < subs.length := by omega
   refine .rdShape (p := p) hrd O om fun bs os e1 => ?_
   subst e1
   have hys := hx.each _ (getElem_mem hi2)
   refine .sk (.seq (.block (.sr (.q (.indexAddr Y Y ES om) Y (.q (.loadRdA (sz := 8) (j := i * 8) (k := 8) (p := p) (vs := A1 subs[i]) Y Az O hrd (by simp) om om (A3 (f := A1) (sz := 8) (fun _ _ => Y) om)) Y (.oq (.allocA BK) ?_))))))
   rintro v L' ⟨by1, rfl, rfl⟩
   refine .sa Y Y BP (by exact hys.all) ?_
   refine .nil (.ptCast (b := by1) (l' := A1 subs[i]) O Y ?_)
   refine .then_n (.sr (.fa Y B1 (.u (.ld Y AR) (.ui Y Y Y (.nt (.condD Y (fun h53 => ?_) (fun h53 => ?_)))))))
   ·refine .region (.m Y (.m Y (.q (.loadAs (vs := A1 subs[i]) Y Az O (by simp [A1]) Y) Y (.fa Y C4 (.u (.ld Y AR) (.oq (.c func72 [_, _, _] (IB t (AH (zxT τ zx) zx ((subs.take i).filter Aj)).1 subs[i] zx p hys (N + subs.length) hok om)) ?_))))))
    rintro v L' ⟨a14, c14, rfl, rfl⟩
    refine .oq (.append (n := (AH (zxT τ zx) zx ((subs.take i).filter Aj)).2.length) (m := (AJ (AH (zxT τ zx) zx ((subs.take i).filter Aj)).1 subs[i] zx).2.length) (ys := (AJ (AH (zxT τ zx) zx ((subs.take i).filter Aj)).1 subs[i] zx).2.flatMap BU) (p := Ad 50 3 (.slice a14 (AJ (AH (zxT τ zx) zx ((subs.take i).filter Aj)).1 subs[i] zx).2.length c14) (AJ (AH (zxT τ zx) zx ((subs.take i).filter Aj)).1 subs[i] zx).2.length ((AJ (AH (zxT τ zx) zx ((subs.take i).filter Aj)).1 subs[i] zx).2.flatMap BU)) Y Y Y DJ (.inl ⟨_, underlying47⟩) Bu Y Y ?hc69 ?hr70 ?hb71 dQ) ?_
    case hc69 => exact IT _
    case hr70 => exact fun h hp => AZ hp
    case hb71 => have := IV (AH (zxT τ zx) zx ((subs.take i).filter Aj)).1 subs[i] zx; omega
    rintro v L' ⟨⟨a14_6, c14_6, rfl⟩, rfl⟩
    refine .a Y (.nil (.blk_n (.then_n (.region (.q (.add Y Y om) Y (.m Y (.nt ?_)))))))
    have hst := Hg (f := Aj) hi2 (by unfold Aj; rw [decide_eq_true h53])
    refine .trCast (τ' := (AH (zxT τ zx) zx ((subs.take (i + 1)).filter Aj)).1) O (by rw [hst, BO]) (.slCast (T := 50) (sz := 3) (m' := (AH (zxT τ zx) zx ((subs.take (i + 1)).filter Aj)).2.length) (xs' := (AH (zxT τ zx) zx ((subs.take (i + 1)).filter Aj)).2.flatMap BU) O (by rw [hst, BO]; simp) (by rw [hst, BO]; simp) ?_)
    exact .rk ((i + 1, .slice a14_6 ((AH (zxT τ zx) zx ((subs.take i).filter Aj)).2.length + (AJ (AH (zxT τ zx) zx ((subs.take i).filter Aj)).1 subs[i] zx).2.length) c14_6)) (⟨by dsimp only; omega, _, _, by rw [hst, BO, length_append]⟩) (by dsimp only; omega) O
   refine .skip (.blk_n (.then_n (.region (.q (.add Y Y om) Y (.m Y (.nt ?_))))))
   have hst := IA (f := Aj) hi2 (by unfold Aj; rw [decide_eq_false h53])
   refine .trCast (τ' := (AH (zxT τ zx) zx ((subs.take (i + 1)).filter Aj)).1) O (by rw [hst]) (.slCast (T := 50) (sz := 3) (m' := (AH (zxT τ zx) zx ((subs.take (i + 1)).filter Aj)).2.length) (xs' := (AH (zxT τ zx) zx ((subs.take (i + 1)).filter Aj)).2.flatMap BU) O (by rw [hst]) (by rw [hst]) ?_)
   exact .rk ((i + 1, .slice au (AH (zxT τ zx) zx ((subs.take i).filter Aj)).2.length cu)) (⟨by dsimp only; omega, _, _, by rw [hst]⟩) (by dsimp only; omega) O
  have hii : i = subs.length := by omega
  rw [hii, take_length]
  refine .xe (.trOpen (τ := (AH (zxT τ zx) zx (subs.filter Aj)).1) O fun rn rs m s hI => (.draw [6] [[0, 1, 2, 3, 4, 5, 6]] mixed kQ (.g0 (.mv Y Y (.nf Y Y Y Gq (.kv Y (.ld Y Ku) (.kv Y (.fieldAddr Y CZ) (.kv Y (.ld Y AR) (.hh Y (.mapDel (m := s) (enc := ssV) (k := x.own) (AX.int underlying3) Y Y Y underlying111 ?he82) ?_)))))))))
  case he82 => rfl
  rintro v L' rfl
  refine D.ph (.fin (.trFold (τ := (dropS (AH (zxT τ zx) zx (subs.filter Aj)).1 x.own)) (hI.drop x.own) O Y Y Y (.blk_n (.then_n (.sm Y (.a Y (.an Y (.ret ?_))))))))
  have hc : AC τ zx x subs = (dropS (AH (zxT τ zx) zx (subs.filter Aj)).1 x.own, ((AH (zxT τ zx) zx (subs.filter Aj)).2, 0)) := by unfold AC; dsimp only; rw [if_neg h26, if_pos h42]
  refine .trCast (τ' := (AC τ zx x subs).1) O (by rw [hc]) (.slCast (T := 50) (sz := 3) (m' := (AC τ zx x subs).2.1.length) (xs' := (AC τ zx x subs).2.1.flatMap BU) O (by (rw [hc]; try rfl)) (by (rw [hc]; try rfl)) ?_)
  exact .dn Y Y ⟨_, _, Y, by rw [hc], ⟨_, _, by (rw [hc]; try rfl)⟩, rfl⟩
 refine .sr (.ui Y Y Y (.an Y (.condD Y (fun h68 => ?_) (fun h68 => ?_))))
 ·refine .sr (.fa Y Cm (.q (.as (v' := .slice asb subs.length csb) (by exact esub) (.ld Y Gl)) Y (.q (.slen Y underlying58 Y) Y (.m Y (.nt (.block (.add (AN 50 3) (.trCast (τ' := (AH (zxT τ zx) zx (subs.take 0)).1) O (by rw [take_zero]; rfl) (.slCast (T := 50) (sz := 3) (m' := (AH (zxT τ zx) zx (subs.take 0)).2.length) (xs' := (AH (zxT τ zx) zx (subs.take 0)).2.flatMap BU) O (by rw [take_zero]; rfl) (by rw [take_zero]; rfl) (.loopK (ι := Nat × Value) (fun q E => (73, AA q.1) :: (6, q.2) :: E) (fun q => [Aa t (AH (zxT τ zx) zx (subs.take q.1)).1, Ad 50 3 q.2 (AH (zxT τ zx) zx (subs.take q.1)).2.length ((AH (zxT τ zx) zx (subs.take q.1)).2.flatMap BU)]) (fun q => q.1 ≤ subs.length ∧ ∃ a c, q.2 = .slice a (AH (zxT τ zx) zx (subs.take q.1)).2.length c) (fun q => subs.length - q.1) (0, .slice none 0 0) (ts := [0, 3, 4, 5, 71, 72]) O (⟨Nat.zero_le _, none, 0, by rw [take_zero]; rfl⟩) O O ?_))))))))))
  rintro ⟨i, u⟩ ⟨hi, au, cu, hu⟩
  dsimp only
  dsimp only at hi hu
  subst hu
  have hev := G1 (zxT τ zx) zx (subs.take i)
  have hfl := length_take_le i subs
  have hok : (AH (zxT τ zx) zx (subs.take i)).1.Ok (N + subs.length) := ((ho.zx zx).parts zx _ (fun y hy => (hx.each y (mem_of_mem_take hy)).few)).more (by rw [length_take]; omega)
  refine .sr (.ui Y Y Y (.nt (.seq (.condD Y (fun h74 => ?_) (fun h74 => ?_)))))
  ·have hi2 : i < subs.length := by omega
   refine .rdShape (p := p) hrd O om fun bs os e1 => ?_
   subst e1
   have hys := hx.each _ (getElem_mem hi2)
   refine .sk (.seq (.block (.sr (.q (.indexAddr Y Y ES om) Y (.q (.loadRdA (sz := 8) (j := i * 8) (k := 8) (p := p) (vs := A1 subs[i]) Y Az O hrd (by simp) om om (A3 (f := A1) (sz := 8) (fun _ _ => Y) om)) Y (.oq (.allocA BK) ?_))))))
   rintro v L' ⟨by1, rfl, rfl⟩
   refine .sa Y Y BP (by exact hys.all) ?_
   refine .nil (.ptCast (b := by1) (l' := A1 subs[i]) O Y ?_)
   refine .then_n (.region (.m Y (.m Y (.q (.loadAs (vs := A1 subs[i]) Y Az O (by simp [A1]) Y) Y (.fa Y C4 (.u (.ld Y AR) (.oq (.c func72 [_, _, _] (IB t (AH (zxT τ zx) zx (subs.take i)).1 subs[i] zx p hys (N + subs.length) hok om)) ?_)))))))
   rintro v L' ⟨a21, c21, rfl, rfl⟩
   refine .oq (.append (n := (AH (zxT τ zx) zx (subs.take i)).2.length) (m := (AJ (AH (zxT τ zx) zx (subs.take i)).1 subs[i] zx).2.length) (ys := (AJ (AH (zxT τ zx) zx (subs.take i)).1 subs[i] zx).2.flatMap BU) (p := Ad 50 3 (.slice a21 (AJ (AH (zxT τ zx) zx (subs.take i)).1 subs[i] zx).2.length c21) (AJ (AH (zxT τ zx) zx (subs.take i)).1 subs[i] zx).2.length ((AJ (AH (zxT τ zx) zx (subs.take i)).1 subs[i] zx).2.flatMap BU)) Y Y Y DJ (.inl ⟨_, underlying47⟩) Bu Y Y ?hc108 ?hr109 ?hb110 dQ) ?_
   case hc108 => exact IT _
   case hr109 => exact fun h hp => AZ hp
   case hb110 => have := IV (AH (zxT τ zx) zx (subs.take i)).1 subs[i] zx; omega
   rintro v L' ⟨⟨a21_6, c21_6, rfl⟩, rfl⟩
   refine .a Y (.nil (.blk_n (.then_n (.region (.q (.add Y Y om) Y (.m Y (.nt ?_)))))))
   have hst := take_succ_eq_append_getElem hi2
   refine .trCast (τ' := (AH (zxT τ zx) zx (subs.take (i + 1))).1) O (by rw [hst, BO]) (.slCast (T := 50) (sz := 3) (m' := (AH (zxT τ zx) zx (subs.take (i + 1))).2.length) (xs' := (AH (zxT τ zx) zx (subs.take (i + 1))).2.flatMap BU) O (by rw [hst, BO]; simp) (by rw [hst, BO]; simp) ?_)
   exact .rk ((i + 1, .slice a21_6 ((AH (zxT τ zx) zx (subs.take i)).2.length + (AJ (AH (zxT τ zx) zx (subs.take i)).1 subs[i] zx).2.length) c21_6)) (⟨by dsimp only; omega, _, _, by rw [hst, BO, length_append]⟩) (by dsimp only; omega) O
  have hii : i = subs.length := by omega
  rw [hii, take_length]
  refine .exit (.then_e (.then_e (.blk_e (.blk_n (.then_n (.sm Y (.a Y (.an Y (.ret ?_)))))))))
  have hc : AC τ zx x subs = ((AH (zxT τ zx) zx subs).1, ((AH (zxT τ zx) zx subs).2, 0)) := by unfold AC; dsimp only; rw [if_neg h26, if_neg h42, if_pos h68]
  refine .trCast (τ' := (AC τ zx x subs).1) O (by rw [hc]) (.slCast (T := 50) (sz := 3) (m' := (AC τ zx x subs).2.1.length) (xs' := (AC τ zx x subs).2.1.flatMap BU) O (by (rw [hc]; try rfl)) (by (rw [hc]; try rfl)) ?_)
  exact .dn Y Y ⟨_, _, Y, by rw [hc], ⟨_, _, by (rw [hc]; try rfl)⟩, rfl⟩
 refine .sr (.ui Y Y Y (.an Y (.condD Y (fun h85 => ?_) (fun h85 => ?_))))
 ·refine .seq (.draw [] [[0, 1, 2, 3]] mixed kQ (.g0 (.kv Y (.fieldAddr Y If) (.kv Y (.ld Y Ey) (.kv Y (.assign Y) (.kv Y (.assign Y) (.pf (.ret (.blk_r (.then_r (.add (AN 50 3) ?_)))))))))))
  have hc : AC τ zx x subs = ((zxT τ zx), ([], x.err)) := by unfold AC; dsimp only; rw [if_neg h26, if_neg h42, if_neg h68, if_pos h85]
  refine .trCast (τ' := (AC τ zx x subs).1) O (by rw [hc]) (.slCast (T := 50) (sz := 3) (m' := (AC τ zx x subs).2.1.length) (xs' := (AC τ zx x subs).2.1.flatMap BU) O (by (rw [hc]; try rfl)) (by (rw [hc]; try rfl)) ?_)
  exact .dn Y Y ⟨_, _, Y, by rw [hc], ⟨_, _, by (rw [hc]; try rfl)⟩, rfl⟩
 refine .region (.m Y (.q (.loadAs (vs := A1 x) Y Az O (by simp [A1]) Y) Y (.fa Y C4 (.u (.ld Y AR) (.oq (.c func72 [_, _, _] (IB t (zxT τ zx) x zx p hx.own N (ho.zx zx) om)) ?_)))))
 rintro v L' ⟨a5, c5, rfl, rfl⟩
 refine .a Y (.nil (.blk_n (.then_n (.sm Y (.a Y (.an Y (.ret ?_)))))))
 have hc : AC τ zx x subs = ((AJ (zxT τ zx) x zx).1, ((AJ (zxT τ zx) x zx).2, 0)) := by unfold AC; dsimp only; rw [if_neg h26, if_neg h42, if_neg h68, if_neg h85]
 refine .trCast (τ' := (AC τ zx x subs).1) O (by rw [hc]) (.slCast (T := 50) (sz := 3) (m' := (AC τ zx x subs).2.1.length) (xs' := (AC τ zx x subs).2.1.flatMap BU) O (by (rw [hc]; try rfl)) (by (rw [hc]; try rfl)) ?_)
 exact .dn Y Y ⟨_, _, Y, by rw [hc], ⟨_, _, by (rw [hc]; try rfl)⟩, rfl⟩
theorem BZ (t : Nat) (τ : Tr) (p : Bs) (N : Nat) (ho : τ.Ok N) (hN : N ≤ 1099511627776) : Fn prog 76 #[AI t, AD p] [Aa t τ] fun v L => v = .tuple #[.agg (B7 (AU τ p)).toArray, .bool (decide (AQ τ p))] ∧ L = [Aa t τ] := by
 refine Fn.intro func76 Y Y fun F W => ?_
 refine .trOpen (τ := τ) O fun rn rs m s hI => ?_
 have hlen := hI.len ho
 have hfew := ho.few
 refine .sr (.oq (.allocA DO) ?_)
 rintro v L' ⟨b4, rfl, rfl⟩
 refine .an Y (.sr ?_)
 rcases hal : AE m p with _ | px
 ·refine .m Y (.nf Y BA (.u (.ld Y Bq) (.m Y (.q (.lookupN (m := m) (enc := Gj) (AX.str underlying9) (hal) Y Y underlying110 DC O Y) Y (.an Y (.seq (.sm Y (.q (.as (v' := .bool true) (by rfl) (.ptreq Y Y underlying107)) Y (.nt (.condT Y (.sr (.q (.build (us := []) NB DO Y Y (by simp [AB])) Y (.sa Y Y DD (by (first | (simp [AB]; done) | (simp [AB, AW, Value.cells]; done))) ?_)))))))))))))
  refine .an Y (.rt (.ptCast (b := b4) (l' := B7 (AU τ p)) O (by rw [hI.stat0 hal]; rfl) ?_))
  refine .trFold (τ := τ) hI O Y Y Y ?_
  exact .d2 Y (.cellA Y Ef O (by simp [B7]) Y) (.tmp Y) ⟨by rw [decide_eq_false (hI.none_iff.1 hal)]; rfl, rfl⟩
 refine .m Y (.nf Y BA (.u (.ld Y Bq) (.m Y (.q (.lookupY (m := m) (enc := Gj) (AX.str underlying9) (hal) Y Y underlying110 DC O Y) Y (.an Y (.seq (.sm Y (.q (.as (v' := .bool false) (by rfl) (.ptreq Y Y underlying107)) Y (.nt (.condF Y (.sk (.seq (.bigTake hal O (.ndOpen (x := (p, px)) O (.region (.m Y (.nf Y Eu (.q (.loadAs (vs := B7 px.2.2.st) Y Ef O (by simp [Rt]) Y) Y (.oq (.allocA DO) ?_)))))))))))))))))))
 rintro v L' ⟨b7, rfl, rfl⟩
 refine .sa Y Y DD (by intro v hv; simp only [B7, mem_cons, not_mem_nil, or_false] at hv; rcases hv with rfl | rfl | rfl | rfl | rfl | rfl | rfl | rfl | rfl <;> rfl) ?_
 refine .nil (.ptCast (b := b7) (l' := B7 px.2.2.st) O Y ?_)
 refine .then_n (.seq (.draw [7, 10, 12] [[0, 1, 2, 3, 4, 5, 6, 9, 7, 8, 10], [11, 12]] mixed kQ (.go [Ae px.1 _ _] O (.k Y (.move Y) (.k Y (.nilp Y) (.k Y (.fieldAddr Y H5) (.k Y (.ld Y Ag) (.k Y (.strlen Y underlying9 Y) (.mv Y Y (.mv Y Y (.k Y (.fieldAddr Y UQ) (.hh Y (.c func135 [_, _] (Jw t rn (.map (some rs)) (AA τ.zx) m p (hI.plen ho) om)) ?_))))))))))))
 rintro v L' ⟨⟨a5, c5, rfl⟩, rfl⟩
 refine D.k Y (.slen Y underlying38 Y) (.hh Y (.store Y Y Y CC ?c45 (Bf _ _)) ?_)
 case c45 => simp [B7]
 rintro v L' rfl
 refine D.ph (.g0 (.kv Y (.fieldAddr Y PS) (.hh Y (.store Y Y Y CC ?c49 (Bf _ _)) ?_)))
 case c49 => simp [B7]
 rintro v L' rfl
 refine D.ph (.fin (.ptCast (b := b7) (l' := B7 (AU τ p)) O (by rw [hI.stat hal, ← hI.kids ho p, Jd]; rfl) ?_))
 refine .then_n (.sr (.q (.loadAs (vs := B7 (AU τ p)) Y Ef O (by simp [B7]) Y) Y (.sa Y Y DD (by intro v hv; simp only [B7, mem_cons, not_mem_nil, or_false] at hv; rcases hv with rfl | rfl | rfl | rfl | rfl | rfl | rfl | rfl | rfl <;> rfl) ?_)))
 refine .an Y (.ret (.ptCast (b := b4) (l' := B7 (AU τ p)) O Y ?_))
 refine .ndFold (x := (p, px)) O Y Y Y Y (.bigPut (f := Iv) (m := m) p px Y O ?_)
 rw [Ch hal]
 refine .trFold (τ := τ) hI O Y Y Y ?_
 exact .d2 Y (.cellA Y Ef O (by simp [B7]) Y) (.tmp Y) ⟨by rw [decide_eq_true (hI.some_iff hal)]; rfl, rfl⟩
theorem NE (t : Nat) (τ : Tr) (p : Bs) (N : Nat) (ho : τ.Ok N) (hN : N ≤ 1099511627776) : Fn prog 106 #[AI t, AD p] [Aa t τ] fun v L => v = .tuple #[AD (He τ p), .agg (B7 (AU τ p)).toArray, AA (if AQ τ p then 0 else 60)] ∧ L = [Aa t τ] := by
 refine Fn.intro func106 Y Y fun F W => ?_
 refine .sr (.a Y (.oq (.allocA DO) ?_))
 rintro v L' ⟨b5, rfl, rfl⟩
 refine .an Y (.sm Y (.m Y (.cv func76 [_, _] (BZ t τ p N ho hN) ?_)))
 refine .m Y (.ex Y Y (.ex Y Y (.oq (.allocA DO) ?_)))
 rintro v L' ⟨b7, rfl, rfl⟩
 refine .sa Y Y DD (by intro v hv; simp only [B7, mem_cons, not_mem_nil, or_false] at hv; rcases hv with rfl | rfl | rfl | rfl | rfl | rfl | rfl | rfl | rfl <;> rfl) ?_
 refine .a Y (.nil (.ptCast (b := b7) (l' := B7 (AU τ p)) O Y ?_))
 refine .then_n (.seq (.sm Y (.u (.not Y) (.nt (.condN Y (fun h16 => ?_) (fun h16 => ?_))))))
 ·refine .sr (.q (.build (us := []) NB DO Y Y (by simp [AB])) Y (.a Y (.sa Y Y DD (by (first | (simp [AB]; done) | (simp [AB, AW, Value.cells]; done))) ?_)))
  refine .an Y (.rt (.ptCast (b := b5) (l' := B7 (AU τ p)) O (by rw [show AU τ p = st0 by unfold AU Im; unfold AQ at h16; cases e : AE τ.nodes p with | none => rfl | some y => rw [e] at h16; exact absurd rfl h16]; rfl) ?_))
  exact .done3 Y (.tmp Y) (.cellA Y Ef O (by simp [B7]) Y) (.tmp Y) ⟨by rw [if_neg h16, show He τ p = [] by unfold He; unfold AQ at h16; cases e : AE τ.nodes p with | none => rfl | some y => rw [e] at h16; exact absurd rfl h16]; rfl, rfl⟩ O O
 refine .sk (.seq (.trOpen (τ := τ) O fun rn rs m s hI => ?_))
 obtain ⟨px, hal⟩ : ∃ px, AE m p = some px := by rcases h : AE m p with _ | y; exact absurd h16 (hI.none_iff.1 h); exact ⟨y, rfl⟩
 refine .bigTake hal O (.ndOpen (x := (p, px)) O (.draw [11] [[0, 1, 2, 3, 4, 5, 6, 7, 8, 9, 10, 11], [12]] mixed kQ (.g0 (.mv Y Y (.nf Y Y Y BA (.kv Y (.ld Y Bq) (.mv Y Y (.kv Y (.lookupY (m := m) (enc := Gj) (AX.str underlying9) (hal) Y Y underlying110 DC O Y) (.nf Y Y Y H5 (.kv Y (.ld Y Ag) (.kv Y (.loadAs (vs := B7 (AU τ p)) Y Ef O (by simp [B7]) Y) (.kv Y (.assign Y) (.sa Y Y Y DD (by intro v hv; simp only [B7, mem_cons, not_mem_nil, or_false] at hv; rcases hv with rfl | rfl | rfl | rfl | rfl | rfl | rfl | rfl | rfl <;> rfl) ?_)))))))))))))
 refine D.ph (.g0 (.kv Y (.assign Y) (.pf (.ret (.ptCast (b := b5) (l' := B7 (AU τ p)) O Y ?_)))))
 refine .ndFold (x := (p, px)) O Y Y Y Y (.bigPut (f := Iv) (m := m) p px Y O ?_)
 rw [Ch hal]
 refine .trFold (τ := τ) hI O Y Y Y ?_
 exact .done3 Y (.tmp Y) (.cellA Y Ef O (by simp [B7]) Y) (.tmp Y) ⟨by rw [if_pos h16, show He τ p = px.2.2.data by unfold He; rw [hI.at hal]; rfl]; rfl, rfl⟩ O O
/- not in this seat -/
/- not in this seat -/
/- not in this seat -/
/- not in this seat -/
/- not in this seat -/
theorem Ay (b : Bool) (e : Int) : Fn prog 90 #[.bool b, AA e] [] fun v L => v = AA (if b = true then e else 0) ∧ L = [] := by
 refine Fn.intro func90 Y Y fun F W => ?_
 refine .sr (.an Y (.seq (.sm Y (.nt (.condB Y (fun h5 => ?_) (fun h5 => ?_))))))
 ·refine .sm Y (.an Y (.rt ?_))
  exact .dn Y Y ⟨by first | rw [if_pos (by first | assumption | simpa using h5)] | rw [if_neg (by first | assumption | simpa using h5)], rfl⟩
 refine .sk (.sr (.an Y (.ret ?_)))
 exact .dn Y Y ⟨by first | rw [if_pos (by first | assumption | simpa using h5)] | rw [if_neg (by first | assumption | simpa using h5)], rfl⟩
theorem ABz : A9 prog 176 = some none := by kernel_rfl
theorem AAg : A9 prog 168 = some none := by kernel_rfl
theorem ACU : A9 prog 169 = some none := by kernel_rfl
theorem Kj : Av prog 176 = some .nilFunc := by kernel_rfl
theorem GJ (fs : List Value) (es : List Int) (va : Value) (p Q : HP) (hl : fs.length = es.length) (hn : fs.length ≤ 4294967296) (hr : ∀ h : Hp, p h → Cx 1 h va fs.length fs)
    (hf : ∀ i (hi : i < es.length), (∀ j (hj : j < i), es[j]'om = 0) → CA prog (fs[i]'om) [] [Q] (fun v L => v = AA es[i] ∧ L = [Q])) : Fn prog 85 #[va] [p, Q] fun v L => v = AA (B2 es) ∧ L = [p, Q] := by
 refine Fn.intro func85 Y Y fun F W => ?_
 refine .rdAny (p := p) hr O fun aa ca e _ => ?_
 subst e
 refine .sr (.an Y (.seq (.sm Y (.q (.slen Y underlying230 Y) Y (.m Y (.nt (.block (.loopK (ι := Nat) (fun q E => (8, AA q) :: E) (fun q => []) (fun q => q ≤ es.length ∧ ∀ j (hj : j < q) (hl : j < es.length), es[j] = 0) (fun q => es.length - q) (0) (ts := [6, 7]) O (⟨Nat.zero_le _, fun j hj => by omega⟩) O O ?_))))))))
 rintro i ⟨hi, hb⟩
 refine .sr (.ui Y Y Y (.nt (.seq (.condD Y (fun h9 => ?_) (fun h9 => ?_)))))
 ·have hi2 : i < es.length := by omega
  have hi3 : i < fs.length := by omega
  refine .rdShape (p := p) hr O om fun ba oa e => ?_
  subst e
  refine .sk (.seq (.block (.sr (.q (.indexAddr Y Y I9 om) Y (.q (.loadEl (p := p) (i := i * 1) (v := fs[i]) Y ABz O hr (by simp [hi3])) Y (.an Y (.sm Y (.oq (.callD (vs := []) Y Y (hf i hi2 (fun j hj => hb j hj om))) ?_))))))))
  rintro v L' ⟨rfl, rfl⟩
  refine .an Y (.sm Y (.ui Y Y Y (.nt (.condN Y (fun h15 => ?_) (fun h15 => ?_)))))
  ·refine .sm Y (.an Y (.ret (.blk_r (.then_r (.then_r (.blk_r (.then_r ?_)))))))
   exact .dn Y Y ⟨by rw [Qg hi2 (fun j hj => hb j hj om) om], rfl⟩
  refine .skip (.blk_n (.then_n (.region (.q (.add Y Y om) Y (.m Y (.nt ?_))))))
  exact .rk (i + 1) (⟨by omega, fun j hj hl => by rcases Nat.lt_or_ge j i with h | h; exact hb j h hl; obtain rfl : j = i := om; omega⟩) om O
 refine .xe (.sr (.an Y (.ret ?_)))
 exact .dn Y Y ⟨by rw [NS (fun j hj => hb j om hj)], rfl⟩
theorem LD (t : Nat) (τ : Tr) (u : B4) (iv : Value) (r : Rq) (p : HP) (hA : Dr p u iv r) (N : Nat) (ho : τ.Ok N) (hN : N ≤ 1099511627776) (q : Bs) : Fn prog 104 #[.agg (CM t u iv r).toArray, AD q] [Aa t τ, p] fun v L => v = .bool (decide (AQ τ q)) ∧ L = [Aa t τ, p] := by
 refine Fn.intro func104 Y Y fun F W => ?_
 refine .sr (.oq (.box Y) ?_)
 rintro v L' ⟨b3, rfl, rfl⟩
 refine .a Y (.nil (.pc b3 (CM t u iv r) ?_))
 refine .then_n (.sr (.fa Y D2 (.u (.ld Y DA) (.m Y (.cv func76 [_, _] (BZ t τ q N ho hN) ?_)))))
 refine .m Y (.ex Y Y (.ex Y Y (.oq (.allocA DO) ?_)))
 rintro v L' ⟨b5, rfl, rfl⟩
 refine .sa Y Y DD (by simp [B7, AB]) ?_
 refine .an Y (.sm Y (.an Y (.ret ?_)))
 exact .vv
theorem IJ (t : Nat) (τ : Tr) (u : B4) (iv : Value) (r : Rq) (p : HP) (hA : Dr p u iv r) (N : Nat) (ho : τ.Ok N) (hN : N ≤ 1099511627776) (q : Bs) (perm : Int) : Fn prog 92 #[.agg (CM t u iv r).toArray, AD q, AA perm] [Aa t τ, p] fun v L => v = .bool (decide (Hj τ u.ids q perm)) ∧ L = [Aa t τ, p] := by
 refine Fn.intro func92 Y Y fun F W => ?_
 refine .sr (.oq (.box Y) ?_)
 rintro v L' ⟨b3, rfl, rfl⟩
 refine .a Y (.nil (.pc b3 (CM t u iv r) ?_))
 refine .then_n (.sr (.fa Y D2 (.u (.ld Y DA) (.m Y (.oq (.c func108 [_, _] (JN t τ q N ho)) ?_)))))
 rintro v L' ⟨va, rfl, ⟨aa, ca, rfl⟩, rfl⟩
 refine .m Y (.ex Y Y (.ex Y Y (.a Y (.an Y (.sm Y (.ui Y Y Y (.m Y (.dec (t := 18) Y (fun h2_18 => ?_) (fun h2_18 => ?_)))))))))
 ·refine .kDT (t := 17) Y h2_18 (.gr (.m Y (.gr (.m Y (.gr (.fa Y QG (.gr (.u (.ld Y T9) (.gr (.oq (.call func170 Y Y (vs := [_, _, _]) Y (Ux _ (Dn τ q) _ (fun _ => AZ) (by have := WM ho q; omega) perm iv u.ids p hA.ids (by have := hA.few; omega))) ?_))))))))))
  rintro v L' ⟨rfl, rfl⟩
  refine .pT Y Y (.an Y (.ret ?_))
  exact .dn Y Y ⟨by first | (have g := Qa h2_18; congr 1; simp [Hj, g]; done) | (have g := Of h2_18; congr 1; simp [Hj, g]; done), rfl⟩
 refine .kDF (t := 17) Y h2_18 (.gk (.gk (.gk (.gk (.gk (.pF Y Y (.an Y (.ret ?_))))))))
 exact .dn Y Y ⟨by first | (have g := Qa h2_18; congr 1; simp [Hj, g]; done) | (have g := Of h2_18; congr 1; simp [Hj, g]; done), rfl⟩
theorem Xr (t : Nat) (τ : Tr) (u : B4) (iv : Value) (r : Rq) (p : HP) (hA : Dr p u iv r) (N : Nat) (ho : τ.Ok N) (hN : N ≤ 1099511627776) (b : Nat) : Fn prog 143 #[AI b] [Ae b (CM t u iv r) 134] fun v L => v = AA (BG r.path) ∧ L = [Ae b (CM t u iv r) 134] := by
 refine Fn.intro func143 Y Y fun F W => ?_
 have hpl := hA.rq.path
 have hpl2 : r.path.length ≤ 1048576 := by omega
 refine .sr (.an Y (.sr (.fa Y At (.fa Y Bk (.u (.ld Y Ag) (.cv func87 [_] (ED r.path hpl2) ?_))))))
 refine .an Y (.ret ?_)
 exact .vv
theorem Xq (t : Nat) (τ : Tr) (u : B4) (iv : Value) (r : Rq) (p : HP) (hA : Dr p u iv r) (N : Nat) (ho : τ.Ok N) (hN : N ≤ 1099511627776) (b : Nat) : Fn prog 144 #[AI b] [Ae b (CM t u iv r) 134] fun v L => v = AA (Ai (r.data.length > 100 ∨ r.flags < 0 ∨ r.flags > 3) 1) ∧ L = [Ae b (CM t u iv r) 134] := by
 refine Fn.intro func144 Y Y fun F W => ?_
 refine .sr (.an Y (.sr (.fa Y At (.fa Y Ia (.u (.ld Y Ag) (.q (.strlen Y underlying9 Y) Y (.ui Y Y Y (.m Y (.dec (t := 7) Y (fun h1_7 => ?_) (fun h1_7 => ?_))))))))))
 ·refine .kDT (t := 6) Y h1_7 (.gk (.gk (.gk (.gk (.pT Y Y (.m Y (.gk (.gk (.gk (.gk (.pT Y Y (.cv func90 [_, _] (Ay _ _) ?_))))))))))))
  refine .an Y (.ret ?_)
  exact .dn Y Y ⟨by congr 1; unfold Ai; first | (simp_all; done) | (simp_all; omega) | (split <;> simp_all; done) | (split <;> simp_all <;> omega), rfl⟩
 refine .kDF (t := 6) Y h1_7 (.gr (.fa Y At (.gr (.fa Y GE (.gr (.u (.ld Y AR) (.gr (.ui Y Y Y (.pF Y Y (.m Y (.dec (t := 13) Y (fun h1_13 => ?_) (fun h1_13 => ?_))))))))))))
 ·refine .kDT (t := 11) Y h1_13 (.kDT (t := 12) Y h1_13 (.gk (.gk (.gk (.gk (.pT Y Y (.cv func90 [_, _] (Ay _ _) ?_)))))))
  refine .an Y (.ret ?_)
  exact .dn Y Y ⟨by congr 1; unfold Ai; first | (simp_all; done) | (simp_all; omega) | (split <;> simp_all; done) | (split <;> simp_all <;> omega), rfl⟩
 refine .kDF (t := 11) Y h1_13 (.kDF (t := 12) Y h1_13 (.gr (.fa Y At (.gr (.fa Y GE (.gr (.u (.ld Y AR) (.gr (.ui Y Y Y (.pF Y Y (.cv func90 [_, _] (Ay _ _) ?_)))))))))))
 refine .an Y (.ret ?_)
 exact .dn Y Y ⟨by congr 1; unfold Ai; first | (simp_all; done) | (simp_all; omega) | (split <;> simp_all; done) | (split <;> simp_all <;> omega), rfl⟩
theorem Wz (t : Nat) (τ : Tr) (u : B4) (iv : Value) (r : Rq) (p : HP) (hA : Dr p u iv r) (N : Nat) (ho : τ.Ok N) (hN : N ≤ 1099511627776) (b : Nat) : Fn prog 145 #[AI b] [Ae b (CM t u iv r) 134, p] fun v L => v = AA (Ai (¬ FW r.acl = true) 50) ∧ L = [Ae b (CM t u iv r) 134, p] := by
 refine Fn.intro func145 Y Y fun F W => ?_
 refine .sr (.an Y (.sr (.fa Y At (.fa Y J1 (.u (.ld Y F9) (.oq (.call func146 Y Y (vs := [_]) Y (K3 _ r.acl p hA.rq.acl (by have := hA.rq.many; omega) (fun a ha => (hA.rq.ids a ha).2))) ?_))))))
 rintro v L' ⟨rfl, rfl⟩
 refine .u (.not Y) (.cv func90 [_, _] (Ay _ _) ?_)
 refine .an Y (.ret ?_)
 exact .dn Y Y ⟨by congr 1; unfold Ai; first | (simp_all; done) | (simp_all; omega) | (split <;> simp_all; done) | (split <;> simp_all <;> omega), rfl⟩
theorem Yh (b : Nat) (c : Prop) [Decidable c] : Fn prog 147 #[AI b] [Ae b [.bool (decide c)] 4] fun v L => v = AA (Ai (¬ c) 60) ∧ L = [Ae b [.bool (decide c)] 4] := by
 refine Fn.intro func147 Y Y fun F W => ?_
 refine .sr (.an Y (.sr (.u (.ld Y Xc) (.u (.not Y) (.cv func90 [_, _] (Ay _ _) ?_)))))
 refine .an Y (.ret ?_)
 exact .dn Y Y ⟨by congr 1; unfold Ai; first | (simp_all; done) | (simp_all; omega) | (split <;> simp_all; done) | (split <;> simp_all <;> omega), rfl⟩
theorem XR (b : Nat) (s : LN) : Fn prog 148 #[AI b] [Ae b (B7 s) 37] fun v L => v = AA (Ai (s.own ≠ 0) 63) ∧ L = [Ae b (B7 s) 37] := by
 refine Fn.intro func148 Y Y fun F W => ?_
 refine .sr (.an Y (.sr (.fa Y To (.u (.ld Y AR) (.ui Y Y Y (.cv func90 [_, _] (Ay _ _) ?_))))))
 refine .an Y (.ret ?_)
 exact .dn Y Y ⟨by congr 1; unfold Ai; first | (simp_all; done) | (simp_all; omega) | (split <;> simp_all; done) | (split <;> simp_all <;> omega), rfl⟩
theorem W9 (t : Nat) (τ : Tr) (u : B4) (iv : Value) (r : Rq) (p : HP) (hA : Dr p u iv r) (N : Nat) (ho : τ.Ok N) (hN : N ≤ 1099511627776) (b : Nat) (c : Nat) (q : Bs) : Fn prog 149 #[AI b, AI c] [Ae b (CM t u iv r) 134, Ae c [AD q] 9, Aa t τ, p] fun v L => v = AA (Ai (¬ Hj τ u.ids q 4) 65) ∧ L = [Ae b (CM t u iv r) 134, Ae c [AD q] 9, Aa t τ, p] := by
 refine Fn.intro func149 Y Y fun F W => ?_
 refine .sr (.an Y (.sr (.q (.la (CM t u iv r) Y E4) Y (.u (.ld Y Ag) (.cv func92 [_, _, _] (IJ t τ u iv r p hA N ho hN q 4) ?_)))))
 refine .u (.not Y) (.cv func90 [_, _] (Ay _ _) ?_)
 refine .an Y (.ret ?_)
 exact .dn Y Y ⟨by congr 1; unfold Ai; first | (simp_all; done) | (simp_all; omega) | (split <;> simp_all; done) | (split <;> simp_all <;> omega), rfl⟩
theorem WR (c : Nat) (q : Bs) (hq : q.length ≤ 1048576) : Fn prog 150 #[AI c] [Ae c [AD q] 9] fun v L => v = AA (Ai (BG q ≠ 0) 41) ∧ L = [Ae c [AD q] 9] := by
 refine Fn.intro func150 Y Y fun F W => ?_
 refine .sr (.an Y (.sr (.u (.ld Y Ag) (.cv func87 [_] (ED q hq) ?_))))
 refine .ui Y Y Y (.cv func90 [_, _] (Ay _ _) ?_)
 refine .an Y (.ret ?_)
 exact .dn Y Y ⟨by congr 1; unfold Ai; first | (simp_all; done) | (simp_all; omega) | (split <;> simp_all; done) | (split <;> simp_all <;> omega), rfl⟩
theorem XQ (t : Nat) (τ : Tr) (u : B4) (iv : Value) (r : Rq) (p : HP) (hA : Dr p u iv r) (N : Nat) (ho : τ.Ok N) (hN : N ≤ 1099511627776) (b : Nat) (c : Nat) (q : Bs) : Fn prog 151 #[AI b, AI c] [Ae b (CM t u iv r) 134, Ae c [AD q] 9, Aa t τ, p] fun v L => v = AA (Ai (AQ τ q) 61) ∧ L = [Ae b (CM t u iv r) 134, Ae c [AD q] 9, Aa t τ, p] := by
 refine Fn.intro func151 Y Y fun F W => ?_
 refine .sr (.an Y (.sr (.q (.la (CM t u iv r) Y E4) Y (.u (.ld Y Ag) (.cv func104 [_, _] (LD t τ u iv r p hA N ho hN q) ?_)))))
 refine .cv func90 [_, _] (Ay _ _) ?_
 refine .an Y (.ret ?_)
 exact .dn Y Y ⟨by congr 1; unfold Ai; first | (simp_all; done) | (simp_all; omega) | (split <;> simp_all; done) | (split <;> simp_all <;> omega), rfl⟩
theorem Yu (t : Nat) (τ : Tr) (u : B4) (iv : Value) (r : Rq) (p : HP) (hA : Dr p u iv r) (N : Nat) (ho : τ.Ok N) (hN : N ≤ 1099511627776) (b : Nat) : Fn prog 152 #[AI b] [Ae b (CM t u iv r) 134, Aa t τ] fun v L => v = AA (Ai ((AS τ).length ≥ 64) 64) ∧ L = [Ae b (CM t u iv r) 134, Aa t τ] := by
 refine Fn.intro func152 Y Y fun F W => ?_
 refine .sr (.an Y (.sr (.fa Y D2 (.u (.ld Y DA) (.oq (.c func140 [_] (Fe t τ N ho hN)) ?_)))))
 rintro v L' ⟨⟨a0, c0, rfl⟩, rfl⟩
 refine .q (.slen Y underlying38 Y) Y (.ui Y Y Y (.cv func90 [_, _] (Ay _ _) ?_))
 refine .an Y (.ret ?_)
 exact .dn Y Y ⟨by congr 1; unfold Ai; first | (simp_all; done) | (simp_all; omega) | (split <;> simp_all; done) | (split <;> simp_all <;> omega), rfl⟩
theorem Vw (t : Nat) (τ : Tr) (u : B4) (iv : Value) (r : Rq) (p : HP) (hA : Dr p u iv r) (N : Nat) (ho : τ.Ok N) (hN : N ≤ 1099511627776) (b : Nat) : Fn prog 153 #[AI b] [Ae b (CM t u iv r) 134, Aa t τ] fun v L => v = AA (Ai (andI r.flags 1 ≠ 0 ∧ (AF τ u.ses).length ≥ 32) 64) ∧ L = [Ae b (CM t u iv r) 134, Aa t τ] := by
 refine Fn.intro func153 Y Y fun F W => ?_
 refine .sr (.an Y (.sr (.fa Y At (.fa Y GE (.u (.ld Y AR) (.u (.andI Y Y) (.ui Y Y Y (.m Y (.ndec (t := 7) Y (fun h1_7 => ?_) (fun h1_7 => ?_))))))))))
 ·refine .kNT (t := 6) Y h1_7 (.gr (.fa Y D2 (.gr (.u (.ld Y DA) (.gr (.fa Y FK (.gr (.u (.ld Y AR) (.gr (.oq (.c func80 [_, _] (J5 t τ u.ses N ho hN)) ?_))))))))))
  rintro v L' ⟨⟨a0, c0, rfl⟩, rfl⟩
  refine .gr (.q (.slen Y underlying38 Y) Y (.gr (.ui Y Y Y (.pT Y Y (.cv func90 [_, _] (Ay _ _) ?_)))))
  refine .an Y (.ret ?_)
  exact .dn Y Y ⟨by congr 1; unfold Ai; first | (simp_all; done) | (simp_all; omega) | (split <;> simp_all; done) | (split <;> simp_all <;> omega), rfl⟩
 refine .kNF (t := 6) Y h1_7 (.gk (.gk (.gk (.gk (.gk (.gk (.gk (.pF Y Y (.cv func90 [_, _] (Ay _ _) ?_)))))))))
 refine .an Y (.ret ?_)
 exact .dn Y Y ⟨by congr 1; unfold Ai; first | (simp_all; done) | (simp_all; omega) | (split <;> simp_all; done) | (split <;> simp_all <;> omega), rfl⟩
theorem UX (t : Nat) (τ : Tr) (u : B4) (iv : Value) (r : Rq) (p : HP) (hA : Dr p u iv r) (N : Nat) (ho : τ.Ok N) (hN : N ≤ 1099511627776) (b1 bu bs bi bw : Nat) (va : Value) (p0 : HP) (hr : ∀ h : Hp, p0 h → Cx 1 h va 10 [.func (.func 143) #[] #[AI b1], .func (.func 144) #[] #[AI b1], .func (.func 145) #[] #[AI b1], .func (.func 147) #[] #[AI bi], .func (.func 148) #[] #[AI bs], .func (.func 149) #[] #[AI b1, AI bu], .func (.func 150) #[] #[AI bw], .func (.func 151) #[] #[AI b1, AI bw], .func (.func 152) #[] #[AI b1], .func (.func 153) #[] #[AI b1]]) : Fn prog 85 #[va] [p0, Ae b1 (CM t u iv r) 134, Ae bu [AD (AL r.path)] 9, Ae bs (B7 (JA τ r)) 37, Ae bi [.bool (decide (AQ τ (AL r.path)))] 4, Ae bw [AD (B3 τ r)] 9, Aa t τ, p] fun v L => v = AA (B2 (Dp τ u r)) ∧ L = [p0, Ae b1 (CM t u iv r) 134, Ae bu [AD (AL r.path)] 9, Ae bs (B7 (JA τ r)) 37, Ae bi [.bool (decide (AQ τ (AL r.path)))] 4, Ae bw [AD (B3 τ r)] 9, Aa t τ, p] := by
 refine Fn.unpack (GJ [.func (.func 143) #[] #[AI b1], .func (.func 144) #[] #[AI b1], .func (.func 145) #[] #[AI b1], .func (.func 147) #[] #[AI bi], .func (.func 148) #[] #[AI bs], .func (.func 149) #[] #[AI b1, AI bu], .func (.func 150) #[] #[AI bw], .func (.func 151) #[] #[AI b1, AI bw], .func (.func 152) #[] #[AI b1], .func (.func 153) #[] #[AI b1]] (Dp τ u r) va p0 _ rfl (by show 10 ≤ _; decide) hr ?_)
 intro i hi hz
 have hi2 : i < 10 := hi
 have hc : i = 0 ∨ i = 1 ∨ i = 2 ∨ i = 3 ∨ i = 4 ∨ i = 5 ∨ i = 6 ∨ i = 7 ∨ i = 8 ∨ i = 9 := by omega
 rcases hc with rfl | rfl | rfl | rfl | rfl | rfl | rfl | rfl | rfl | rfl
 ·exact CA.share (us := []) (vs := []) (ws := [AI b1]) func143 rfl rfl O (Xr t τ u iv r p hA N ho hN b1)
 ·exact CA.share (us := []) (vs := []) (ws := [AI b1]) func144 rfl rfl O (Xq t τ u iv r p hA N ho hN b1)
 ·exact CA.share (us := []) (vs := []) (ws := [AI b1]) func145 rfl rfl O (Wz t τ u iv r p hA N ho hN b1)
 ·exact CA.share (us := []) (vs := []) (ws := [AI bi]) func147 rfl rfl O (Yh bi _)
 ·exact CA.share (us := []) (vs := []) (ws := [AI bs]) func148 rfl rfl O (XR bs _)
 ·exact CA.share (us := []) (vs := []) (ws := [AI b1, AI bu]) func149 rfl rfl O (W9 t τ u iv r p hA N ho hN b1 bu _)
 ·exact CA.share (us := []) (vs := []) (ws := [AI bw]) func150 rfl rfl O (WR bw _ (by have := OS hA τ; omega))
 ·exact CA.share (us := []) (vs := []) (ws := [AI b1, AI bw]) func151 rfl rfl O (XQ t τ u iv r p hA N ho hN b1 bw _)
 ·exact CA.share (us := []) (vs := []) (ws := [AI b1]) func152 rfl rfl O (Yu t τ u iv r p hA N ho hN b1)
 ·exact CA.share (us := []) (vs := []) (ws := [AI b1]) func153 rfl rfl O (Vw t τ u iv r p hA N ho hN b1)
theorem PL (t : Nat) (τ : Tr) (u : B4) (iv : Value) (r : Rq) (p : HP) (hA : Dr p u iv r) (N : Nat) (ho : τ.Ok N) (hN : N ≤ 1099511627776) (hcv : A4 (JA τ r).cver) : Fn prog 82 #[.agg (CM t u iv r).toArray] [Aa t τ, p] fun v L => ∃ w : Value, v = .tuple #[.agg (A1 (CE (Ar τ u r) w)).toArray, AA (B2 (Dp τ u r))] ∧ (∃ a c, w = .slice a r.acl.length c) ∧ L = [Aa t τ, p, Ad 75 2 w r.acl.length (r.acl.flatMap CP)] := by
 refine Fn.intro func82 Y Y fun F W => ?_
 have hpl := hA.rq.path
 have hpl2 : r.path.length ≤ 1048576 := by omega
 have hcl := hA.cells t
 refine .sr (.oq (.box Y) ?_)
 rintro v L' ⟨b1, rfl, rfl⟩
 refine .oq (.allocA BK) ?_
 rintro v L' ⟨bx, rfl, rfl⟩
 refine .a Y (.nil (.pc b1 (CM t u iv r) ?_))
 refine .then_n (.sr (.fa Y At (.fa Y Bk (.u (.ld Y Ag) (.cv func81 [_] (De r.path om) ?_)))))
 refine .oq (.alloc Hk) ?_
 rintro v L' ⟨bu, rfl, rfl⟩
 refine .st Y Y Y KM ?_
 refine .nt (.sr (.fa Y D2 (.u (.ld Y DA) (.u (.ld Y Ag) (.cv func76 [_, _] (BZ t τ _ N ho hN) ?_)))))
 refine .m Y (.ex Y Y (.ex Y Y (.oq (.allocA DO) ?_)))
 rintro v L' ⟨bs, rfl, rfl⟩
 refine .oq (.alloc NU) ?_
 rintro v L' ⟨bi, rfl, rfl⟩
 refine .sa Y Y DD (by simp [B7, AB]) ?_
 refine .st Y Y Y Mv ?_
 refine .nil (.pc bs (B7 (JA τ r)) ?_)
 refine .then_n (.sr (.fa Y At (.fa Y Bk (.u (.ld Y Ag) (.oq (.alloc Hk) ?_)))))
 rintro v L' ⟨bw, rfl, rfl⟩
 refine .st Y Y Y KM ?_
 refine .nt (.seq (.sr (.fa Y At (.fa Y GE (.u (.ld Y AR) (.u (.andI Y Y) (.ui Y Y Y (.nt (.condN Y (fun h28 => ?_) (fun h28 => ?_))))))))))
 ·have hw : B3 τ r = Ft r.path (JA τ r).cver := if_pos h28
  refine .region (.fa Y At (.fa Y Bk (.u (.ld Y Ag) (.fa Y Fg (.u (.ld Y AR) (.cv func142 [_, _] (Nk p hA.tab r.path (JA τ r).cver om hcv) ?_))))))
  refine .oq (.store Y Y Y KM ?c55 (Bf _ _)) ?_
  case c55 => exact Nat.zero_lt_one
  rintro v L' rfl
  refine .nt (.sr (.ptCast (b := bw) (l' := [AD (B3 τ r)]) O (by rw [hw]; rfl) ?_))
  refine .q (.func (us := []) (vs := [_]) Y Y) Y (.q (.func (us := []) (vs := [_]) Y Y) Y (.q (.func (us := []) (vs := [_]) Y Y) Y (.q (.func (us := []) (vs := [_]) Y Y) Y (.q (.func (us := []) (vs := [_]) Y Y) Y (.q (.func (us := []) (vs := [_, _]) Y Y) Y (.q (.func (us := []) (vs := [_]) Y Y) Y (.q (.func (us := []) (vs := [_, _]) Y Y) Y (.q (.func (us := []) (vs := [_]) Y Y) Y (.q (.func (us := []) (vs := [_]) Y Y) Y (.oq (.buildSlice1 (vs := [_, _, _, _, _, _, _, _, _, _]) I9 Kj Y Y Y Y Y dQ) ?_))))))))))
  rintro v L' ⟨bf, rfl, rfl⟩
  refine .slMake (b := bf) (n := 10) (c := 10) (xs := [.func (.func 143) #[] #[AI b1], .func (.func 144) #[] #[AI b1], .func (.func 145) #[] #[AI b1], .func (.func 147) #[] #[AI bi], .func (.func 148) #[] #[AI bs], .func (.func 149) #[] #[AI b1, AI bu], .func (.func 150) #[] #[AI bw], .func (.func 151) #[] #[AI b1, AI bw], .func (.func 152) #[] #[AI b1], .func (.func 153) #[] #[AI b1]]) O dQ (by exact Nat.le_refl 10) Y (.cv func85 [_] (UX t τ u iv r p hA N ho hN b1 bu bs bi bw _ _ (fun _ => AZ)) ?_)
  refine .an Y (.seq (.draw [7, 12, 13] [[0, 1, 2, 3, 4, 5, 6, 8, 9, 10, 7, 11, 12], [13]] mixed kQ (.go [Ae b1 _ _, Ae bs _ _, Ae bw _ _] O (.k Y (.ld Y Ag) (.k Y (.fieldAddr Y At) (.k Y (.fieldAddr Y Ia) (.k Y (.ld Y Ag) (.k Y (.fieldAddr Y At) (.k Y (.fieldAddr Y J1) (.k Y (.ld Y F9) (.k Y (.fieldAddr Y Fg) (.k Y (.ld Y AR) (.k Y (.addW Y Y) (.h2 (k := 12) Y Y kQ Y (.c func134 [_] (CJ r.aclV r.acl p hA.rq.acl hA.rq.many)) O (.allocA BK) O ?_ ?_))))))))))))))
  ·rintro v L' ⟨⟨a7, c7, rfl⟩, rfl⟩
   refine D.k Y (.build (us := [(0, _), (1, _), (2, _), (3, _), (5, _)]) FG BK Y Y (by simp [AB])) (.hh Y (.allocA BK) ?_)
   rintro v L' ⟨bp, rfl, rfl⟩
   refine D.ph (.g0 (.sa Y Y Y BP (by (first | (simp [AB]; done) | (simp [AB, AW, Value.cells]; done))) ?_))
   refine D.ph (.fin (.pc bp (A1 ⟨1, B3 τ r, r.data, .slice a7 r.acl.length c7, r.acl, 0, C1 ((JA τ r).cver + 1), 0, AG⟩) ?_))
   refine .then_n (.seq (.sr (.fa Y At (.fa Y GE (.u (.ld Y AR) (.u (.andI Y Y) (.ui Y Y Y (.nt (.condN Y (fun h63 => ?_) (fun h63 => ?_))))))))))
   ·refine .region (.fa Y FK (.u (.ld Y AR) (.fa Y CZ (.sw Y Y Y CC ?_))))
    refine .nt (.sr (.ptCast (b := bp) (l' := A1 (CE (Ar τ u r) (.slice a7 r.acl.length c7))) O (by unfold Ar; first | (rw [if_pos h63]; rfl) | (rw [if_neg (fun g => g h63)]; rfl)) ?_))
    refine .q (.la (A1 (CE (Ar τ u r) (.slice a7 r.acl.length c7))) Y Az) Y (.m Y (.sa Y Y BP (by simp [A1, CE, Ar, AB]) ?_))
    refine .a Y (.nil (.pc bx ([AA 1, AD (B3 τ r), AD r.data, .slice a7 r.acl.length c7, AA (if andI r.flags 1 ≠ 0 then u.ses else 0), AA (C1 ((JA τ r).cver + 1)), AA 0, AG]) ?_))
    refine .then_n (.ret ?_)
    exact .d2 Y (.cellA Y Az O (by simp [DR, AW]) Y) (.tmp Y) ⟨_, Y, ⟨_, _, Y⟩, Y⟩
   refine .sk (.sr (.ptCast (b := bp) (l' := A1 (CE (Ar τ u r) (.slice a7 r.acl.length c7))) O (by unfold Ar; first | (rw [if_pos h63]; rfl) | (rw [if_neg (fun g => g h63)]; rfl)) ?_))
   refine .q (.la (A1 (CE (Ar τ u r) (.slice a7 r.acl.length c7))) Y Az) Y (.m Y (.sa Y Y BP (by simp [A1, CE, Ar, AB]) ?_))
   refine .a Y (.nil (.pc bx ([AA 1, AD (B3 τ r), AD r.data, .slice a7 r.acl.length c7, AA (if andI r.flags 1 ≠ 0 then u.ses else 0), AA (C1 ((JA τ r).cver + 1)), AA 0, AG]) ?_))
   refine .then_n (.ret ?_)
   exact .d2 Y (.cellA Y Az O (by simp [DR, AW]) Y) (.tmp Y) ⟨_, Y, ⟨_, _, Y⟩, Y⟩
  rintro v L' ⟨bp, rfl, rfl⟩
  refine D.hh Y (.c func134 [_] (CJ r.aclV r.acl p hA.rq.acl hA.rq.many)) ?_
  rintro v L' ⟨⟨a7, c7, rfl⟩, rfl⟩
  refine D.kv Y (.build (us := [(0, _), (1, _), (2, _), (3, _), (5, _)]) FG BK Y Y (by simp [AB])) (.ph (.g0 (.sa Y Y Y BP (by (first | (simp [AB]; done) | (simp [AB, AW, Value.cells]; done))) ?_)))
  refine D.ph (.fin (.pc bp (A1 ⟨1, B3 τ r, r.data, .slice a7 r.acl.length c7, r.acl, 0, C1 ((JA τ r).cver + 1), 0, AG⟩) ?_))
  refine .then_n (.seq (.sr (.fa Y At (.fa Y GE (.u (.ld Y AR) (.u (.andI Y Y) (.ui Y Y Y (.nt (.condN Y (fun h63 => ?_) (fun h63 => ?_))))))))))
  ·refine .region (.fa Y FK (.u (.ld Y AR) (.fa Y CZ (.sw Y Y Y CC ?_))))
   refine .nt (.sr (.ptCast (b := bp) (l' := A1 (CE (Ar τ u r) (.slice a7 r.acl.length c7))) O (by unfold Ar; first | (rw [if_pos h63]; rfl) | (rw [if_neg (fun g => g h63)]; rfl)) ?_))
   refine .q (.la (A1 (CE (Ar τ u r) (.slice a7 r.acl.length c7))) Y Az) Y (.m Y (.sa Y Y BP (by simp [A1, CE, Ar, AB]) ?_))
   refine .a Y (.nil (.pc bx ([AA 1, AD (B3 τ r), AD r.data, .slice a7 r.acl.length c7, AA (if andI r.flags 1 ≠ 0 then u.ses else 0), AA (C1 ((JA τ r).cver + 1)), AA 0, AG]) ?_))
   refine .then_n (.ret ?_)
   exact .d2 Y (.cellA Y Az O (by simp [DR, AW]) Y) (.tmp Y) ⟨_, Y, ⟨_, _, Y⟩, Y⟩
  refine .sk (.sr (.ptCast (b := bp) (l' := A1 (CE (Ar τ u r) (.slice a7 r.acl.length c7))) O (by unfold Ar; first | (rw [if_pos h63]; rfl) | (rw [if_neg (fun g => g h63)]; rfl)) ?_))
  refine .q (.la (A1 (CE (Ar τ u r) (.slice a7 r.acl.length c7))) Y Az) Y (.m Y (.sa Y Y BP (by simp [A1, CE, Ar, AB]) ?_))
  refine .a Y (.nil (.pc bx ([AA 1, AD (B3 τ r), AD r.data, .slice a7 r.acl.length c7, AA (if andI r.flags 1 ≠ 0 then u.ses else 0), AA (C1 ((JA τ r).cver + 1)), AA 0, AG]) ?_))
  refine .then_n (.ret ?_)
  exact .d2 Y (.cellA Y Az O (by simp [DR, AW]) Y) (.tmp Y) ⟨_, Y, ⟨_, _, Y⟩, Y⟩
 have hw : B3 τ r = r.path := if_neg (fun g => g h28)
 refine .sk (.sr (.ptCast (b := bw) (l' := [AD (B3 τ r)]) O (by rw [hw]; rfl) ?_))
 refine .q (.func (us := []) (vs := [_]) Y Y) Y (.q (.func (us := []) (vs := [_]) Y Y) Y (.q (.func (us := []) (vs := [_]) Y Y) Y (.q (.func (us := []) (vs := [_]) Y Y) Y (.q (.func (us := []) (vs := [_]) Y Y) Y (.q (.func (us := []) (vs := [_, _]) Y Y) Y (.q (.func (us := []) (vs := [_]) Y Y) Y (.q (.func (us := []) (vs := [_, _]) Y Y) Y (.q (.func (us := []) (vs := [_]) Y Y) Y (.q (.func (us := []) (vs := [_]) Y Y) Y (.oq (.buildSlice1 (vs := [_, _, _, _, _, _, _, _, _, _]) I9 Kj Y Y Y Y Y dQ) ?_))))))))))
 rintro v L' ⟨bf, rfl, rfl⟩
 refine .slMake (b := bf) (n := 10) (c := 10) (xs := [.func (.func 143) #[] #[AI b1], .func (.func 144) #[] #[AI b1], .func (.func 145) #[] #[AI b1], .func (.func 147) #[] #[AI bi], .func (.func 148) #[] #[AI bs], .func (.func 149) #[] #[AI b1, AI bu], .func (.func 150) #[] #[AI bw], .func (.func 151) #[] #[AI b1, AI bw], .func (.func 152) #[] #[AI b1], .func (.func 153) #[] #[AI b1]]) O dQ (by exact Nat.le_refl 10) Y (.cv func85 [_] (UX t τ u iv r p hA N ho hN b1 bu bs bi bw _ _ (fun _ => AZ)) ?_)
 refine .an Y (.seq (.draw [7, 12, 13] [[0, 1, 2, 3, 4, 5, 6, 8, 9, 10, 7, 11, 12], [13]] mixed kQ (.go [Ae b1 _ _, Ae bs _ _, Ae bw _ _] O (.k Y (.ld Y Ag) (.k Y (.fieldAddr Y At) (.k Y (.fieldAddr Y Ia) (.k Y (.ld Y Ag) (.k Y (.fieldAddr Y At) (.k Y (.fieldAddr Y J1) (.k Y (.ld Y F9) (.k Y (.fieldAddr Y Fg) (.k Y (.ld Y AR) (.k Y (.addW Y Y) (.h2 (k := 12) Y Y kQ Y (.c func134 [_] (CJ r.aclV r.acl p hA.rq.acl hA.rq.many)) O (.allocA BK) O ?_ ?_))))))))))))))
 ·rintro v L' ⟨⟨a7, c7, rfl⟩, rfl⟩
  refine D.k Y (.build (us := [(0, _), (1, _), (2, _), (3, _), (5, _)]) FG BK Y Y (by simp [AB])) (.hh Y (.allocA BK) ?_)
  rintro v L' ⟨bp, rfl, rfl⟩
  refine D.ph (.g0 (.sa Y Y Y BP (by (first | (simp [AB]; done) | (simp [AB, AW, Value.cells]; done))) ?_))
  refine D.ph (.fin (.pc bp (A1 ⟨1, B3 τ r, r.data, .slice a7 r.acl.length c7, r.acl, 0, C1 ((JA τ r).cver + 1), 0, AG⟩) ?_))
  refine .then_n (.seq (.sr (.fa Y At (.fa Y GE (.u (.ld Y AR) (.u (.andI Y Y) (.ui Y Y Y (.nt (.condN Y (fun h63 => ?_) (fun h63 => ?_))))))))))
  ·refine .region (.fa Y FK (.u (.ld Y AR) (.fa Y CZ (.sw Y Y Y CC ?_))))
   refine .nt (.sr (.ptCast (b := bp) (l' := A1 (CE (Ar τ u r) (.slice a7 r.acl.length c7))) O (by unfold Ar; first | (rw [if_pos h63]; rfl) | (rw [if_neg (fun g => g h63)]; rfl)) ?_))
   refine .q (.la (A1 (CE (Ar τ u r) (.slice a7 r.acl.length c7))) Y Az) Y (.m Y (.sa Y Y BP (by simp [A1, CE, Ar, AB]) ?_))
   refine .a Y (.nil (.pc bx ([AA 1, AD (B3 τ r), AD r.data, .slice a7 r.acl.length c7, AA (if andI r.flags 1 ≠ 0 then u.ses else 0), AA (C1 ((JA τ r).cver + 1)), AA 0, AG]) ?_))
   refine .then_n (.ret ?_)
   exact .d2 Y (.cellA Y Az O (by simp [DR, AW]) Y) (.tmp Y) ⟨_, Y, ⟨_, _, Y⟩, Y⟩
  refine .sk (.sr (.ptCast (b := bp) (l' := A1 (CE (Ar τ u r) (.slice a7 r.acl.length c7))) O (by unfold Ar; first | (rw [if_pos h63]; rfl) | (rw [if_neg (fun g => g h63)]; rfl)) ?_))
  refine .q (.la (A1 (CE (Ar τ u r) (.slice a7 r.acl.length c7))) Y Az) Y (.m Y (.sa Y Y BP (by simp [A1, CE, Ar, AB]) ?_))
  refine .a Y (.nil (.pc bx ([AA 1, AD (B3 τ r), AD r.data, .slice a7 r.acl.length c7, AA (if andI r.flags 1 ≠ 0 then u.ses else 0), AA (C1 ((JA τ r).cver + 1)), AA 0, AG]) ?_))
  refine .then_n (.ret ?_)
  exact .d2 Y (.cellA Y Az O (by simp [DR, AW]) Y) (.tmp Y) ⟨_, Y, ⟨_, _, Y⟩, Y⟩
 rintro v L' ⟨bp, rfl, rfl⟩
 refine D.hh Y (.c func134 [_] (CJ r.aclV r.acl p hA.rq.acl hA.rq.many)) ?_
 rintro v L' ⟨⟨a7, c7, rfl⟩, rfl⟩
 refine D.kv Y (.build (us := [(0, _), (1, _), (2, _), (3, _), (5, _)]) FG BK Y Y (by simp [AB])) (.ph (.g0 (.sa Y Y Y BP (by (first | (simp [AB]; done) | (simp [AB, AW, Value.cells]; done))) ?_)))
 refine D.ph (.fin (.pc bp (A1 ⟨1, B3 τ r, r.data, .slice a7 r.acl.length c7, r.acl, 0, C1 ((JA τ r).cver + 1), 0, AG⟩) ?_))
 refine .then_n (.seq (.sr (.fa Y At (.fa Y GE (.u (.ld Y AR) (.u (.andI Y Y) (.ui Y Y Y (.nt (.condN Y (fun h63 => ?_) (fun h63 => ?_))))))))))
 ·refine .region (.fa Y FK (.u (.ld Y AR) (.fa Y CZ (.sw Y Y Y CC ?_))))
  refine .nt (.sr (.ptCast (b := bp) (l' := A1 (CE (Ar τ u r) (.slice a7 r.acl.length c7))) O (by unfold Ar; first | (rw [if_pos h63]; rfl) | (rw [if_neg (fun g => g h63)]; rfl)) ?_))
  refine .q (.la (A1 (CE (Ar τ u r) (.slice a7 r.acl.length c7))) Y Az) Y (.m Y (.sa Y Y BP (by simp [A1, CE, Ar, AB]) ?_))
  refine .a Y (.nil (.pc bx ([AA 1, AD (B3 τ r), AD r.data, .slice a7 r.acl.length c7, AA (if andI r.flags 1 ≠ 0 then u.ses else 0), AA (C1 ((JA τ r).cver + 1)), AA 0, AG]) ?_))
  refine .then_n (.ret ?_)
  exact .d2 Y (.cellA Y Az O (by simp [DR, AW]) Y) (.tmp Y) ⟨_, Y, ⟨_, _, Y⟩, Y⟩
 refine .sk (.sr (.ptCast (b := bp) (l' := A1 (CE (Ar τ u r) (.slice a7 r.acl.length c7))) O (by unfold Ar; first | (rw [if_pos h63]; rfl) | (rw [if_neg (fun g => g h63)]; rfl)) ?_))
 refine .q (.la (A1 (CE (Ar τ u r) (.slice a7 r.acl.length c7))) Y Az) Y (.m Y (.sa Y Y BP (by simp [A1, CE, Ar, AB]) ?_))
 refine .a Y (.nil (.pc bx ([AA 1, AD (B3 τ r), AD r.data, .slice a7 r.acl.length c7, AA (if andI r.flags 1 ≠ 0 then u.ses else 0), AA (C1 ((JA τ r).cver + 1)), AA 0, AG]) ?_))
 refine .then_n (.ret ?_)
 exact .d2 Y (.cellA Y Az O (by simp [DR, AW]) Y) (.tmp Y) ⟨_, Y, ⟨_, _, Y⟩, Y⟩
theorem Y4 (t : Nat) (τ : Tr) (u : B4) (iv : Value) (r : Rq) (p : HP) (hA : Dr p u iv r) (N : Nat) (ho : τ.Ok N) (hN : N ≤ 1099511627776) (b : Nat) : Fn prog 154 #[AI b] [Ae b (CM t u iv r) 134] fun v L => v = AA (BG r.path) ∧ L = [Ae b (CM t u iv r) 134] := by
 refine Fn.intro func154 Y Y fun F W => ?_
 have hpl := hA.rq.path
 have hpl2 : r.path.length ≤ 1048576 := by omega
 refine .sr (.an Y (.sr (.fa Y At (.fa Y Bk (.u (.ld Y Ag) (.cv func87 [_] (ED r.path hpl2) ?_))))))
 refine .an Y (.ret ?_)
 exact .vv
theorem WC (t : Nat) (τ : Tr) (u : B4) (iv : Value) (r : Rq) (p : HP) (hA : Dr p u iv r) (N : Nat) (ho : τ.Ok N) (hN : N ≤ 1099511627776) (b : Nat) : Fn prog 155 #[AI b] [Ae b (CM t u iv r) 134] fun v L => v = AA (Ai (r.path = [47]) 1) ∧ L = [Ae b (CM t u iv r) 134] := by
 refine Fn.intro func155 Y Y fun F W => ?_
 refine .sr (.an Y (.sr (.fa Y At (.fa Y Bk (.u (.ld Y Ag) (.u (.streq Y Y) (.cv func90 [_, _] (Ay _ _) ?_)))))))
 refine .an Y (.ret ?_)
 exact .dn Y Y ⟨by congr 1; unfold Ai; first | (simp_all; done) | (simp_all; omega) | (split <;> simp_all; done) | (split <;> simp_all <;> omega), rfl⟩
theorem XX (b : Nat) (c : Prop) [Decidable c] : Fn prog 156 #[AI b] [Ae b [.bool (decide c)] 4] fun v L => v = AA (Ai (¬ c) 60) ∧ L = [Ae b [.bool (decide c)] 4] := by
 refine Fn.intro func156 Y Y fun F W => ?_
 refine .sr (.an Y (.sr (.u (.ld Y Xc) (.u (.not Y) (.cv func90 [_, _] (Ay _ _) ?_)))))
 refine .an Y (.ret ?_)
 exact .dn Y Y ⟨by congr 1; unfold Ai; first | (simp_all; done) | (simp_all; omega) | (split <;> simp_all; done) | (split <;> simp_all <;> omega), rfl⟩
theorem YO (t : Nat) (τ : Tr) (u : B4) (iv : Value) (r : Rq) (p : HP) (hA : Dr p u iv r) (N : Nat) (ho : τ.Ok N) (hN : N ≤ 1099511627776) (b : Nat) (c : Nat) (q : Bs) : Fn prog 157 #[AI b, AI c] [Ae b (CM t u iv r) 134, Ae c [AD q] 9, Aa t τ, p] fun v L => v = AA (Ai (¬ Hj τ u.ids q 8) 65) ∧ L = [Ae b (CM t u iv r) 134, Ae c [AD q] 9, Aa t τ, p] := by
 refine Fn.intro func157 Y Y fun F W => ?_
 refine .sr (.an Y (.sr (.q (.la (CM t u iv r) Y E4) Y (.u (.ld Y Ag) (.cv func92 [_, _, _] (IJ t τ u iv r p hA N ho hN q 8) ?_)))))
 refine .u (.not Y) (.cv func90 [_, _] (Ay _ _) ?_)
 refine .an Y (.ret ?_)
 exact .dn Y Y ⟨by congr 1; unfold Ai; first | (simp_all; done) | (simp_all; omega) | (split <;> simp_all; done) | (split <;> simp_all <;> omega), rfl⟩
theorem Yc (t : Nat) (τ : Tr) (u : B4) (iv : Value) (r : Rq) (p : HP) (hA : Dr p u iv r) (N : Nat) (ho : τ.Ok N) (hN : N ≤ 1099511627776) (b : Nat) (c : Nat) (s : LN) : Fn prog 158 #[AI b, AI c] [Ae b (CM t u iv r) 134, Ae c (B7 s) 37] fun v L => v = AA (Ai (r.ver ≠ -1 ∧ r.ver ≠ s.ver) 66) ∧ L = [Ae b (CM t u iv r) 134, Ae c (B7 s) 37] := by
 refine Fn.intro func158 Y Y fun F W => ?_
 refine .sr (.an Y (.sr (.fa Y At (.fa Y Lw (.u (.ld Y AR) (.ui Y Y Y (.m Y (.ndec (t := 7) Y (fun h1_7 => ?_) (fun h1_7 => ?_)))))))))
 ·refine .kNT (t := 6) Y h1_7 (.gr (.fa Y At (.gr (.fa Y Lw (.gr (.u (.ld Y AR) (.gr (.fa Y Lg (.gr (.u (.ld Y AR) (.gr (.ui Y Y Y (.pT Y Y (.cv func90 [_, _] (Ay _ _) ?_))))))))))))))
  refine .an Y (.ret ?_)
  exact .dn Y Y ⟨by congr 1; unfold Ai; first | (simp_all; done) | (simp_all; omega) | (split <;> simp_all; done) | (split <;> simp_all <;> omega), rfl⟩
 refine .kNF (t := 6) Y h1_7 (.gk (.gk (.gk (.gk (.gk (.gk (.pF Y Y (.cv func90 [_, _] (Ay _ _) ?_))))))))
 refine .an Y (.ret ?_)
 exact .dn Y Y ⟨by congr 1; unfold Ai; first | (simp_all; done) | (simp_all; omega) | (split <;> simp_all; done) | (split <;> simp_all <;> omega), rfl⟩
theorem Xi (c : Nat) (s : LN) : Fn prog 159 #[AI c] [Ae c (B7 s) 37] fun v L => v = AA (Ai (s.kids > 0) 62) ∧ L = [Ae c (B7 s) 37] := by
 refine Fn.intro func159 Y Y fun F W => ?_
 refine .sr (.an Y (.sr (.fa Y PS (.u (.ld Y AR) (.ui Y Y Y (.cv func90 [_, _] (Ay _ _) ?_))))))
 refine .an Y (.ret ?_)
 exact .dn Y Y ⟨by congr 1; unfold Ai; first | (simp_all; done) | (simp_all; omega) | (split <;> simp_all; done) | (split <;> simp_all <;> omega), rfl⟩
theorem AAB (t : Nat) (τ : Tr) (u : B4) (iv : Value) (r : Rq) (p : HP) (hA : Dr p u iv r) (N : Nat) (ho : τ.Ok N) (hN : N ≤ 1099511627776) (b1 bu bs bi : Nat) (va : Value) (p0 : HP) (hr : ∀ h : Hp, p0 h → Cx 1 h va 6 [.func (.func 154) #[] #[AI b1], .func (.func 155) #[] #[AI b1], .func (.func 156) #[] #[AI bi], .func (.func 157) #[] #[AI b1, AI bu], .func (.func 158) #[] #[AI b1, AI bs], .func (.func 159) #[] #[AI bs]]) : Fn prog 85 #[va] [p0, Ae b1 (CM t u iv r) 134, Ae bu [AD (AL r.path)] 9, Ae bs (B7 (AU τ r.path)) 37, Ae bi [.bool (decide (AQ τ r.path))] 4, Aa t τ, p] fun v L => v = AA (B2 (GX τ u r)) ∧ L = [p0, Ae b1 (CM t u iv r) 134, Ae bu [AD (AL r.path)] 9, Ae bs (B7 (AU τ r.path)) 37, Ae bi [.bool (decide (AQ τ r.path))] 4, Aa t τ, p] := by
 refine Fn.unpack (GJ [.func (.func 154) #[] #[AI b1], .func (.func 155) #[] #[AI b1], .func (.func 156) #[] #[AI bi], .func (.func 157) #[] #[AI b1, AI bu], .func (.func 158) #[] #[AI b1, AI bs], .func (.func 159) #[] #[AI bs]] (GX τ u r) va p0 _ rfl (by show 6 ≤ _; decide) hr ?_)
 intro i hi hz
 have hi2 : i < 6 := hi
 have hc : i = 0 ∨ i = 1 ∨ i = 2 ∨ i = 3 ∨ i = 4 ∨ i = 5 := by omega
 rcases hc with rfl | rfl | rfl | rfl | rfl | rfl
 ·exact CA.share (us := []) (vs := []) (ws := [AI b1]) func154 rfl rfl O (Y4 t τ u iv r p hA N ho hN b1)
 ·exact CA.share (us := []) (vs := []) (ws := [AI b1]) func155 rfl rfl O (WC t τ u iv r p hA N ho hN b1)
 ·exact CA.share (us := []) (vs := []) (ws := [AI bi]) func156 rfl rfl O (XX bi _)
 ·exact CA.share (us := []) (vs := []) (ws := [AI b1, AI bu]) func157 rfl rfl O (YO t τ u iv r p hA N ho hN b1 bu _)
 ·exact CA.share (us := []) (vs := []) (ws := [AI b1, AI bs]) func158 rfl rfl O (Yc t τ u iv r p hA N ho hN b1 bs _)
 ·exact CA.share (us := []) (vs := []) (ws := [AI bs]) func159 rfl rfl O (Xi bs _)
theorem Qd (t : Nat) (τ : Tr) (u : B4) (iv : Value) (r : Rq) (p : HP) (hA : Dr p u iv r) (N : Nat) (ho : τ.Ok N) (hN : N ≤ 1099511627776) : Fn prog 83 #[.agg (CM t u iv r).toArray] [Aa t τ, p] fun v L => v = .tuple #[.agg (A1 (EA τ r)).toArray, AA (B2 (GX τ u r))] ∧ L = [Aa t τ, p] := by
 refine Fn.intro func83 Y Y fun F W => ?_
 have hpl := hA.rq.path
 have hpl2 : r.path.length ≤ 1048576 := by omega
 have hcl := hA.cells t
 refine .sr (.oq (.box Y) ?_)
 rintro v L' ⟨b1, rfl, rfl⟩
 refine .oq (.allocA BK) ?_
 rintro v L' ⟨bx, rfl, rfl⟩
 refine .a Y (.nil (.pc b1 (CM t u iv r) ?_))
 refine .then_n (.sr (.fa Y At (.fa Y Bk (.u (.ld Y Ag) (.cv func81 [_] (De r.path om) ?_)))))
 refine .oq (.alloc Hk) ?_
 rintro v L' ⟨bu, rfl, rfl⟩
 refine .st Y Y Y KM ?_
 refine .nt (.sr (.fa Y D2 (.u (.ld Y DA) (.u (.ld Y Ag) (.cv func76 [_, _] (BZ t τ _ N ho hN) ?_)))))
 refine .m Y (.ex Y Y (.ex Y Y (.oq (.allocA DO) ?_)))
 rintro v L' ⟨bv, rfl, rfl⟩
 refine .sa Y Y DD (by simp [B7, AB]) ?_
 refine .a Y (.nil (.pc bv (B7 (JA τ r)) ?_))
 refine .then_n (.sr (.fa Y D2 (.u (.ld Y DA) (.fa Y At (.fa Y Bk (.u (.ld Y Ag) (.cv func76 [_, _] (BZ t τ _ N ho hN) ?_)))))))
 refine .m Y (.ex Y Y (.ex Y Y (.oq (.allocA DO) ?_)))
 rintro v L' ⟨bs, rfl, rfl⟩
 refine .oq (.alloc NU) ?_
 rintro v L' ⟨bi, rfl, rfl⟩
 refine .sa Y Y DD (by simp [B7, AB]) ?_
 refine .st Y Y Y Mv ?_
 refine .nil (.pc bs (B7 (AU τ r.path)) ?_)
 refine .then_n (.sr (.q (.func (us := []) (vs := [_]) Y Y) Y (.q (.func (us := []) (vs := [_]) Y Y) Y (.q (.func (us := []) (vs := [_]) Y Y) Y (.q (.func (us := []) (vs := [_, _]) Y Y) Y (.q (.func (us := []) (vs := [_, _]) Y Y) Y (.q (.func (us := []) (vs := [_]) Y Y) Y (.oq (.buildSlice1 (vs := [_, _, _, _, _, _]) I9 Kj Y Y Y Y Y dQ) ?_))))))))
 rintro v L' ⟨bf, rfl, rfl⟩
 refine .slMake (b := bf) (n := 6) (c := 6) (xs := [.func (.func 154) #[] #[AI b1], .func (.func 155) #[] #[AI b1], .func (.func 156) #[] #[AI bi], .func (.func 157) #[] #[AI b1, AI bu], .func (.func 158) #[] #[AI b1, AI bs], .func (.func 159) #[] #[AI bs]]) O dQ (by exact Nat.le_refl 6) Y (.cv func85 [_] (AAB t τ u iv r p hA N ho hN b1 bu bs bi _ _ (fun _ => AZ)) ?_)
 refine .an Y (.sr (.fa Y At (.fa Y Bk (.u (.ld Y Ag) (.fa Y Fg (.u (.ld Y AR) (.u (.addW Y Y) (.q (.build (us := [(0, _), (1, _), (5, _)]) FG BK Y Y (by simp [AB])) Y (.m Y (.sa Y Y BP (by (first | (simp [AB]; done) | (simp [AB, AW, Value.cells]; done))) ?_))))))))))
 refine .a Y (.nil (.pc bx ([AA 2, AD r.path, AD [], AG, AA 0, AA (C1 ((JA τ r).cver + 1)), AA 0, AG]) ?_))
 refine .then_n (.ret ?_)
 exact .d2 Y (.cellA Y Az O (by simp [DR, AW]) Y) (.tmp Y) ⟨Y, Y⟩
def Jo (k : Int) : List Value := if k = 3 then [.func (.func 161) #[] #[], AA 2, .func (.func 160) #[] #[], .func (.func 162) #[] #[]] else if k = 4 then [.func (.func 163) #[] #[], AA 16, .func (.func 164) #[] #[], .func (.func 165) #[] #[]] else if k = 5 then [.func (.func 166) #[] #[], AA 1, .func (.func 160) #[] #[], .func (.func 167) #[] #[]] else [.nilFunc, AA 0, .nilFunc, .nilFunc]
theorem Rh (k : Int) : Fn prog 84 #[AA k] [] fun v L => v = .tuple #[.agg (Jo k).toArray, .bool (decide (k = 3 ∨ k = 4 ∨ k = 5))] ∧ L = [] := by
 refine Fn.intro func84 Y Y fun F W => ?_
 refine .sr (.oq (.allocA KZ) ?_)
 rintro v L' ⟨bx, rfl, rfl⟩
 refine .an Y (.sr (.an Y (.sm Y (.q (.build (us := [(0, _), (1, _), (2, _), (3, _)]) Ph KZ Y Y (by simp [AB])) Y (.q (.to (v' := .agg ([AA 3, .func (.func 161) #[] #[], AA 2, .func (.func 160) #[] #[], .func (.func 162) #[] #[]]).toArray) (.buildN (pl := [(0, 1), (1, 4)]) (us := [(0, AA 3), (1, .agg ([.func (.func 161) #[] #[], AA 2, .func (.func 160) #[] #[], .func (.func 162) #[] #[]]).toArray)]) (cells := [AA 3, .func (.func 161) #[] #[], AA 2, .func (.func 160) #[] #[], .func (.func 162) #[] #[]]) underlying228 kQ JL Y Y) Y) Y (.q (.build (us := [(0, _), (1, _), (2, _), (3, _)]) Ph KZ Y Y (by simp [AB])) Y (.q (.to (v' := .agg ([AA 4, .func (.func 163) #[] #[], AA 16, .func (.func 164) #[] #[], .func (.func 165) #[] #[]]).toArray) (.buildN (pl := [(0, 1), (1, 4)]) (us := [(0, AA 4), (1, .agg ([.func (.func 163) #[] #[], AA 16, .func (.func 164) #[] #[], .func (.func 165) #[] #[]]).toArray)]) (cells := [AA 4, .func (.func 163) #[] #[], AA 16, .func (.func 164) #[] #[], .func (.func 165) #[] #[]]) underlying228 kQ JL Y Y) Y) Y ?_)))))))
 refine .m Y (.q (.build (us := [(0, _), (1, _), (2, _), (3, _)]) Ph KZ Y Y (by simp [AB])) Y (.q (.to (v' := .agg ([AA 5, .func (.func 166) #[] #[], AA 1, .func (.func 160) #[] #[], .func (.func 167) #[] #[]]).toArray) (.buildN (pl := [(0, 1), (1, 4)]) (us := [(0, AA 5), (1, .agg ([.func (.func 166) #[] #[], AA 1, .func (.func 160) #[] #[], .func (.func 167) #[] #[]]).toArray)]) (cells := [AA 5, .func (.func 166) #[] #[], AA 1, .func (.func 160) #[] #[], .func (.func 167) #[] #[]]) underlying228 kQ JL Y Y) Y) Y (.oq (.buildSlice (vs := [_, _, _]) YF JL Y Y Y Y cQ dQ) ?_)))
 rintro v L' ⟨bk, rfl, rfl⟩
 refine .an Y (.seq (.sr (.slMakeN 5 3 (b := bk) (xs := [AA 3] ++ [.func (.func 161) #[] #[], AA 2, .func (.func 160) #[] #[], .func (.func 162) #[] #[]] ++ [AA 4] ++ [.func (.func 163) #[] #[], AA 16, .func (.func 164) #[] #[], .func (.func 165) #[] #[]] ++ [AA 5] ++ [.func (.func 166) #[] #[], AA 1, .func (.func 160) #[] #[], .func (.func 167) #[] #[]]) O Y Y (.m Y (.q (.slen Y underlying229 Y) Y (.m Y (.nt (.block (.loopK (ι := Nat) (fun q E => (19, AA q) :: E) (fun q => []) (fun q => q ≤ 3 ∧ (0 < q → k ≠ 3) ∧ (1 < q → k ≠ 4) ∧ (2 < q → k ≠ 5)) (fun q => 3 - q) (0) (ts := [0, 2, 17, 18]) O (⟨by omega, by omega, by omega, by omega⟩) O O ?_)))))))))
 rintro i ⟨hi, hk3, hk4, hk5⟩
 refine .sr (.ui Y Y Y (.nt (.seq (.condD Y (fun h20 => ?_) (fun h20 => ?_)))))
 ·refine .sk (.seq (.block (.sr (.q (.indexAddr Y Y YF om) Y ?_))))
  rcases (show i = 0 ∨ i = 1 ∨ i = 2 by omega) with rfl | rfl | rfl
  ·refine .q (.loadRdA (sz := 5) (j := 0 * 5) (k := 5) (p := Ad 228 5 (.slice (some ⟨bk, 0, none⟩) 3 3) 3 _) (vs := [AA 3, .func (.func 161) #[] #[], AA 2, .func (.func 160) #[] #[], .func (.func 162) #[] #[]]) Y R7 O (fun _ => AZ) dQ om om Y) Y (.oq (.allocA JL) ?_)
   rintro v L' ⟨b5_2, rfl, rfl⟩
   refine .sa Y Y TC (by (first | (simp [AB]; done) | (simp [AB, AW, Value.cells]; done))) ?_
   refine .nil (.pc b5_2 ([AA 3, .func (.func 161) #[] #[], AA 2, .func (.func 160) #[] #[], .func (.func 162) #[] #[]]) ?_)
   refine .then_n (.sr (.fa Y NJ (.u (.ld Y AR) (.m Y (.ui Y Y Y (.nt (.condD Y (fun h26 => ?_) (fun h26 => ?_))))))))
   ·refine .sr (.fa Y NR (.q (.loadA Y JI O (by simp)) Y (.sa Y Y MV (by (first | (simp [AB]; done) | (simp [AB, AW, Value.cells]; done))) ?_)))
    refine .an Y (.ret (.blk_r (.then_r (.then_r (.blk_r (.then_r ?_))))))
    exact .d2 Y (.cellA Y JI O (by simp [DR, AW]) Y) (.tmp Y) ⟨by subst h26; rfl, rfl⟩
   refine .skip (.blk_n (.then_n (.region (.q (.add Y Y om) Y (.m Y (.nt ?_))))))
   exact .rk (1) (⟨by omega, by omega, by omega, by omega⟩) om O
  ·refine .q (.loadRdA (sz := 5) (j := 1 * 5) (k := 5) (p := Ad 228 5 (.slice (some ⟨bk, 0, none⟩) 3 3) 3 _) (vs := [AA 4, .func (.func 163) #[] #[], AA 16, .func (.func 164) #[] #[], .func (.func 165) #[] #[]]) Y R7 O (fun _ => AZ) dQ om om Y) Y (.oq (.allocA JL) ?_)
   rintro v L' ⟨b5_2, rfl, rfl⟩
   refine .sa Y Y TC (by (first | (simp [AB]; done) | (simp [AB, AW, Value.cells]; done))) ?_
   refine .nil (.pc b5_2 ([AA 4, .func (.func 163) #[] #[], AA 16, .func (.func 164) #[] #[], .func (.func 165) #[] #[]]) ?_)
   refine .then_n (.sr (.fa Y NJ (.u (.ld Y AR) (.m Y (.ui Y Y Y (.nt (.condD Y (fun h26 => ?_) (fun h26 => ?_))))))))
   ·refine .sr (.fa Y NR (.q (.loadA Y JI O (by simp)) Y (.sa Y Y MV (by (first | (simp [AB]; done) | (simp [AB, AW, Value.cells]; done))) ?_)))
    refine .an Y (.ret (.blk_r (.then_r (.then_r (.blk_r (.then_r ?_))))))
    exact .d2 Y (.cellA Y JI O (by simp [DR, AW]) Y) (.tmp Y) ⟨by subst h26; rfl, rfl⟩
   refine .skip (.blk_n (.then_n (.region (.q (.add Y Y om) Y (.m Y (.nt ?_))))))
   exact .rk (2) (⟨by omega, by omega, by omega, by omega⟩) om O
  refine .q (.loadRdA (sz := 5) (j := 2 * 5) (k := 5) (p := Ad 228 5 (.slice (some ⟨bk, 0, none⟩) 3 3) 3 _) (vs := [AA 5, .func (.func 166) #[] #[], AA 1, .func (.func 160) #[] #[], .func (.func 167) #[] #[]]) Y R7 O (fun _ => AZ) dQ om om Y) Y (.oq (.allocA JL) ?_)
  rintro v L' ⟨b5_2, rfl, rfl⟩
  refine .sa Y Y TC (by (first | (simp [AB]; done) | (simp [AB, AW, Value.cells]; done))) ?_
  refine .nil (.pc b5_2 ([AA 5, .func (.func 166) #[] #[], AA 1, .func (.func 160) #[] #[], .func (.func 167) #[] #[]]) ?_)
  refine .then_n (.sr (.fa Y NJ (.u (.ld Y AR) (.m Y (.ui Y Y Y (.nt (.condD Y (fun h26 => ?_) (fun h26 => ?_))))))))
  ·refine .sr (.fa Y NR (.q (.loadA Y JI O (by simp)) Y (.sa Y Y MV (by (first | (simp [AB]; done) | (simp [AB, AW, Value.cells]; done))) ?_)))
   refine .an Y (.ret (.blk_r (.then_r (.then_r (.blk_r (.then_r ?_))))))
   exact .d2 Y (.cellA Y JI O (by simp [DR, AW]) Y) (.tmp Y) ⟨by subst h26; rfl, rfl⟩
  refine .skip (.blk_n (.then_n (.region (.q (.add Y Y om) Y (.m Y (.nt ?_))))))
  exact .rk (3) (⟨by omega, by omega, by omega, by omega⟩) om O
 refine .xe (.sr (.q (.build (us := []) Ph KZ Y Y (by simp [AB])) Y (.sa Y Y MV (by (first | (simp [AB]; done) | (simp [AB, AW, Value.cells]; done))) ?_)))
 refine .an Y (.ret ?_)
 exact .d2 Y (.cellA Y JI O (by simp [DR, AW]) Y) (.tmp Y) ⟨by unfold Jo; rw [if_neg (hk3 om), if_neg (hk4 om), if_neg (hk5 om), decide_eq_false (by rintro (g | g | g); exact hk3 om g; exact hk4 om g; exact hk5 om g)]; rfl, rfl⟩
theorem ACH : A9 prog 167 = some none := by kernel_rfl
theorem Xd (t : Nat) (u : B4) (iv : Value) (r : Rq) (p : HP) (hA : Dr p u iv r) : Fn prog 161 #[.agg (CM t u iv r).toArray] [p] fun v L => v = AA (Ai (r.data.length > 100) 1) ∧ L = [p] := by
 refine Fn.intro func161 Y Y fun F W => ?_
 have hcl := hA.cells t
 refine .sr (.oq (.box Y) ?_)
 rintro v L' ⟨b1, rfl, rfl⟩
 refine .a Y (.nil (.pc b1 (CM t u iv r) ?_))
 refine .then_n (.sr (.fa Y At (.fa Y Ia (.u (.ld Y Ag) (.q (.strlen Y underlying9 Y) Y (.ui Y Y Y (.cv func90 [_, _] (Ay _ _) ?_)))))))
 refine .an Y (.ret ?_)
 exact .dn Y Y ⟨by congr 1; unfold Ai; first | (simp_all; done) | (simp_all; omega) | (split <;> simp_all; done) | (split <;> simp_all <;> omega), rfl⟩
theorem W3 (t : Nat) (u : B4) (iv : Value) (r : Rq) (p : HP) (hA : Dr p u iv r) : Fn prog 163 #[.agg (CM t u iv r).toArray] [p] fun v L => v = AA (Ai (¬ FW r.acl = true) 50) ∧ L = [p] := by
 refine Fn.intro func163 Y Y fun F W => ?_
 have hcl := hA.cells t
 refine .sr (.oq (.box Y) ?_)
 rintro v L' ⟨b1, rfl, rfl⟩
 refine .a Y (.nil (.pc b1 (CM t u iv r) ?_))
 refine .then_n (.sr (.fa Y At (.fa Y J1 (.u (.ld Y F9) (.oq (.call func146 Y Y (vs := [_]) Y (K3 _ r.acl p hA.rq.acl (by have := hA.rq.many; omega) (fun a ha => (hA.rq.ids a ha).2))) ?_)))))
 rintro v L' ⟨rfl, rfl⟩
 refine .u (.not Y) (.cv func90 [_, _] (Ay _ _) ?_)
 refine .an Y (.ret ?_)
 exact .dn Y Y ⟨by congr 1; unfold Ai; first | (simp_all; done) | (simp_all; omega) | (split <;> simp_all; done) | (split <;> simp_all <;> omega), rfl⟩
theorem W6 (t : Nat) (u : B4) (iv : Value) (r : Rq) (p : HP) (hA : Dr p u iv r) : Fn prog 166 #[.agg (CM t u iv r).toArray] [p] fun v L => v = AA 0 ∧ L = [p] := by
 refine Fn.intro func166 Y Y fun F W => ?_
 have hcl := hA.cells t
 refine .sr (.oq (.box Y) ?_)
 rintro v L' ⟨b1, rfl, rfl⟩
 refine .a Y (.nil (.pc b1 (CM t u iv r) ?_))
 refine .then_n (.sr (.an Y (.ret ?_)))
 exact .vv
theorem Rw (s : LN) : Fn prog 160 #[.agg (B7 s).toArray] [] fun v L => v = AA s.ver ∧ L = [] := by
 refine Fn.intro func160 Y Y fun F W => ?_
 refine .sr (.oq (.box Y) ?_)
 rintro v L' ⟨b1, rfl, rfl⟩
 refine .a Y (.nil (.pc b1 (B7 s) ?_))
 refine .then_n (.sr (.fa Y Lg (.u (.ld Y AR) (.an Y (.ret ?_)))))
 exact .vv
theorem WY (s : LN) : Fn prog 164 #[.agg (B7 s).toArray] [] fun v L => v = AA s.av ∧ L = [] := by
 refine Fn.intro func164 Y Y fun F W => ?_
 refine .sr (.oq (.box Y) ?_)
 rintro v L' ⟨b1, rfl, rfl⟩
 refine .a Y (.nil (.pc b1 (B7 s) ?_))
 refine .then_n (.sr (.fa Y Or (.u (.ld Y AR) (.an Y (.ret ?_)))))
 exact .vv
def Cp (r : Rq) (k n : Int) : Pt :=
 if k = 3 then ⟨3, r.path, r.data, AG, [], 0, C1 (n + 1), 0, AG⟩ else if k = 4 then ⟨4, r.path, [], AG, r.acl, 0, C1 (n + 1), 0, AG⟩ else FP
theorem ABX (τ : Tr) (r : Rq) : FJ τ r = Cp r r.kind (C5 r.kind (AU τ r.path)) := by
 unfold FJ Cp
 split
 ·rename_i h; rw [h]
 ·split
  ·rename_i h; rw [h]
  ·rfl
theorem Wp (t : Nat) (u : B4) (iv : Value) (r : Rq) (p : HP) (hA : Dr p u iv r) (n : Int) : Fn prog 162 #[.agg (CM t u iv r).toArray, AA n] [p] fun v L => ∃ w : Value, v = .agg (A1 (CE (Cp r 3 n) w)).toArray ∧ (∃ a c, w = .slice a (Cp r 3 n).acl.length c) ∧ L = [p, Ad 75 2 w (Cp r 3 n).acl.length ((Cp r 3 n).acl.flatMap CP)] := by
 refine Fn.intro func162 Y Y fun F W => ?_
 have hcl := hA.cells t
 refine .sr (.oq (.box Y) ?_)
 rintro v L' ⟨b1, rfl, rfl⟩
 refine .oq (.allocA BK) ?_
 rintro v L' ⟨b4, rfl, rfl⟩
 refine .nil (.pc b1 (CM t u iv r) ?_)
 refine .then_n (.sr (.fa Y At (.fa Y Bk (.u (.ld Y Ag) (.fa Y At (.fa Y Ia (.u (.ld Y Ag) (.m Y (.u (.addW Y Y) (.q (.build (us := [(0, _), (1, _), (2, _), (5, _)]) FG BK Y Y (by simp [AB])) Y (.sa Y Y BP (by (first | (simp [AB]; done) | (simp [AB, AW, Value.cells]; done))) ?_)))))))))))
 refine .nil (.pc b4 ([AA 3, AD r.path, AD r.data, AG, AA 0, AA (C1 (n + 1)), AA 0, AG]) ?_)
 refine .add (AN 75 2) (.then_n (.ret ?_))
 exact .d1 Y (.cellA Y Az O (by simp [DR, AW]) Y) ⟨AG, Y, ⟨none, 0, Y⟩, Y⟩
theorem YX (t : Nat) (u : B4) (iv : Value) (r : Rq) (p : HP) (hA : Dr p u iv r) (n : Int) : Fn prog 165 #[.agg (CM t u iv r).toArray, AA n] [p] fun v L => ∃ w : Value, v = .agg (A1 (CE (Cp r 4 n) w)).toArray ∧ (∃ a c, w = .slice a (Cp r 4 n).acl.length c) ∧ L = [p, Ad 75 2 w (Cp r 4 n).acl.length ((Cp r 4 n).acl.flatMap CP)] := by
 refine Fn.intro func165 Y Y fun F W => ?_
 have hcl := hA.cells t
 refine .sr (.oq (.box Y) ?_)
 rintro v L' ⟨b1, rfl, rfl⟩
 refine .oq (.allocA BK) ?_
 rintro v L' ⟨b4, rfl, rfl⟩
 refine .nil (.pc b1 (CM t u iv r) ?_)
 refine .then_n (.seq (.draw [6, 10] [[0, 1, 2, 3, 4, 5, 7, 8, 6], [9, 10]] mixed kQ (.go [Ae b1 _ _] O (.k Y (.fieldAddr Y At) (.k Y (.fieldAddr Y Bk) (.k Y (.ld Y Ag) (.kv Y (.fieldAddr Y At) (.kv Y (.fieldAddr Y J1) (.kv Y (.ld Y F9) (.k Y (.move Y) (.k Y (.addW Y Y) (.hh Y (.c func134 [_] (CJ r.aclV r.acl p hA.rq.acl hA.rq.many)) ?_))))))))))))
 rintro v L' ⟨⟨a7, c7, rfl⟩, rfl⟩
 refine D.ph (.g0 (.kv Y (.build (us := [(0, _), (1, _), (3, _), (5, _)]) FG BK Y Y (by simp [AB])) (.sa Y Y Y BP (by (first | (simp [AB]; done) | (simp [AB, AW, Value.cells]; done))) ?_)))
 refine D.ph (.fin (.pc b4 ([AA 4, AD r.path, AD [], .slice a7 r.acl.length c7, AA 0, AA (C1 (n + 1)), AA 0, AG]) ?_))
 refine .then_n (.ret ?_)
 exact .d1 Y (.cellA Y Az O (by simp [DR, AW]) Y) ⟨.slice a7 r.acl.length c7, Y, ⟨a7, c7, Y⟩, Y⟩
theorem XU (t : Nat) (u : B4) (iv : Value) (r : Rq) (p : HP) (hA : Dr p u iv r) (n : Int) : Fn prog 167 #[.agg (CM t u iv r).toArray, AA n] [p] fun v L => ∃ w : Value, v = .agg (A1 (CE (Cp r 5 n) w)).toArray ∧ (∃ a c, w = .slice a (Cp r 5 n).acl.length c) ∧ L = [p, Ad 75 2 w (Cp r 5 n).acl.length ((Cp r 5 n).acl.flatMap CP)] := by
 refine Fn.intro func167 Y Y fun F W => ?_
 have hcl := hA.cells t
 refine .sr (.oq (.box Y) ?_)
 rintro v L' ⟨b1, rfl, rfl⟩
 refine .oq (.allocA BK) ?_
 rintro v L' ⟨b4, rfl, rfl⟩
 refine .nil (.pc b1 (CM t u iv r) ?_)
 refine .then_n (.sr (.q (.build (us := [(0, _)]) FG BK Y Y (by simp [AB])) Y (.sa Y Y BP (by (first | (simp [AB]; done) | (simp [AB, AW, Value.cells]; done))) ?_)))
 refine .nil (.pc b4 ([AA 0, AD [], AD [], AG, AA 0, AA 0, AA 0, AG]) ?_)
 refine .add (AN 75 2) (.then_n (.ret ?_))
 exact .d1 Y (.cellA Y Az O (by simp [DR, AW]) Y) ⟨AG, Y, ⟨none, 0, Y⟩, Y⟩
theorem Zi (t : Nat) (u : B4) (iv : Value) (r : Rq) (p : HP) (hA : Dr p u iv r) (hk : r.kind = 3 ∨ r.kind = 4 ∨ r.kind = 5) : ∃ f1 f2 f3 : Value, Jo r.kind = [f1, AA (OL r.kind), f2, f3] ∧ AB f1 = true ∧ AB f2 = true ∧ AB f3 = true ∧
  CA prog f1 [.agg (CM t u iv r).toArray] [p] (fun v L => v = AA (Eh r) ∧ L = [p]) ∧ (∀ s : LN, CA prog f2 [.agg (B7 s).toArray] [] (fun v L => v = AA (C5 r.kind s) ∧ L = [])) ∧
  ∀ n : Int, CA prog f3 [.agg (CM t u iv r).toArray, AA n] [p] (fun v L => ∃ w : Value, v = .agg (A1 (CE (Cp r r.kind n) w)).toArray ∧ (∃ a c, w = .slice a (Cp r r.kind n).acl.length c) ∧ L = [p, Ad 75 2 w (Cp r r.kind n).acl.length ((Cp r r.kind n).acl.flatMap CP)]) := by
 rcases hk with hk | hk | hk
 ·have hw : Eh r = Ai (r.data.length > 100) 1 := if_pos hk
  rw [hw, hk]
  exact ⟨_, _, _, rfl, rfl, rfl, rfl, CA.of (us := []) (vs := [.agg (CM t u iv r).toArray]) (ws := []) func161 rfl rfl (Xd t u iv r p hA), fun s => CA.of (us := []) (vs := [.agg (B7 s).toArray]) (ws := []) func160 rfl rfl (Rw s), fun n => CA.of (us := []) (vs := [.agg (CM t u iv r).toArray, AA n]) (ws := []) func162 rfl rfl (Wp t u iv r p hA n)⟩
 ·have hw : Eh r = Ai (¬ FW r.acl = true) 50 := by unfold Eh; rw [if_neg om, if_pos hk]
  rw [hw, hk]
  exact ⟨_, _, _, rfl, rfl, rfl, rfl, CA.of (us := []) (vs := [.agg (CM t u iv r).toArray]) (ws := []) func163 rfl rfl (W3 t u iv r p hA), fun s => CA.of (us := []) (vs := [.agg (B7 s).toArray]) (ws := []) func164 rfl rfl (WY s), fun n => CA.of (us := []) (vs := [.agg (CM t u iv r).toArray, AA n]) (ws := []) func165 rfl rfl (YX t u iv r p hA n)⟩
 ·have hw : Eh r = 0 := by unfold Eh; rw [if_neg om, if_neg om]
  rw [hw, hk]
  exact ⟨_, _, _, rfl, rfl, rfl, rfl, CA.of (us := []) (vs := [.agg (CM t u iv r).toArray]) (ws := []) func166 rfl rfl (W6 t u iv r p hA), fun s => CA.of (us := []) (vs := [.agg (B7 s).toArray]) (ws := []) func160 rfl rfl (Rw s), fun n => CA.of (us := []) (vs := [.agg (CM t u iv r).toArray, AA n]) (ws := []) func167 rfl rfl (XU t u iv r p hA n)⟩
theorem Wf (t : Nat) (τ : Tr) (u : B4) (iv : Value) (r : Rq) (p : HP) (hA : Dr p u iv r) (N : Nat) (ho : τ.Ok N) (hN : N ≤ 1099511627776) (b : Nat) : Fn prog 86 #[AI b] [Ae b (CM t u iv r) 134] fun v L => v = AA (BG r.path) ∧ L = [Ae b (CM t u iv r) 134] := by
 refine Fn.intro func86 Y Y fun F W => ?_
 have hpl := hA.rq.path
 have hpl2 : r.path.length ≤ 1048576 := by omega
 refine .sr (.an Y (.sr (.fa Y At (.fa Y Bk (.u (.ld Y Ag) (.cv func87 [_] (ED r.path hpl2) ?_))))))
 refine .an Y (.ret ?_)
 exact .vv
theorem Xv (t : Nat) (τ : Tr) (u : B4) (iv : Value) (r : Rq) (p : HP) (hA : Dr p u iv r) (N : Nat) (ho : τ.Ok N) (hN : N ≤ 1099511627776) (b : Nat) (bk : Nat) (f1 f2 f3 : Value) (m : Int) (e : Int) (hf : CA prog f1 [.agg (CM t u iv r).toArray] [p] (fun v L => v = AA e ∧ L = [p])) : Fn prog 88 #[AI bk, AI b] [Ae bk [f1, AA m, f2, f3] 171, Ae b (CM t u iv r) 134, p] fun v L => v = AA (e) ∧ L = [Ae bk [f1, AA m, f2, f3] 171, Ae b (CM t u iv r) 134, p] := by
 refine Fn.intro func88 Y Y fun F W => ?_
 refine .sr (.an Y (.sr (.fa Y Wv (.q (.load Y ACH O Y) Y (.q (.la (CM t u iv r) Y E4) Y (.oq (.callD (vs := [_]) Y Y (hf)) ?_))))))
 rintro v L' ⟨rfl, rfl⟩
 refine .an Y (.ret ?_)
 exact .dn Y Y ⟨Y, Y⟩
theorem Yg (b : Nat) (c : Prop) [Decidable c] : Fn prog 89 #[AI b] [Ae b [.bool (decide c)] 4] fun v L => v = AA (Ai (¬ c) 60) ∧ L = [Ae b [.bool (decide c)] 4] := by
 refine Fn.intro func89 Y Y fun F W => ?_
 refine .sr (.an Y (.sr (.u (.ld Y Xc) (.u (.not Y) (.cv func90 [_, _] (Ay _ _) ?_)))))
 refine .an Y (.ret ?_)
 exact .dn Y Y ⟨by congr 1; unfold Ai; first | (simp_all; done) | (simp_all; omega) | (split <;> simp_all; done) | (split <;> simp_all <;> omega), rfl⟩
theorem Y5 (t : Nat) (τ : Tr) (u : B4) (iv : Value) (r : Rq) (p : HP) (hA : Dr p u iv r) (N : Nat) (ho : τ.Ok N) (hN : N ≤ 1099511627776) (b : Nat) (bk : Nat) (f1 f2 f3 : Value) (m : Int) : Fn prog 91 #[AI b, AI bk] [Ae b (CM t u iv r) 134, Ae bk [f1, AA m, f2, f3] 171, Aa t τ, p] fun v L => v = AA (Ai (¬ Hj τ u.ids r.path m) 65) ∧ L = [Ae b (CM t u iv r) 134, Ae bk [f1, AA m, f2, f3] 171, Aa t τ, p] := by
 refine Fn.intro func91 Y Y fun F W => ?_
 refine .sr (.an Y (.sr (.q (.la (CM t u iv r) Y E4) Y (.fa Y At (.fa Y Bk (.u (.ld Y Ag) (.fa Y X3 (.u (.ld Y AR) (.cv func92 [_, _, _] (IJ t τ u iv r p hA N ho hN r.path m) ?_)))))))))
 refine .u (.not Y) (.cv func90 [_, _] (Ay _ _) ?_)
 refine .an Y (.ret ?_)
 exact .dn Y Y ⟨by congr 1; unfold Ai; first | (simp_all; done) | (simp_all; omega) | (split <;> simp_all; done) | (split <;> simp_all <;> omega), rfl⟩
theorem Y3 (t : Nat) (τ : Tr) (u : B4) (iv : Value) (r : Rq) (p : HP) (hA : Dr p u iv r) (N : Nat) (ho : τ.Ok N) (hN : N ≤ 1099511627776) (b : Nat) (bk : Nat) (f1 f2 f3 : Value) (m : Int) (c : Nat) (s : LN) (g : LN → Int) (hf : CA prog f2 [.agg (B7 s).toArray] [] (fun v L => v = AA (g s) ∧ L = [])) : Fn prog 93 #[AI b, AI bk, AI c] [Ae b (CM t u iv r) 134, Ae bk [f1, AA m, f2, f3] 171, Ae c (B7 s) 37] fun v L => v = AA (Ai (r.ver ≠ -1 ∧ r.ver ≠ g s) 66) ∧ L = [Ae b (CM t u iv r) 134, Ae bk [f1, AA m, f2, f3] 171, Ae c (B7 s) 37] := by
 refine Fn.intro func93 Y Y fun F W => ?_
 refine .sr (.an Y (.seq (.draw [] [[0, 1, 2, 3, 4, 5, 6, 7, 8, 9, 10, 11, 12, 13, 14, 15]] mixed kQ (.go [Ae b _ _, Ae bk _ _, Ae c _ _] O (.kv Y (.fieldAddr Y At) (.kv Y (.fieldAddr Y Lw) (.kv Y (.ld Y AR) (.kv Y (.int Y Y Y) (.mv Y Y (.ndec (t := 8) Y (fun h1_8 => ?_) (fun h1_8 => ?_)))))))))))
 ·refine D.kNT (t := 7) Y h1_8 (.gv Y (.fieldAddr Y At) (.gv Y (.fieldAddr Y Lw) (.gv Y (.ld Y AR) (.gv Y (.fieldAddr Y QO) (.gv Y (.load Y AAg O Y) (.gv Y (.la (B7 s) Y Ef) (.gm (t := 8) Y Y Y kQ (.callD (vs := [_]) Y Y (hf)) O ?_)))))))
  refine D.gv Y (.int Y Y Y) (.kv Y (.pickT Y Y) (.m Y kQ (.c func90 [_, _] (Ay _ _)) O ?_))
  refine D.kv Y (.assign Y) (.pf (.ret ?_))
  exact .dn Y Y ⟨by congr 1; unfold Ai; first | (simp_all; done) | (simp_all; omega) | (split <;> simp_all; done) | (split <;> simp_all <;> omega), rfl⟩
 refine D.kNF (t := 7) Y h1_8 (.gz Y (.gz Y (.gz Y (.gz Y (.gz Y (.gz Y (.gz Y (.gz Y (.kv Y (.pickF Y Y) (.m Y kQ (.c func90 [_, _] (Ay _ _)) O ?_))))))))))
 refine D.kv Y (.assign Y) (.pf (.ret ?_))
 exact .dn Y Y ⟨by congr 1; unfold Ai; first | (simp_all; done) | (simp_all; omega) | (split <;> simp_all; done) | (split <;> simp_all <;> omega), rfl⟩
theorem Zs (t : Nat) (τ : Tr) (u : B4) (iv : Value) (r : Rq) (p : HP) (hA : Dr p u iv r) (N : Nat) (ho : τ.Ok N) (hN : N ≤ 1099511627776) (f1 f2 f3 : Value) (hf1 : CA prog f1 [.agg (CM t u iv r).toArray] [p] (fun v L => v = AA (Eh r) ∧ L = [p])) (hf2 : ∀ s : LN, CA prog f2 [.agg (B7 s).toArray] [] (fun v L => v = AA (C5 r.kind s) ∧ L = [])) (b1 bk bs bi : Nat) (va : Value) (p0 : HP) (hr : ∀ h : Hp, p0 h → Cx 1 h va 5 [.func (.func 86) #[] #[AI b1], .func (.func 88) #[] #[AI bk, AI b1], .func (.func 89) #[] #[AI bi], .func (.func 91) #[] #[AI b1, AI bk], .func (.func 93) #[] #[AI b1, AI bk, AI bs]]) : Fn prog 85 #[va] [p0, Ae b1 (CM t u iv r) 134, Ae bk [f1, AA (OL r.kind), f2, f3] 171, Ae bs (B7 (AU τ r.path)) 37, Ae bi [.bool (decide (AQ τ r.path))] 4, Aa t τ, p] fun v L => v = AA (B2 (J3 τ u r)) ∧ L = [p0, Ae b1 (CM t u iv r) 134, Ae bk [f1, AA (OL r.kind), f2, f3] 171, Ae bs (B7 (AU τ r.path)) 37, Ae bi [.bool (decide (AQ τ r.path))] 4, Aa t τ, p] := by
 refine Fn.unpack (GJ [.func (.func 86) #[] #[AI b1], .func (.func 88) #[] #[AI bk, AI b1], .func (.func 89) #[] #[AI bi], .func (.func 91) #[] #[AI b1, AI bk], .func (.func 93) #[] #[AI b1, AI bk, AI bs]] (J3 τ u r) va p0 _ rfl (by show 5 ≤ _; decide) hr ?_)
 intro i hi hz
 have hi2 : i < 5 := hi
 have hc : i = 0 ∨ i = 1 ∨ i = 2 ∨ i = 3 ∨ i = 4 := by omega
 rcases hc with rfl | rfl | rfl | rfl | rfl
 ·exact CA.share (us := []) (vs := []) (ws := [AI b1]) func86 rfl rfl O (Wf t τ u iv r p hA N ho hN b1)
 ·exact CA.share (us := []) (vs := []) (ws := [AI bk, AI b1]) func88 rfl rfl O (Xv t τ u iv r p hA N ho hN b1 bk f1 f2 f3 _ (Eh r) hf1)
 ·exact CA.share (us := []) (vs := []) (ws := [AI bi]) func89 rfl rfl O (Yg bi _)
 ·exact CA.share (us := []) (vs := []) (ws := [AI b1, AI bk]) func91 rfl rfl O (Y5 t τ u iv r p hA N ho hN b1 bk f1 f2 f3 _)
 ·exact CA.share (us := []) (vs := []) (ws := [AI b1, AI bk, AI bs]) func93 rfl rfl O (Y3 t τ u iv r p hA N ho hN b1 bk f1 f2 f3 _ bs _ (C5 r.kind) (hf2 _))
theorem QQ (k : Int) : (Jo k).all AB = true := by
 unfold Jo
 split
 ·rfl
 ·split
  ·rfl
  ·split <;> rfl
theorem OU (k : Int) : (Jo k).length = 4 := by
 unfold Jo
 split
 ·rfl
 ·split
  ·rfl
  ·split <;> rfl
theorem Ve (r : Rq) (k n : Int) : ∃ a m c, (Cp r k n).subsV = .slice a m c := by
 unfold Cp
 split
 ·exact ⟨_, _, _, rfl⟩
 ·split <;> exact ⟨_, _, _, rfl⟩
theorem Gs {τ : Tr} {u : B4} {r : Rq} (h : r.kind = 1) : AV τ u r = (Ar τ u r, B2 (Dp τ u r)) := if_pos h
theorem H0 {τ : Tr} {u : B4} {r : Rq} (h : r.kind = 2) : AV τ u r = (EA τ r, B2 (GX τ u r)) := by unfold AV; rw [if_neg om, if_pos h]
theorem Oe {x : Pt} {a : Option Addr} {n c : Nat} (h : ∃ a n c, x.subsV = .slice a n c) : (A1 (CE x (.slice a n c))).all AB = true := by
 obtain ⟨a, n, c, e⟩ := h
 simp [A1, CE, e, AB]
theorem Me (t : Nat) (τ : Tr) (u : B4) (iv : Value) (r : Rq) (p : HP) (hA : Dr p u iv r) (N : Nat) (ho : τ.Ok N) (hN : N ≤ 1099511627776) (hcv : A4 (JA τ r).cver) : Fn prog 51 #[.agg (CM t u iv r).toArray] [Aa t τ, p] fun v L => ∃ w : Value, v = .tuple #[.agg (A1 (CE (AV τ u r).1 w)).toArray, AA (AV τ u r).2] ∧ (∃ a c, w = .slice a (AV τ u r).1.acl.length c) ∧ L = [Aa t τ, p, Ad 75 2 w (AV τ u r).1.acl.length ((AV τ u r).1.acl.flatMap CP)] := by
 refine Fn.intro func51 Y Y fun F W => ?_
 have hpl := hA.rq.path
 have hpl2 : r.path.length ≤ 1048576 := by omega
 have hcl := hA.cells t
 refine .sr (.oq (.box Y) ?_)
 rintro v L' ⟨b1, rfl, rfl⟩
 refine .oq (.allocA BK) ?_
 rintro v L' ⟨bx, rfl, rfl⟩
 refine .a Y (.nil (.pc b1 (CM t u iv r) ?_))
 refine .then_n (.seq (.sr (.fa Y At (.fa Y Bl (.u (.ld Y AR) (.nt (.block (.sr (.ui Y Y Y (.an Y (.condD Y (fun h12 => ?_) (fun h12 => ?_))))))))))))
 ·refine .sr (.q (.la (CM t u iv r) Y E4) Y (.oq (.c func82 [_] (PL t τ u iv r p hA N ho hN hcv)) ?_))
  rintro v L' ⟨w, rfl, ⟨aw, cw, rfl⟩, rfl⟩
  refine .ex Y Y (.ex Y Y (.sa Y Y BP (by simp [A1, CE, Ar, AB]) ?_))
  refine .a Y (.nil (.pc bx ([AA (Ar τ u r).kind, AD (Ar τ u r).path, AD (Ar τ u r).data, .slice aw r.acl.length cw, AA (Ar τ u r).own, AA (Ar τ u r).num, AA (Ar τ u r).err, (Ar τ u r).subsV]) ?_))
  refine .then_n (.ret (.blk_r (.then_r ?_)))
  exact .d2 Y (.cellA Y Az O (by simp [DR, AW]) Y) (.tmp Y) ⟨.slice aw r.acl.length cw, by first | (rw [Gs h12]; done) | (rw [Gs h12]; rfl), by rw [Gs h12]; exact ⟨_, _, rfl⟩, by first | (rw [Gs h12]; done) | (rw [Gs h12]; rfl)⟩
 refine .sr (.ui Y Y Y (.an Y (.condD Y (fun h18 => ?_) (fun h18 => ?_))))
 ·refine .sr (.q (.la (CM t u iv r) Y E4) Y (.cv func83 [_] (Qd t τ u iv r p hA N ho hN) ?_))
  refine .ex Y Y (.ex Y Y (.sa Y Y BP (by simp [A1, EA, AB]) ?_))
  refine .a Y (.nil (.pc bx ([AA (EA τ r).kind, AD (EA τ r).path, AD (EA τ r).data, AG, AA (EA τ r).own, AA (EA τ r).num, AA (EA τ r).err, (EA τ r).subsV]) ?_))
  refine .add (AN 75 2) (.then_n (.ret (.blk_r (.then_r ?_))))
  exact .d2 Y (.cellA Y Az O (by simp [DR, AW]) Y) (.tmp Y) ⟨AG, by first | (rw [H0 h18]; done) | (rw [H0 h18]; rfl), by rw [H0 h18]; exact ⟨_, _, rfl⟩, by first | (rw [H0 h18]; done) | (rw [H0 h18]; rfl)⟩
 refine .skip (.blk_n (.then_n (.sr (.fa Y At (.fa Y Bl (.u (.ld Y AR) (.cv func84 [_] (Rh r.kind) ?_)))))))
 refine .m Y (.ex Y Y (.ex Y Y (.oq (.allocA KZ) ?_)))
 rintro v L' ⟨bk, rfl, rfl⟩
 refine .oq (.storeA Y Y ?c40 MV ?c43 ?c41 (Bf _ _)) ?_
 case c40 => exact fun v hv => all_eq_true.1 (QQ r.kind) v hv
 case c43 => exact OU _
 case c41 => simp [OU]
 rintro v L' rfl
 refine .an Y (.seq (.sm Y (.u (.not Y) (.nt (.condN Y (fun h32 => ?_) (fun h32 => ?_))))))
 ·have hP : AV τ u r = (FP, 110) := by unfold AV; rw [if_neg h12, if_neg h18, if_neg h32]
  have hkc : Jo r.kind = [.nilFunc, AA 0, .nilFunc, .nilFunc] := by unfold Jo; rw [if_neg (fun g => h32 (.inl g)), if_neg (fun g => h32 (.inr (.inl g))), if_neg (fun g => h32 (.inr (.inr g)))]
  refine .sr (.q (.build (us := []) FG BK Y Y (by simp [AB])) Y (.sa Y Y BP (by (first | (simp [AB]; done) | (simp [AB, AW, Value.cells]; done))) ?_))
  refine .a Y (.nil (.pc bx ([AA 0, AD [], AD [], AG, AA 0, AA 0, AA 0, AG]) ?_))
  refine .add (AN 75 2) (.then_n (.rt ?_))
  exact .d2 Y (.cellA Y Az O (by simp [DR, AW]) Y) (.tmp Y) ⟨AG, by first | (rw [hP]; done) | (rw [hP]; rfl), by rw [hP]; exact ⟨_, _, rfl⟩, by first | (rw [hP]; done) | (rw [hP]; rfl)⟩
 have hP : AV τ u r = (Cp r r.kind (C5 r.kind (AU τ r.path)), B2 (J3 τ u r)) := by unfold AV; rw [if_neg h12, if_neg h18, if_pos h32, ABX]
 obtain ⟨f1, f2, f3, hkc, hc1, hc2, hc3, hf1, hf2, hf3⟩ := Zi t u iv r p hA h32
 refine .ptCast (b := bk) (l' := [f1, AA (OL r.kind), f2, f3]) O (by rw [hkc]; rfl) ?_
 refine .sk (.sr (.fa Y D2 (.u (.ld Y DA) (.fa Y At (.fa Y Bk (.u (.ld Y Ag) (.cv func76 [_, _] (BZ t τ _ N ho hN) ?_)))))))
 refine .m Y (.ex Y Y (.ex Y Y (.oq (.allocA DO) ?_)))
 rintro v L' ⟨bs, rfl, rfl⟩
 refine .oq (.alloc NU) ?_
 rintro v L' ⟨bi, rfl, rfl⟩
 refine .sa Y Y DD (by simp [B7, AB]) ?_
 refine .st Y Y Y Mv ?_
 refine .nil (.pc bs (B7 (AU τ r.path)) ?_)
 refine .then_n (.sr (.q (.func (us := []) (vs := [_]) Y Y) Y (.q (.func (us := []) (vs := [_, _]) Y Y) Y (.q (.func (us := []) (vs := [_]) Y Y) Y (.q (.func (us := []) (vs := [_, _]) Y Y) Y (.q (.func (us := []) (vs := [_, _, _]) Y Y) Y (.oq (.buildSlice1 (vs := [_, _, _, _, _]) I9 Kj Y Y Y Y Y dQ) ?_)))))))
 rintro v L' ⟨bf, rfl, rfl⟩
 refine .slMake (b := bf) (n := 5) (c := 5) (xs := [.func (.func 86) #[] #[AI b1], .func (.func 88) #[] #[AI bk, AI b1], .func (.func 89) #[] #[AI bi], .func (.func 91) #[] #[AI b1, AI bk], .func (.func 93) #[] #[AI b1, AI bk, AI bs]]) O dQ (by exact Nat.le_refl 5) Y (.cv func85 [_] (Zs t τ u iv r p hA N ho hN f1 f2 f3 hf1 hf2 b1 bk bs bi _ _ (fun _ => AZ)) ?_)
 refine .an Y (.seq (.draw [7, 9] [[0, 1, 2, 3, 4, 5, 6, 8, 7, 9], [10]] mixed kQ (.go [Ae b1 _ _, Ae bk _ _, Ae bs _ _] O (.kv Y (.fieldAddr Y WJ) (.kv Y (.load Y ACU O Y) (.kv Y (.la (CM t u iv r) Y E4) (.kv Y (.fieldAddr Y QO) (.kv Y (.load Y AAg O Y) (.kv Y (.la (B7 (AU τ r.path)) Y Ef) (.m Y kQ (.callD (vs := [_]) Y Y (hf2 _)) O ?_))))))))))
 refine D.k Y (.move Y) (.hh Y (.callD (vs := [_, _]) Y Y (hf3 _)) ?_)
 rintro v L' ⟨w, rfl, ⟨aw, cw, rfl⟩, rfl⟩
 refine D.sa Y Y Y BP (by exact fun v hv => all_eq_true.1 (Oe (Ve r _ _)) v hv) ?_
 refine D.ph (.g0 (.kv Y (.assign Y) (.ph (.fin (.pc bx ([AA (Cp r r.kind (C5 r.kind (AU τ r.path))).kind, AD (Cp r r.kind (C5 r.kind (AU τ r.path))).path, AD (Cp r r.kind (C5 r.kind (AU τ r.path))).data, .slice aw (Cp r r.kind (C5 r.kind (AU τ r.path))).acl.length cw, AA (Cp r r.kind (C5 r.kind (AU τ r.path))).own, AA (Cp r r.kind (C5 r.kind (AU τ r.path))).num, AA (Cp r r.kind (C5 r.kind (AU τ r.path))).err, (Cp r r.kind (C5 r.kind (AU τ r.path))).subsV]) ?_)))))
 refine .then_n (.ret ?_)
 exact .d2 Y (.cellA Y Az O (by simp [DR, AW]) Y) (.tmp Y) ⟨.slice aw (Cp r r.kind (C5 r.kind (AU τ r.path))).acl.length cw, by first | (rw [hP]; done) | (rw [hP]; rfl), by rw [hP]; exact ⟨_, _, rfl⟩, by first | (rw [hP]; done) | (rw [hP]; rfl)⟩
abbrev PN := Bs × Nd
abbrev SN := Int × (Int × Bs)
def XZ (s : LN) : List Int := [s.cz, s.mz, s.pz, s.ver, s.cver, s.av, s.own]
/-! ### Read again -/
def AB2 (last p : Bs) : Prop := BG p = 0 ∧ last < p ∧ (last = [] ↔ p = [47])
def nextS (last id : Int) : Prop := last < id
instance (a p : Bs) : Decidable (AB2 a p) := inferInstanceAs (Decidable (_ ∧ _ ∧ _))
instance (a p : Int) : Decidable (nextS a p) := inferInstanceAs (Decidable (_ < _))
/-! What a text is, step by step: what is read, and what is left to be read. -/
open Classical in
open Classical in
open Classical in
/-! ### What is read was laid so -/
/-! ### What was laid is read again -/
/-! ### A tree that is being laid -/
def Lb (τ : Tr) (e : En) : Tr := (AC τ e.zx e.x e.subs).1
def HR (τ : Tr) (l : List En) : Tr := l.foldl Lb τ
theorem KN (τ : Tr) (l : List En) (e : En) : HR τ (l ++ [e]) = Lb (HR τ l) e := by unfold HR; rw [foldl_append]; rfl
def ptS (kind : Int) (path data : Bs) (num : Int) : Pt := ⟨kind, path, data, .slice none 0 0, [], 0, num, 0, .slice none 0 0⟩
theorem Tl (sz : Nat) (h : Hp) : Cx sz h (.slice none 0 0) 0 [] := .inl ⟨rfl, rfl, none, 0, rfl⟩
theorem ABM (p : HP) {kind : Int} {path data : Bs} {num : Int} (hp : path.length ≤ 1048576) : X9 p (ptS kind path data num) := ⟨fun h _ => Tl 2 h, Nat.zero_le _, hp, rfl, rfl⟩
theorem SM (p : HP) {kind : Int} {path data : Bs} {num : Int} (hp : path.length ≤ 1048576) : TxA p (ptS kind path data num) [] := ⟨ABM p hp, fun h _ => Tl 8 h, Nat.zero_le _, fun y hy => by cases hy⟩
/-! ### Raw acts -/
/-! ### Parts touch what is theirs -/
theorem Fr (τ : Tr) (x : Pt) (zx : Int) : (AJ τ x zx).1.sess = τ.sess := by
 unfold AJ Ab As
 repeat' split
 all_goals rfl
/-! ### The chapter's examples -/
theorem Kk {n : Int} (h : A4 n) : (EZ n).length ≤ 10 := EU (TH h)
theorem ND {α : Type} {f : α → Bs} {c : Nat} : ∀ {l : List α}, (∀ x ∈ l, (f x).length ≤ c) → (l.flatMap f).length ≤ l.length * c
 | [], _ => by simp
 | y :: l, h => by
  have h1 := h y (mem_cons_self ..)
  have h2 := ND (l := l) (f := f) (fun x hx => h x (mem_cons_of_mem _ hx))
  rw [flatMap_cons, length_append, length_cons, Nat.add_mul]; omega
structure Gc (l : List Ac) : Prop where
 few : l.length ≤ 1048576
 long : (Fi l).length ≤ 33000000
 each : ∀ a ∈ l, AcI a ∧ a.2.length ≤ 1048576
structure PnW (y : PN) : Prop where
 p : y.1.length ≤ 60
 d : y.2.data.length ≤ 1048576
 acl : Gc y.2.acl
 st : ∀ n ∈ XZ y.2.st, A4 n
 bare : y.2.st.len = 0 ∧ y.2.st.kids = 0
structure SnW (x : SN) : Prop where
 i : A4 x.1
 t : A4 x.2.1
 s : x.2.2.length ≤ 1048576
structure Le (τ : Tr) : Prop where
 nd : ∀ y ∈ τ.nodes, PnW y
 ss : ∀ x ∈ τ.sess, SnW x
 zx : A4 τ.zx
theorem Ue {s : Bs} (h : s.length ≤ 1048576) : (FM s).length ≤ 1048586 := by
 have h1 := EU (u := s.length) (by have : FS = 18446744073709551616 := rfl; omega)
 unfold FM Cu
 rw [length_append]; omega
/-! ### B4 keeps it -/
structure PtN (x : Pt) : Prop where
 own : A4 x.own
 num : A4 x.num
 data : x.data.length ≤ 1048576
 acl : Gc x.acl
structure EnN (e : En) : Prop where
 zx : A4 e.zx
 x : PtN e.x
 each : ∀ y ∈ e.subs, PtN y
theorem BS {s : LN} {n : Int} : n ∈ XZ s ↔ n = s.cz ∨ n = s.mz ∨ n = s.pz ∨ n = s.ver ∨ n = s.cver ∨ n = s.av ∨ n = s.own := by
 simp [XZ]
theorem PnW.kid {p : Bs} {n : Nd} (h : PnW (p, n)) {num zx : Int} (h1 : A4 num) (h2 : A4 zx) : PnW (p, kidN num zx n) := by
 refine ⟨h.p, h.d, h.acl, fun k hk => ?_, h.bare⟩
 have hs := h.st
 rw [BS] at hk
 rcases hk with rfl | rfl | rfl | rfl | rfl | rfl | rfl
 ·exact hs _ (BS.2 (.inl rfl))
 ·exact hs _ (BS.2 (.inr (.inl rfl)))
 ·exact h2
 ·exact hs _ (BS.2 (.inr (.inr (.inr (.inl rfl)))))
 ·exact h1
 ·exact hs _ (BS.2 (.inr (.inr (.inr (.inr (.inr (.inl rfl)))))))
 ·exact hs _ (BS.2 (.inr (.inr (.inr (.inr (.inr (.inr rfl)))))))
theorem PnW.set {p : Bs} {n : Nd} (h : PnW (p, n)) {d : Bs} {num zx : Int} (hd : d.length ≤ 1048576) (h1 : A4 num) (h2 : A4 zx) : PnW (p, Fw d num zx n) := by
 refine ⟨h.p, hd, h.acl, fun k hk => ?_, h.bare⟩
 have hs := h.st
 rw [BS] at hk
 rcases hk with rfl | rfl | rfl | rfl | rfl | rfl | rfl
 ·exact hs _ (BS.2 (.inl rfl))
 ·exact h2
 ·exact hs _ (BS.2 (.inr (.inr (.inl rfl))))
 ·exact h1
 ·exact hs _ (BS.2 (.inr (.inr (.inr (.inr (.inl rfl))))))
 ·exact hs _ (BS.2 (.inr (.inr (.inr (.inr (.inr (.inl rfl)))))))
 ·exact hs _ (BS.2 (.inr (.inr (.inr (.inr (.inr (.inr rfl)))))))
theorem PnW.acl' {p : Bs} {n : Nd} (h : PnW (p, n)) {l : List Ac} {num : Int} (hl : Gc l) (h1 : A4 num) : PnW (p, FU l num n) := by
 refine ⟨h.p, h.d, hl, fun k hk => ?_, h.bare⟩
 have hs := h.st
 rw [BS] at hk
 rcases hk with rfl | rfl | rfl | rfl | rfl | rfl | rfl
 ·exact hs _ (BS.2 (.inl rfl))
 ·exact hs _ (BS.2 (.inr (.inl rfl)))
 ·exact hs _ (BS.2 (.inr (.inr (.inl rfl))))
 ·exact hs _ (BS.2 (.inr (.inr (.inr (.inl rfl)))))
 ·exact hs _ (BS.2 (.inr (.inr (.inr (.inr (.inl rfl))))))
 ·exact h1
 ·exact hs _ (BS.2 (.inr (.inr (.inr (.inr (.inr (.inr rfl)))))))
theorem Qc : A4 0 := by decide
theorem PnW.new {x : Pt} (h : PtN x) (hp : Co x.path) {zx : Int} (hz : A4 zx) : PnW (x.path, DT x zx) := by
 refine ⟨Ec (.inr hp), h.data, h.acl, fun k hk => ?_, ⟨rfl, rfl⟩⟩
 rw [BS] at hk
 rcases hk with rfl | rfl | rfl | rfl | rfl | rfl | rfl
 ·exact hz
 ·exact hz
 ·exact hz
 ·exact Qc
 ·exact Qc
 ·exact Qc
 ·exact h.own
theorem PD {l : List PN} {p : Bs} {f : Nd → Nd} (h : ∀ y ∈ l, PnW y) (hf : ∀ n, PnW (p, n) → PnW (p, f n)) : ∀ y ∈ amod l p f, PnW y := by
 intro y hy
 obtain ⟨x, hx, e1, e2 | ⟨e2, e3⟩⟩ := KE hy
 ·have : y = x := Prod.ext e1.symm e2
  rw [this]; exact h x hx
 ·have e : y = (p, f x.2) := Prod.ext (e1.symm.trans e2) e3
  rw [e]
  refine hf _ ?_
  have := h x hx
  rw [← e2]; exact this
theorem Le.part {τ : Tr} (h : Le τ) {x : Pt} (hx : PtN x) {zx : Int} (hz : A4 zx) : Le (AJ τ x zx).1 := by
 unfold AJ
 split
 ·unfold Ab
  split
  ·rename_i g
   refine ⟨PD (fun y hy => ?_) fun n hn => hn.kid hx.num hz, h.ss, h.zx⟩
   rcases FO hy with rfl | hy
   ·exact PnW.new hx g.1 hz
   ·exact h.nd y hy
  ·exact h
 split
 ·unfold As
  split
  ·exact ⟨PD (fun y hy => h.nd y (mem_filter.1 hy).1) fun n hn => hn.kid hx.num hz, h.ss, h.zx⟩
  ·exact h
 split
 ·exact ⟨PD h.nd fun n hn => hn.set hx.data hx.num hz, h.ss, h.zx⟩
 split
 ·exact ⟨PD h.nd fun n hn => hn.acl' hx.acl hx.num, h.ss, h.zx⟩
 ·exact h
theorem Le.parts {τ : Tr} (h : Le τ) {zx : Int} (hz : A4 zx) {l : List Pt} (hl : ∀ x ∈ l, PtN x) : Le (AH τ zx l).1 := by
 have key : ∀ (l : List Pt) (r : Tr × List Ev), Le r.1 → (∀ x ∈ l, PtN x) → Le (l.foldl (fun r x => ((AJ r.1 x zx).1, r.2 ++ (AJ r.1 x zx).2)) r).1 := by
  intro l
  induction l with
  | nil => intro r h _; exact h
  | cons x l ih =>
   intro r h hl
   rw [foldl_cons]
   exact ih _ (h.part (hl x (by simp)) hz) (fun y hy => hl y (by simp [hy]))
 exact key l _ h hl
theorem Le.zxT {τ : Tr} (h : Le τ) {z : Int} (hz : A4 z) : Le (Go.Proofs.YtmbnebafdhpgpaaGreatDoor.zxT τ z) := ⟨h.nd, h.ss, hz⟩
theorem Le.app {τ : Tr} (h : Le τ) {e : En} (he : EnN e) : Le (Lb τ e) := by
 have h0 := h.zxT he.zx
 unfold Lb AC
 dsimp only
 split
 ·split
  ·refine ⟨h0.nd, fun y hy => ?_, h0.zx⟩
   rcases FO hy with rfl | hy
   ·exact ⟨he.x.own, he.x.num, he.x.data⟩
   ·exact h0.ss y hy
  ·exact h0
 split
 ·have h1 := h0.parts he.zx (l := e.subs.filter Aj) fun y hy => he.each y (mem_filter.1 hy).1
  exact ⟨h1.nd, fun y hy => h1.ss y (mem_filter.1 hy).1, h1.zx⟩
 split
 ·exact h0.parts he.zx he.each
 split
 ·exact h0
 ·exact h0.part he.x he.zx
theorem Le.new : Le Dv := by
 refine ⟨fun y hy => ?_, fun x hx => (by cases hx), Qc⟩
 simp only [Dv, mem_singleton] at hy
 subst hy
 refine ⟨by decide, by decide, ⟨by decide, ?_, fun a ha => ?_⟩, fun n hn => ?_, ⟨rfl, rfl⟩⟩
 ·have h1 := Kk (n := 31) dQ
  have h2 := Ue (s := [119, 111, 114, 108, 100]) dQ
  have h3 := EU (u := 0 + 1) dQ
  unfold Fi L8
  simp only [flatMap_cons, flatMap_nil, length_append, length_nil, length_cons] at *
  unfold Cu
  omega
 ·simp only [mem_singleton] at ha; subst ha
  exact ⟨⟨by decide, by decide⟩, by decide⟩
 ·rw [BS] at hn
  rcases hn with rfl | rfl | rfl | rfl | rfl | rfl | rfl <;> exact Qc
theorem G.as {W : World} {n : Nat} {ds : List Deferred} {E : B0} {L R : List HP} {X : Act → World → Prop} {p q : HP} (hL : BI p L R) (e : p = q) (h : G W n ds E (q :: R) X) : G W n ds E L X := by
 subst e; exact G.focus hL h
theorem wrap_i64 (n : Int) : A4 (C1 n) := by
 show -9223372036854775808 ≤ IntKind.i64.wrap n ∧ IntKind.i64.wrap n ≤ 9223372036854775807
 simp only [IntKind.wrap, IntKind.signed, IntKind.bits, Bool.true_and]
 split <;> simp_all <;> omega
theorem A4.zero : A4 0 := ⟨by decide, by decide⟩
theorem Rd {τ : Tr} (h : Le τ) (p : Bs) : A4 (AU τ p).cver := by
 unfold AU Im
 rcases hn : AE τ.nodes p with _ | n
 case some =>
  exact (h.nd _ (EG hn)).st _ (BS.2 (.inr (.inr (.inr (.inr (.inl rfl))))))
 case none => exact A4.zero
theorem PZ (τ : Tr) (u : B4) {r : Rq} (hu : A4 u.ses) (hd : r.data.length ≤ 1048576) (ha : Gc r.acl) : PtN (AV τ u r).1 := by
 have h0 : Gc [] := ⟨by decide, by simp [Fi, Cu, DS], fun a ha => by cases ha⟩
 unfold AV
 split
 ·refine ⟨?_, wrap_i64 _, hd, ha⟩
  show A4 (if andI r.flags 1 ≠ 0 then u.ses else 0)
  split
  ·exact hu
  ·exact A4.zero
 split
 ·exact ⟨A4.zero, wrap_i64 _, Nat.zero_le _, h0⟩
 split
 ·unfold FJ
  split
  ·exact ⟨A4.zero, wrap_i64 _, hd, h0⟩
  split
  ·exact ⟨A4.zero, wrap_i64 _, Nat.zero_le _, ha⟩
  ·exact ⟨A4.zero, A4.zero, Nat.zero_le _, h0⟩
 ·exact ⟨A4.zero, A4.zero, Nat.zero_le _, h0⟩
theorem C0 {u : B4} {r : Rq} {l : List Rq} {τ : Tr} : Bd u (r :: l) τ = if (AV τ u r).2 ≠ 0 then (τ, [], some (0, (AV τ u r).2))
  else ((Bd u l (AC τ τ.zx (AV τ u r).1 []).1).1, (AV τ u r).1 :: (Bd u l (AC τ τ.zx (AV τ u r).1 []).1).2.1, (Bd u l (AC τ τ.zx (AV τ u r).1 []).1).2.2.map fun x => (x.1 + 1, x.2)) := rfl
def Di (u : B4) (l : List Rq) (τ : Tr) (i : Nat) (σ : Tr) (xs : List Pt) : Prop :=
 (Bd u l τ).2.1 = xs ++ (Bd u (l.drop i) σ).2.1 ∧ (Bd u l τ).2.2 = (Bd u (l.drop i) σ).2.2.map (fun x => (x.1 + i, x.2)) ∧ xs.length = i
theorem Di.zero (u : B4) (l : List Rq) (τ : Tr) : Di u l τ 0 τ [] := ⟨rfl, by simp, rfl⟩
theorem Di.step {u : B4} {l : List Rq} {τ σ : Tr} {i : Nat} {xs : List Pt} (h : Di u l τ i σ xs) (hi : i < l.length) (h0 : (AV σ u l[i]).2 = 0) :
  Di u l τ (i + 1) (AC σ σ.zx (AV σ u l[i]).1 []).1 (xs ++ [(AV σ u l[i]).1]) := by
 obtain ⟨h1, h2, h3⟩ := h
 rw [drop_eq_getElem_cons hi, C0, if_neg om] at h1 h2
 refine ⟨by rw [h1, append_assoc]; rfl, ?_, by rw [length_append, h3]; rfl⟩
 rw [h2, Option.map_map]
 congr 1
 funext x
 show (x.1 + 1 + i, x.2) = (x.1 + (i + 1), x.2)
 congr 1; omega
theorem Di.stop {u : B4} {l : List Rq} {τ σ : Tr} {i : Nat} {xs : List Pt} (h : Di u l τ i σ xs) (hi : i < l.length) (h0 : (AV σ u l[i]).2 ≠ 0) (hl : ¬ (l.length = 0 ∨ l.length > 8)) :
  A6 τ u l = (Ax (AV σ u l[i]).2 i, []) := by
 obtain ⟨h1, h2, h3⟩ := h
 rw [drop_eq_getElem_cons hi, C0, if_pos h0] at h2
 unfold A6
 rw [if_neg hl, h2]
 simp
theorem Di.done {u : B4} {l : List Rq} {τ σ : Tr} {xs : List Pt} (h : Di u l τ l.length σ xs) (hl : ¬ (l.length = 0 ∨ l.length > 8)) :
  A6 τ u l = (⟨7, [], [], AG, [], 0, 0, 0, AG⟩, xs) := by
 obtain ⟨h1, h2, h3⟩ := h
 rw [drop_length] at h1 h2
 have h2 : (Bd u l τ).2.2 = none := h2
 have h1 : (Bd u l τ).2.1 = xs ++ [] := h1
 unfold A6
 rw [if_neg hl, h2, h1, append_nil]
theorem NG (w : Nat) (bs : Bs) (va : Value) (ns : List Int) (p : HP) (hp : ∀ h : Hp, p h → Cx 1 h va ns.length (Du ns)) (hi : ∀ n ∈ ns, A4 n) (hl : bs.length + (ns.flatMap EZ).length ≤ 4294900000) (hn : ns.length ≤ 1048576) : Fn prog 121 #[AI w, va] [Ij w bs, p] fun v L => v = .tuple #[] ∧ L = [Ij w (bs ++ ns.flatMap EZ), p] := by
 refine Fn.intro func121 Y Y fun F W => ?_
 refine .rdAny (p := p) hp O fun aa ca e0 _ => ?_
 subst e0
 refine .sm Y (.q (.slen Y underlying86 Y) Y (.m Y (.nt (.block (.wrCast (w := w) (bs' := bs ++ (ns.take 0).flatMap EZ) O (by simp) (.loopK (ι := Nat) (fun q E => (8, AA q) :: E) (fun q => [Ij w (bs ++ (ns.take q).flatMap EZ)]) (fun q => q ≤ ns.length) (fun q => ns.length - q) (0) (ts := [0, 6, 7]) O (Nat.zero_le _) O O ?_))))))
 rintro j hj
 refine .sr (.ui Y Y Y (.nt (.seq (.condD Y (fun h9 => ?_) (fun h9 => ?_)))))
 ·have hj2 : j < ns.length := by omega
  have hft := Te EZ ns j
  refine .rdShape (p := p) hp O om fun ba oa e => ?_
  subst e
  refine .sk (.seq (.block (.sr (.q (.indexAddr Y Y GQ om) Y (.q (.loadEl (p := p) (i := j * 1) (v := AA ns[j]) Y AR O hp (by simp [hj2])) Y (.an Y (.region (.m Y (.m Y (.oq (.c func190 [_, _] (Ky w _ ns[j] (hi _ (getElem_mem hj2)) ?hb8)) ?_))))))))))
  case hb8 => rw [length_append]; omega
  rintro v L' ⟨rfl, rfl⟩
  refine .nil (.blk_n (.then_n (.region (.q (.add Y Y om) Y (.m Y (.nt (.wrCast (w := w) (bs' := bs ++ (ns.take (j + 1)).flatMap EZ) O (by rw [Lm EZ hj2, append_assoc]) ?_)))))))
  exact .rk (j + 1) om om O
 have hjj : j = ns.length := by omega
 rw [hjj, take_length]
 refine .exit (.then_e (.then_e (.blk_e (.done_n ?_))))
 exact .vv
theorem VI (w : Nat) (bs : Bs) (a : Ac) (hi : AcI a) (hl : bs.length + (L8 a).length ≤ 4294900000) : Fn prog 193 #[AI w, .agg (CP a).toArray] [Ij w bs] fun v L => v = .tuple #[] ∧ L = [Ij w (bs ++ L8 a)] := by
 refine Fn.intro func193 Y Y fun F W => ?_
 have hab : (L8 a).length = (EZ a.1).length + ((Cu a.2.length).length + a.2.length) := by unfold L8 FM; simp
 refine .sr (.oq (.box Y) ?_)
 rintro v L' ⟨b3, rfl, rfl⟩
 refine .nil (.ptCast (b := b3) (l' := CP a) O Y ?_)
 refine .then_n (.sm Y (.fa Y Jn (.u (.ld Y AR) (.cv func190 [_, _] (Ky w bs a.1 hi.n om) ?_))))
 refine .nt (.region (.m Y (.fa Y Ly (.u (.ld Y Ag) (.oq (.c func191 [_, _] (JP w _ a.2 ?hb11)) ?_)))))
 case hb11 => rw [length_append]; omega
 rintro v L' ⟨rfl, rfl⟩
 refine .nil (.done_n (.wrCast (w := w) (bs' := bs ++ L8 a) O (by unfold L8; rw [append_assoc]) ?_))
 exact .vv
theorem R4 (w : Nat) (bs : Bs) (va : Value) (l : List Ac) (p : HP) (hp : ∀ h : Hp, p h → Cx 2 h va l.length (l.flatMap CP)) (hi : ∀ a ∈ l, AcI a) (hl : bs.length + (Cu l.length ++ l.flatMap L8).length ≤ 4294900000) (hn : l.length ≤ 1048576) : Fn prog 192 #[AI w, va, .func (.func 193) #[] #[]] [Ij w bs, p] fun v L => v = .tuple #[] ∧ L = [Ij w (bs ++ (Cu l.length ++ l.flatMap L8)), p] := by
 refine Fn.intro func192 Y Y fun F W => ?_
 refine .rdAny (p := p) hp O fun aa ca e0 _ => ?_
 subst e0
 rw [length_append] at hl
 refine .sm Y (.m Y (.q (.slen Y underlying30 Y) Y (.cv func194 [_, _] (H9 w bs l.length om om) ?_)))
 refine .nt (.sm Y (.q (.slen Y underlying30 Y) Y (.m Y (.nt (.block (.wrCast (w := w) (bs' := bs ++ Cu l.length ++ (l.take 0).flatMap L8) O (by simp) (.loopK (ι := Nat) (fun q E => (14, AA q) :: E) (fun q => [Ij w (bs ++ Cu l.length ++ (l.take q).flatMap L8)]) (fun q => q ≤ l.length) (fun q => l.length - q) (0) (ts := [0, 2, 12, 13]) O (Nat.zero_le _) O O ?_)))))))
 rintro j hj
 refine .sr (.ui Y Y Y (.nt (.seq (.condD Y (fun h15 => ?_) (fun h15 => ?_)))))
 ·have hj2 : j < l.length := by omega
  have hft := Rv L8 hj2
  refine .rdShape (p := p) hp O om fun ba oa e => ?_
  subst e
  refine .sk (.seq (.block (.sr (.q (.indexAddr Y Y Gz om) Y (.q (.loadRdA (sz := 2) (j := j * 2) (k := 2) (p := p) (vs := CP l[j]) Y P2 O hp (by simp) om om (A3 (f := CP) (sz := 2) (fun _ _ => Y) om)) Y (.oq (.allocA GA) ?_))))))
  rintro v L' ⟨b7, rfl, rfl⟩
  refine .sa Y Y WN (by simp [CP, AB]) ?_
  refine .nil (.pc b7 (CP l[j]) ?_)
  refine .then_n (.region (.m Y (.m Y (.q (.loadAs (vs := CP l[j]) Y P2 O (by simp [CP]) Y) Y (.oq (.callV func193 Y Y (us := []) (vs := [_, _]) (ws := []) Y Y (VI w _ l[j] (hi _ (getElem_mem hj2)) ?hb22)) ?_)))))
  case hb22 => rw [length_append, length_append]; omega
  rintro v L' ⟨rfl, rfl⟩
  refine .nil (.blk_n (.then_n (.region (.q (.add Y Y om) Y (.m Y (.nt (.wrCast (w := w) (bs' := bs ++ Cu l.length ++ (l.take (j + 1)).flatMap L8) O (by rw [Lm L8 hj2, ← append_assoc]) ?_)))))))
  exact .rk (j + 1) om om O
 have hjj : j = l.length := by omega
 rw [hjj, take_length, append_assoc]
 refine .exit (.then_e (.then_e (.blk_e (.done_n ?_))))
 exact .vv
theorem Zg (y : Pt) : (Ie y).length = (EZ y.kind).length + ((Cu y.path.length).length + y.path.length) + ((Cu y.data.length).length + y.data.length) + (Fi y.acl).length + ([y.own, y.num, y.err].flatMap EZ).length := by unfold Ie FM; simp only [length_append]
theorem MG (w : Nat) (bs : Bs) (y : Pt) (p : HP) (hy : PtW p y) (hl : bs.length + (Ie y).length ≤ 4294900000) (hn : y.acl.length ≤ 1048576) : Fn prog 122 #[AI w, .agg (A1 y).toArray] [Ij w bs, p] fun v L => v = .tuple #[] ∧ L = [Ij w (bs ++ Ie y), p] := by
 refine Fn.intro func122 Y Y fun F W => ?_
 have hpl := Zg y
 have hal : (Cu y.acl.length ++ y.acl.flatMap L8).length = (Fi y.acl).length := rfl
 have hiy := hy.i
 refine .sr (.oq (.box Y) ?_)
 rintro v L' ⟨b3, rfl, rfl⟩
 refine .nil (.ptCast (b := b3) (l' := A1 y) O Y ?_)
 refine .then_n (.sm Y (.fa Y B1 (.u (.ld Y AR) (.cv func190 [_, _] (Ky w bs y.kind hiy.kind om) ?_))))
 refine .nt (.sm Y (.fa Y A7 (.u (.ld Y Ag) (.oq (.c func191 [_, _] (JP w _ y.path ?hb11)) ?_))))
 case hb11 => rw [length_append]; omega
 rintro v L' ⟨rfl, rfl⟩
 refine .nt (.sm Y (.fa Y FA (.u (.ld Y Ag) (.oq (.c func191 [_, _] (JP w _ y.data ?hb17)) ?_))))
 case hb17 => simp only [length_append, FM]; omega
 rintro v L' ⟨rfl, rfl⟩
 refine .nt (.sm Y (.fa Y GG (.u (.ld Y F9) (.oq (.c func192 [_, _, _] (R4 w _ _ y.acl p hy.acl hiy.acl ?hb23 hn)) ?_))))
 case hb23 => rw [hal]; simp only [length_append, FM]; omega
 rintro v L' ⟨rfl, rfl⟩
 refine .nt (.region (.m Y (.fa Y CZ (.u (.ld Y AR) (.fa Y Cl (.u (.ld Y AR) (.fa Y If (.u (.ld Y Ey) (.oq (.buildSlice1 (vs := [_, _, _]) GQ F6 Y Y Y Y Y dQ) ?_)))))))))
 rintro v L' ⟨b5, rfl, rfl⟩
 refine .slMake (b := b5) (n := 3) (c := 3) (xs := Du [y.own, y.num, y.err]) O dQ (by simp) Y (.oq (.call func121 Y Y (vs := [_, _]) Y (NG w _ _ [y.own, y.num, y.err] (Ad 3 1 (.slice (some ⟨b5, 0, none⟩) 3 3) 3 (Du [y.own, y.num, y.err])) (fun h hp => AZ hp) (fun n hn => by simp only [mem_cons, not_mem_nil, or_false] at hn; rcases hn with rfl | rfl | rfl; exact hiy.own; exact hiy.num; exact hiy.err) ?hb35 (by simp))) ?_)
 case hb35 => have h9 : (Cu y.acl.length ++ y.acl.flatMap L8).length = (Fi y.acl).length := rfl; simp only [length_append, FM] at h9 ⊢; omega
 rintro v L' ⟨rfl, rfl⟩
 refine .nil (.done_n (.wrCast (w := w) (bs' := bs ++ Ie y) O (by unfold Ie Fi; simp only [append_assoc]) ?_))
 exact .vv
theorem Qj (w : Nat) (bs : Bs) (va : Value) (l : List Pt) (p : HP) (hp : ∀ h : Hp, p h → Cx 8 h va l.length (l.flatMap A1)) (hi : ∀ y ∈ l, PtW p y ∧ y.acl.length ≤ 1048576) (hl : bs.length + (Cu l.length ++ l.flatMap Ie).length ≤ 4294900000) (hn : l.length ≤ 1048576) (hcl : ∀ y ∈ l, ∀ v ∈ A1 y, AB v = true) : Fn prog 123 #[AI w, va, .func (.func 122) #[] #[]] [Ij w bs, p] fun v L => v = .tuple #[] ∧ L = [Ij w (bs ++ (Cu l.length ++ l.flatMap Ie)), p] := by
 refine Fn.intro func123 Y Y fun F W => ?_
 refine .rdAny (p := p) hp O fun aa ca e0 _ => ?_
 subst e0
 rw [length_append] at hl
 refine .sm Y (.m Y (.q (.slen Y underlying58 Y) Y (.cv func194 [_, _] (H9 w bs l.length om om) ?_)))
 refine .nt (.sm Y (.q (.slen Y underlying58 Y) Y (.m Y (.nt (.block (.wrCast (w := w) (bs' := bs ++ Cu l.length ++ (l.take 0).flatMap Ie) O (by simp) (.loopK (ι := Nat) (fun q E => (14, AA q) :: E) (fun q => [Ij w (bs ++ Cu l.length ++ (l.take q).flatMap Ie)]) (fun q => q ≤ l.length) (fun q => l.length - q) (0) (ts := [0, 2, 12, 13]) O (Nat.zero_le _) O O ?_)))))))
 rintro j hj
 refine .sr (.ui Y Y Y (.nt (.seq (.condD Y (fun h15 => ?_) (fun h15 => ?_)))))
 ·have hj2 : j < l.length := by omega
  have hft := Rv Ie hj2
  refine .rdShape (p := p) hp O om fun ba oa e => ?_
  subst e
  refine .sk (.seq (.block (.sr (.q (.indexAddr Y Y ES om) Y (.q (.loadRdA (sz := 8) (j := j * 8) (k := 8) (p := p) (vs := A1 l[j]) Y Az O hp (by simp) om om (A3 (f := A1) (sz := 8) (fun _ _ => Y) om)) Y (.oq (.allocA BK) ?_))))))
  rintro v L' ⟨b7, rfl, rfl⟩
  refine .sa Y Y BP (by exact hcl _ (getElem_mem hj2)) ?_
  refine .nil (.pc b7 (A1 l[j]) ?_)
  refine .then_n (.region (.m Y (.m Y (.q (.loadAs (vs := A1 l[j]) Y Az O (by simp [A1]) Y) Y (.oq (.callV func122 Y Y (us := []) (vs := [_, _]) (ws := []) Y Y (MG w _ l[j] p (hi _ (getElem_mem hj2)).1 ?hb22 (hi _ (getElem_mem hj2)).2)) ?_)))))
  case hb22 => rw [length_append, length_append]; omega
  rintro v L' ⟨rfl, rfl⟩
  refine .nil (.blk_n (.then_n (.region (.q (.add Y Y om) Y (.m Y (.nt (.wrCast (w := w) (bs' := bs ++ Cu l.length ++ (l.take (j + 1)).flatMap Ie) O (by rw [Lm Ie hj2, ← append_assoc]) ?_)))))))
  exact .rk (j + 1) om om O
 have hjj : j = l.length := by omega
 rw [hjj, take_length, append_assoc]
 refine .exit (.then_e (.then_e (.blk_e (.done_n ?_))))
 exact .vv
theorem Tp (e : En) : (NW e).length = ([e.zx, e.ses, e.xid].flatMap EZ).length + (Ie e.x).length + (KA e.subs).length := by unfold NW; simp only [length_append]
theorem CL {y : Pt} (h1 : AB y.aclV = true) (h2 : AB y.subsV = true) : ∀ v ∈ A1 y, AB v = true := by
 intro v hv
 simp only [A1, mem_cons, not_mem_nil, or_false] at hv
 rcases hv with rfl | rfl | rfl | rfl | rfl | rfl | rfl | rfl
 case inr.inr.inr.inl => exact h1
 case inr.inr.inr.inr.inr.inr.inr => exact h2
 all_goals rfl
structure V5 (p : HP) (e : En) : Prop where
 w : EnW p e
 len : (NW e).length ≤ 1073741824
 few : e.subs.length ≤ 1048576 ∧ e.x.acl.length ≤ 1048576 ∧ ∀ y ∈ e.subs, y.acl.length ≤ 1048576
 cx : AB e.x.aclV = true ∧ AB e.x.subsV = true
 cs : ∀ y ∈ e.subs, AB y.aclV = true ∧ AB y.subsV = true
theorem V5.cells {p : HP} {e : En} (h : V5 p e) : ∀ v ∈ DQ e, AB v = true := by
 intro v hv
 unfold DQ at hv
 rcases mem_append.1 hv with hv | hv
 ·simp at hv; rcases hv with rfl | rfl | rfl <;> rfl
 ·exact CL h.cx.1 h.cx.2 v hv
theorem P1 (w : Nat) (e : En) (p : HP) (he : V5 p e) : Fn prog 63 #[AI w, .agg (DQ e).toArray] [Ij w [], p] fun v L => v = .tuple #[] ∧ L = [Ij w (NW e), p] := by
 refine Fn.intro func63 Y Y fun F W => ?_
 have hel := Tp e
 have hle := he.len
 have hie := he.w.i
 have hsb : (Cu e.subs.length ++ e.subs.flatMap Ie).length = (KA e.subs).length := rfl
 refine .sr (.oq (.box Y) ?_)
 rintro v L' ⟨b3, rfl, rfl⟩
 refine .nil (.pc b3 (DQ e) ?_)
 refine .then_n (.sm Y (.fa Y C4 (.u (.ld Y AR) (.fa Y Ty (.u (.ld Y AR) (.fa Y Ot (.u (.ld Y AR) (.oq (.buildSlice1 (vs := [_, _, _]) GQ F6 Y Y Y Y Y dQ) ?_))))))))
 rintro v L' ⟨b4, rfl, rfl⟩
 refine .slMake (b := b4) (n := 3) (c := 3) (xs := Du [e.zx, e.ses, e.xid]) O dQ (by simp) Y (.oq (.call func121 Y Y (vs := [_, _]) Y (NG w [] _ [e.zx, e.ses, e.xid] (Ad 3 1 (.slice (some ⟨b4, 0, none⟩) 3 3) 3 (Du [e.zx, e.ses, e.xid])) (fun h hp => AZ hp) (fun n hn => by simp only [mem_cons, not_mem_nil, or_false] at hn; rcases hn with rfl | rfl | rfl; exact hie.zx; exact hie.ses; exact hie.xid) (by simp only [length_nil]; omega) (by simp))) ?_)
 rintro v L' ⟨rfl, rfl⟩; rw [nil_append]
 refine .nt (.sm Y (.fa Y HW (.q (.loadAs (vs := A1 e.x) Y Az O (by simp [DQ, A1]) Y) Y (.oq (.c func122 [_, _] (MG w _ e.x p he.w.x ?hb17 he.few.2.1)) ?_))))
 case hb17 => omega
 rintro v L' ⟨rfl, rfl⟩
 refine .nt (.region (.m Y (.fa Y HW (.fa Y Cm (.u (.ld Y Gl) (.oq (.c func123 [_, _, _] (Qj w _ _ e.subs p he.w.subs (fun y hy => ⟨he.w.sub hy, he.few.2.2 y hy⟩) ?hb24 he.few.1 (fun y hy => CL (he.cs y hy).1 (he.cs y hy).2))) ?_))))))
 case hb24 => rw [hsb, length_append]; omega
 rintro v L' ⟨rfl, rfl⟩
 refine .nil (.done_n (.wrCast (w := w) (bs' := NW e) O (by unfold NW KA; simp only [append_assoc]) ?_))
 exact .vv
theorem N8 : ∀ l : List Int, B2 l = 0 ∨ B2 l ∈ l
 | [] => .inl rfl
 | e :: l => by
  show (if e ≠ 0 then e else B2 l) = 0 ∨ (if e ≠ 0 then e else B2 l) ∈ e :: l
  split
  ·exact .inr (mem_cons_self ..)
  ·rcases N8 l with h | h
   ·exact .inl h
   ·exact .inr (mem_cons_of_mem _ h)
theorem E6 : ∀ l : List Int, B2 l = 0 → ∀ e ∈ l, e = 0
 | [], _, e, he => by cases he
 | x :: l, h, e, he => by
  have h : (if x ≠ 0 then x else B2 l) = 0 := h
  split at h
  ·rename_i g; exact absurd h g
  ·rename_i g
   rcases mem_cons.1 he with rfl | he
   ·omega
   ·exact E6 l h e he
theorem Vs (p : Bs) : BG p = 0 ∨ BG p = 40 ∨ BG p = 41 := by
 unfold BG
 repeat' split
 ·exact .inl rfl
 ·exact .inr (.inl rfl)
 ·exact .inr (.inr rfl)
 ·exact .inl rfl
def AA5 (x : Pt × List Pt) : Prop := x.1.kind = 8 ∧ x.1.err = 66
instance (x : Pt × List Pt) : Decidable (AA5 x) := inferInstanceAs (Decidable (_ ∧ _))
theorem Iw (k : Int) : Fn prog 25 #[AA k] [] fun v L => v = .bool (Ba k) ∧ L = [] := by
 refine Fn.intro func25 Y Y fun F W => ?_
 refine .sr (.an Y (.seq (.sm Y (.nt (.block (.seq (.sr (.ui Y Y Y (.an Y (.dec (t := 4) Y (fun h4 => ?_) (fun h4 => ?_)))))))))))
 ·refine .condT Y (.sk (.condT Y (.sr (.an Y (.ret (.blk_r (.then_r ?_)))))))
  exact .dn Y Y ⟨by congr 1; unfold Ba; symm; first | (simp; omega) | (simp_all; done) | (simp_all; omega), rfl⟩
 refine .condF Y (.sr (.ui Y Y Y (.an Y (.dec (t := 4) Y (fun h4 => ?_) (fun h4 => ?_)))))
 ·refine .condT Y (.sk (.condT Y (.sr (.an Y (.ret (.blk_r (.then_r ?_)))))))
  exact .dn Y Y ⟨by congr 1; unfold Ba; symm; first | (simp; omega) | (simp_all; done) | (simp_all; omega), rfl⟩
 refine .condF Y (.sr (.ui Y Y Y (.an Y (.dec (t := 4) Y (fun h4 => ?_) (fun h4 => ?_)))))
 ·refine .condT Y (.sk (.condT Y (.sr (.an Y (.ret (.blk_r (.then_r ?_)))))))
  exact .dn Y Y ⟨by congr 1; unfold Ba; symm; first | (simp; omega) | (simp_all; done) | (simp_all; omega), rfl⟩
 refine .condF Y (.sr (.ui Y Y Y (.an Y (.dec (t := 4) Y (fun h4 => ?_) (fun h4 => ?_)))))
 ·refine .condT Y (.sk (.condT Y (.sr (.an Y (.ret (.blk_r (.then_r ?_)))))))
  exact .dn Y Y ⟨by congr 1; unfold Ba; symm; first | (simp; omega) | (simp_all; done) | (simp_all; omega), rfl⟩
 refine .condF Y (.sr (.ui Y Y Y (.an Y (.dec (t := 4) Y (fun h4 => ?_) (fun h4 => ?_)))))
 ·refine .condT Y (.sk (.condT Y (.sr (.an Y (.ret (.blk_r (.then_r ?_)))))))
  exact .dn Y Y ⟨by congr 1; unfold Ba; symm; first | (simp; omega) | (simp_all; done) | (simp_all; omega), rfl⟩
 refine .condF Y (.sr (.ui Y Y Y (.an Y (.dec (t := 4) Y (fun h4 => ?_) (fun h4 => ?_)))))
 ·refine .condT Y (.sk (.condT Y (.sr (.an Y (.ret (.blk_r (.then_r ?_)))))))
  exact .dn Y Y ⟨by congr 1; unfold Ba; symm; first | (simp; omega) | (simp_all; done) | (simp_all; omega), rfl⟩
 refine .condF Y (.region (.ui Y Y Y (.an Y (.dec (t := 4) Y (fun h4 => ?_) (fun h4 => ?_)))))
 ·refine .condT Y (.sr (.an Y (.ret (.blk_r (.then_r ?_)))))
  exact .dn Y Y ⟨by congr 1; unfold Ba; symm; first | (simp; omega) | (simp_all; done) | (simp_all; omega), rfl⟩
 refine .condF Y (.skip (.blk_n (.then_n (.sr (.an Y (.ret ?_))))))
 exact .dn Y Y ⟨by congr 1; unfold Ba; symm; first | (simp; omega) | (simp_all; done) | (simp_all; omega), rfl⟩
theorem DP (e n : Int) : Fn prog 48 #[AA e, AA n] [] fun v L => v = .agg (A1 (Ax e n)).toArray ∧ L = [] := by
 refine Fn.intro func48 Y Y fun F W => ?_
 refine .sr (.oq (.allocA BK) ?_)
 rintro v L' ⟨b4, rfl, rfl⟩
 refine .nt (.sm Y (.m Y (.q (.build (us := [(0, _), (6, _), (5, _)]) FG BK Y Y (by simp [AB])) Y (.sa Y Y BP (by (first | (simp [AB]; done) | (simp [AB, AW, Value.cells]; done))) ?_))))
 refine .nil (.pc b4 ([AA 8, AD [], AD [], AG, AA 0, AA n, AA e, AG]) ?_)
 refine .then_n (.ret ?_)
 exact .d1 Y (.cellA Y Az O (by simp [DR, AW]) Y) ⟨Y, Y⟩
theorem HH (zx : Int) (s0 s1 s2 s3 s4 s5 s6 s7 : Value) : Instr.fill (fun i => [(0, 1), (1, 1), (2, 1), (3, 8)].toArray[i]?) ([.int .i64 0, .int .i64 0, .int .i64 0, .int .i64 0, .string (bs []), .string (bs []), .slice none 0 0, .int .i64 0, .int .i64 0, .int .i64 0, .slice none 0 0] : List Value).toArray [(0, AA zx), (3, .agg ([s0, s1, s2, s3, s4, s5, s6, s7] : List Value).toArray)] = some (([AA zx, AA 0, AA 0] ++ [s0, s1, s2, s3, s4, s5, s6, s7] : List Value).toArray) := by kernel_rfl
theorem SO (c : Nat) (n : Int) (a : Option Addr) (m k : Nat) (s0 s1 s2 s3 s4 s5 s6 s7 s8 s9 : Value) : Instr.fill (fun i => [(0, 1), (1, 1), (2, 1), (3, 10)].toArray[i]?) ([.pointer none, .int .i64 0, .slice none 0 0, .int .i64 0, .int .i64 0, .string (bs []), .string (bs []), .slice none 0 0, .int .i64 0, .int .i64 0, .bool false, .slice none 0 0, .slice none 0 0] : List Value).toArray
  [(0, AI c), (1, AA n), (2, .slice a m k), (3, .agg ([s0, s1, s2, s3, s4, s5, s6, s7, s8, s9] : List Value).toArray)] = some ([AI c, AA n, .slice a m k, s0, s1, s2, s3, s4, s5, s6, s7, s8, s9] : List Value).toArray := by kernel_rfl
theorem IY (c : Nat) (u : B4) (iv : Value) (h : ∃ a n c, iv = .slice a n c) (r : Rq) : Instr.fill (fun i => [(0, 1), (1, 1), (2, 1), (3, 10)].toArray[i]?) ([.pointer none, .int .i64 0, .slice none 0 0, .int .i64 0, .int .i64 0, .string (bs []), .string (bs []), .slice none 0 0, .int .i64 0, .int .i64 0, .bool false, .slice none 0 0, .slice none 0 0] : List Value).toArray
  [(0, AI c), (1, AA u.ses), (2, iv), (3, .agg (D6 r).toArray)] = some (CM c u iv r).toArray := by
 obtain ⟨a, m, k, rfl⟩ := h
 exact SO _ _ _ _ _ _ _ _ _ _ _ _ _ _ _
theorem My (τ : Tr) (u : B4) (r : Rq) : (AV τ u r).1.subsV = AG := by
 unfold AV
 split
 ·rfl
 split
 ·rfl
 split
 ·unfold FJ; split
  ·rfl
  split <;> rfl
 ·rfl
theorem Tc (τ : Tr) (u : B4) (r : Rq) (w : Value) : (CE (AV τ u r).1 w).pl = (AV τ u r).1 := by
 unfold AV
 split
 ·rfl
 split
 ·rfl
 split
 ·unfold FJ; split
  ·rfl
  split <;> rfl
 ·rfl
theorem N3 {p : HP} {u : B4} {iv : Value} {r : Rq} (h : Dr p u iv r) (τ : Tr) : (AV τ u r).1.path.length ≤ 1048576 := by
 have h1 := OS h τ
 have h2 := h.rq.path
 unfold AV
 split
 ·exact h1
 split
 ·show r.path.length ≤ _; omega
 split
 ·unfold FJ; split
  ·show r.path.length ≤ _; omega
  split
  ·show r.path.length ≤ _; omega
  ·exact Nat.zero_le _
 ·exact Nat.zero_le _
theorem TQ {p : HP} {u : B4} {iv : Value} {r : Rq} (h : Dr p u iv r) (τ : Tr) (h0 : (AV τ u r).2 = 0) : (AV τ u r).1.path.length ≤ 1048576 := by
 have h2 := h.rq.path
 unfold AV at h0 ⊢
 split at h0
 ·rename_i hk
  rw [if_pos hk]
  have h3 := E6 _ h0 (Ai (BG (B3 τ r) ≠ 0) 41) (by unfold Dp; simp)
  have h4 : BG (B3 τ r) = 0 := by
   unfold Ai at h3
   split at h3
   ·cases h3
   ·rename_i g; exact Decidable.not_not.1 g
  have h5 : (B3 τ r).length ≤ 60 := by
   by_cases e : B3 τ r = [47]
   ·exact Ec (.inl e)
   ·exact Ec (.inr ⟨e, h4⟩)
  show (B3 τ r).length ≤ _
  omega
 rename_i hk
 rw [if_neg hk]
 split
 ·show r.path.length ≤ _; omega
 split
 ·unfold FJ; split
  ·show r.path.length ≤ _; omega
  split
  ·show r.path.length ≤ _; omega
  ·exact Nat.zero_le _
 ·exact Nat.zero_le _
theorem Jq {p : HP} {u : B4} {iv : Value} {r : Rq} (h : Dr p u iv r) (τ : Tr) : (AV τ u r).1.acl.length ≤ 1048576 := by
 have h1 := h.rq.many
 unfold AV
 split
 ·exact h1
 split
 ·exact Nat.zero_le _
 split
 ·unfold FJ; split
  ·exact Nat.zero_le _
  split
  ·exact h1
  ·exact Nat.zero_le _
 ·exact Nat.zero_le _
theorem Dr.rqcells {p : HP} {u : B4} {iv : Value} {r : Rq} (h : Dr p u iv r) : ∀ v ∈ D6 r, AB v = true := fun v hv => all_eq_true.1 (h.cells 0) v (mem_cons_of_mem _ (mem_cons_of_mem _ (mem_cons_of_mem _ hv)))
theorem Zm {y : Pt} (h1 : y.acl.length ≤ 1048576) (h2 : y.path.length ≤ 1048576) (h3 : y.subsV = AG) (h4 : AB y.aclV = true) : TxA (aclR y) y [] :=
 ⟨⟨fun _ hp => AZ hp, h1, h2, by rw [h3]; rfl, h4⟩, fun _ _ => by rw [h3]; exact .inl ⟨rfl, rfl, none, 0, rfl⟩, Nat.zero_le _, fun _ hy => by cases hy⟩
theorem Qv (t : Nat) (τ : Tr) (u : B4) (iv : Value) (r : Rq) (p : HP) (hA : Dr p u iv r) (N : Nat) (ho : τ.Ok N) (hN : N ≤ 1099511627776) (hw : Le τ) (hN2 : N + 16 ≤ 1099511627776) (subs : List Rq) (hr : ∀ h : Hp, p h → Cx 10 h r.subsV subs.length (subs.flatMap D6)) (hS : ∀ x ∈ subs, Dr p u iv x) (hSa : ∀ x ∈ subs, Gc x.acl) : Fn prog 49 #[.agg (CM t u iv r).toArray] [Aa t τ, p] fun v L =>
    ∃ (w : Value) (ys : List Pt), v = .agg (A1 ((A6 τ u subs).1.ws w)).toArray ∧ ys.map Pt.pl = (A6 τ u subs).2 ∧ (∃ a c, w = .slice a ys.length c) ∧ (∀ y ∈ ys, AB y.aclV = true ∧ y.subsV = AG) ∧ L = [Aa t τ, p, Ad 60 8 w ys.length (ys.flatMap A1), Ah aclR ys] := by
 refine Fn.intro func49 Y Y fun F W => ?_
 refine .rdAny (p := p) hr O fun aa ca hsv _ => ?_
 have hr2 : ∀ h : Hp, p h → Cx 10 h (.slice aa subs.length ca) subs.length (subs.flatMap D6) := fun h hp => hsv ▸ hr h hp
 refine .sr (.oq (.box Y) ?_)
 rintro v L' ⟨b1, rfl, rfl⟩
 refine .oq (.allocA BK) ?_
 rintro v L' ⟨bx, rfl, rfl⟩
 refine .nil (.pc b1 (CM t u iv r) ?_)
 refine .then_n (.seq (.sr (.fa Y At (.fa Y PA (.q (.to (v' := .slice aa subs.length ca) (.load Y XJ O Y) (by exact hsv)) Y (.q (.slen Y underlying23 Y) Y (.ui Y Y Y (.m Y (.dec (t := 14) Y (fun h1_14 => ?_) (fun h1_14 => ?_))))))))))
 ·refine .kDT (t := 13) Y h1_14 (.gk (.gk (.gk (.gk (.gk (.pT Y Y (.nt (.condT Y (.sr (.cv func48 [_, _] (DP 1 (-1)) ?_))))))))))
  refine .sa Y Y BP (by simp [A1, Ax, AB]) ?_
  refine .nil (.pc bx ([AA 8, AD [], AD [], AG, AA 0, AA (-1), AA 1, AG]) ?_)
  refine .add (AN 60 8) (.add (p := Ah aclR []) (fun h => CX h) ?_)
  have hm : A6 τ u subs = (Ax 1 (-1), []) := by unfold A6; rw [if_pos om]
  refine .then_n (.rt ?_)
  exact .d1 Y (.cellA Y Az O (by simp [DR, AW]) Y) ⟨AG, [], by rw [hm]; rfl, by rw [hm]; rfl, ⟨none, 0, rfl⟩, (fun _ h => by cases h), rfl⟩
 refine .kDF (t := 13) Y h1_14 (.gr (.fa Y At (.gr (.fa Y PA (.gr (.q (.to (v' := .slice aa subs.length ca) (.load Y XJ O Y) (by exact hsv)) Y (.gr (.q (.slen Y underlying23 Y) Y (.gr (.ui Y Y Y (.pF Y Y (.nt (.condD Y (fun h20 => ?_) (fun h20 => ?_))))))))))))))
 ·refine .sr (.cv func48 [_, _] (DP 1 (-1)) ?_)
  refine .sa Y Y BP (by simp [A1, Ax, AB]) ?_
  refine .nil (.pc bx ([AA 8, AD [], AD [], AG, AA 0, AA (-1), AA 1, AG]) ?_)
  refine .add (AN 60 8) (.add (p := Ah aclR []) (fun h => CX h) ?_)
  have hm : A6 τ u subs = (Ax 1 (-1), []) := by unfold A6; rw [if_pos om]
  refine .then_n (.rt ?_)
  exact .d1 Y (.cellA Y Az O (by simp [DR, AW]) Y) ⟨AG, [], by rw [hm]; rfl, by rw [hm]; rfl, ⟨none, 0, rfl⟩, (fun _ h => by cases h), rfl⟩
 refine .sk (.sr (.fa Y D2 (.u (.ld Y DA) (.oq (.c func78 [_] (Jl t τ N ho hN)) ?_))))
 rintro v L' ⟨c, rfl, rfl⟩
 refine .an Y (.sr (.q (.build (us := [(0, _)]) FG BK Y Y (by simp [AB])) Y (.oq (.allocA BK) ?_)))
 rintro v L' ⟨b4, rfl, rfl⟩
 refine .sa Y Y BP (by (first | (simp [AB]; done) | (simp [AB, AW, Value.cells]; done))) ?_
 refine .nil (.pc b4 ([AA 7, AD [], AD [], AG, AA 0, AA 0, AA 0, AG]) ?_)
 refine .add (AN 60 8) (.add (p := Ah aclR []) (fun h => CX h) ?_)
 have hlen8 : ¬ (subs.length = 0 ∨ subs.length > 8) := by omega
 refine .then_n (.seq (.sr (.fa Y At (.fa Y PA (.q (.to (v' := .slice aa subs.length ca) (.load Y XJ O Y) (by exact hsv)) Y (.q (.slen Y underlying23 Y) Y (.m Y (.nt (.block (.loopK (ι := Nat × Tr × Value × (List Pt)) (fun q E => (30, AA q.1) :: E) (fun q => [Aa c q.2.1, Ae b4 [AA 7, AD [], AD [], AG, AA 0, AA 0, AA 0, q.2.2.1] 60, Ad 60 8 q.2.2.1 q.1 (q.2.2.2.flatMap A1), Ah aclR q.2.2.2]) (fun q => q.1 ≤ subs.length ∧ (∃ a c, q.2.2.1 = .slice a q.1 c) ∧ Di u subs τ q.1 q.2.1 (q.2.2.2.map Pt.pl) ∧ (∀ y ∈ q.2.2.2, AB y.aclV = true ∧ y.subsV = AG) ∧ q.2.1.Ok (N + q.1) ∧ Le q.2.1) (fun q => subs.length - q.1) (0, τ, AG, []) (ts := [1, 2, 3, 4, 28, 29]) O (⟨Nat.zero_le _, ⟨none, 0, Y⟩, Di.zero u subs τ, (fun y hy => by cases hy), ho, hw⟩) O O ?_))))))))))
 rintro ⟨i, σ, z, ys⟩ ⟨hi, ⟨au, cu, hu⟩, hat, hyc, hok, hwσ⟩
 dsimp only
 dsimp only at hi hu hat hyc hok hwσ
 subst hu
 refine .sr (.ui Y Y Y (.nt (.seq (.condD Y (fun h31 => ?_) (fun h31 => ?_)))))
 ·have hi2 : i < subs.length := by omega
  refine .rdShape (p := p) hr2 O om fun ba oa e => ?_
  subst e
  refine .sk (.seq (.block (.sm Y (.q (.indexAddr Y Y ACR om) Y (.q (.loadRdA (sz := 10) (j := i * 10) (k := 10) (p := p) (vs := D6 subs[i]) Y Hf O hr2 (by simp) om om (A3 (f := D6) (sz := 10) (fun _ _ => Y) om)) Y (.oq (.allocA Jp) ?_))))))
  rintro v L' ⟨b6, rfl, rfl⟩
  refine .a Y (.sa Y Y ACO (by exact (hS _ (getElem_mem hi2)).rqcells) ?_)
  refine .nil (.pc b6 (D6 subs[i]) ?_)
  refine .then_n (.sm Y (.fa Y FK (.u (.ld Y AR) (.fa Y QG (.u (.ld Y T9) (.q (.la (D6 subs[i]) Y Hf) Y (.q (.to (v' := .agg (CM c u iv subs[i]).toArray) (.buildN (pl := [(0, 1), (1, 1), (2, 1), (3, 10)]) (us := [(0, AI c), (1, AA u.ses), (2, iv), (3, .agg (D6 subs[i]).toArray)]) (cells := CM c u iv subs[i]) underlying134 kQ Iz Y (IY c u iv hA.shape subs[i])) Y) Y (.oq (.call func51 Y Y (vs := [_]) Y (Me c σ u iv subs[i] p (hS _ (getElem_mem hi2)) (N + i) hok om (Rd hwσ _))) ?_))))))))
  rintro v L' ⟨w, rfl, ⟨aw, cw, rfl⟩, rfl⟩; obtain ⟨y, hy⟩ : ∃ y : Pt, y = (CE (AV σ u subs[i]).1 (.slice aw (AV σ u subs[i]).1.acl.length cw)) := ⟨_, rfl⟩; rw [← hy]
  refine .as (q := aclR y) (p := Ad 75 2 (.slice aw (AV σ u subs[i]).1.acl.length cw) (AV σ u subs[i]).1.acl.length ((AV σ u subs[i]).1.acl.flatMap CP)) O (by rw [hy]; rfl) ?_
  have hyk : AB y.aclV = true ∧ y.subsV = AG := by (rw [hy]; exact ⟨rfl, My _ _ _⟩)
  have hpl : y.pl = (AV σ u subs[i]).1 := by (rw [hy]; exact Tc _ _ _ _)
  have hap : AC σ σ.zx y [] = AC σ σ.zx (AV σ u subs[i]).1 [] := by (rw [← hpl]; rfl)
  have hac : y.acl.length ≤ 1048576 := by (rw [hy]; exact Jq (hS _ (getElem_mem hi2)) σ)
  have hwa : Le (AC σ σ.zx (AV σ u subs[i]).1 []).1 := hwσ.app (e := ⟨σ.zx, 0, 0, (AV σ u subs[i]).1, []⟩) ⟨hwσ.zx, PZ σ u hA.ses (by have := (hS _ (getElem_mem hi2)).rq.data; omega) (hSa _ (getElem_mem hi2)), fun _ h => by cases h⟩
  refine .m Y (.ex Y Y (.ex Y Y (.oq (.allocA BK) ?_)))
  rintro v L' ⟨b7, rfl, rfl⟩
  refine .sa Y Y BP (by exact CL hyk.1 (by rw [hyk.2]; rfl)) ?_
  refine .a Y (.nil (.pc b7 (A1 y) ?_))
  refine .then_n (.seq (.sm Y (.ui Y Y Y (.nt (.condN Y (fun h47 => ?_) (fun h47 => ?_))))))
  ·refine .sm Y (.m Y (.cv func48 [_, _] (DP _ _) ?_))
   refine .sa Y Y BP (by simp [A1, Ax, AB]) ?_
   refine .nil (.pc bx ([AA 8, AD [], AD [], AG, AA 0, AA i, AA (AV σ u subs[i]).2, AG]) ?_)
   refine .add (AN 60 8) (.add (p := Ah aclR []) (fun h => CX h) ?_)
   have hm := hat.stop hi2 h47 hlen8
   refine .then_n (.rt (.blk_r (.then_r (.then_r (.blk_r (.then_r ?_))))))
   exact .d1 Y (.cellA Y Az O (by simp [DR, AW]) Y) ⟨AG, [], by rw [hm]; rfl, by rw [hm]; rfl, ⟨none, 0, rfl⟩, (fun _ h => by cases h), rfl⟩
  have hpa : y.path.length ≤ 1048576 := by (rw [hy]; exact TQ (hS _ (getElem_mem hi2)) σ om)
  refine .sk (.seq (.draw [2, 5] [[0, 1, 3, 2, 4], [5]] mixed kQ (.go [Ae b7 _ _] O (.k Y (.move Y) (.mv Y Y (.k Y (.la (A1 y) Y Az) (.hh Y (.c func29 [_] (Cd c σ)) ?_)))))))
  rintro v L' ⟨rfl, rfl⟩
  refine D.kv Y (.buildN (pl := [(0, 1), (1, 1), (2, 1), (3, 8)]) (us := [(0, AA σ.zx), (3, .agg (A1 y).toArray)]) (cells := [AA σ.zx, AA 0, AA 0] ++ A1 y) underlying62 kQ Ez Y (HH _ _ _ _ _ _ _ _ _)) (.ph (.g0 (.hh Y (.call func42 Y Y (vs := [_, _]) Y (Eq c σ σ.zx 0 0 y [] (aclR y) (Zm hac hpa hyk.2 hyk.1) (N + i) hok (by show N + i + 0 ≤ _; omega))) ?_)))
  rintro v L' ⟨ue, ee, rfl, -, ⟨ae, ce, rfl⟩, rfl⟩; rw [hap]
  refine D.pf (.region (.fa Y Cm (.u (.ld Y Gl) (.q (.la (A1 y) Y Az) Y (.oq (.buildSlice (vs := [_]) ES BK Y Y Y Y cQ dQ) ?_)))))
  rintro v L' ⟨b12, rfl, rfl⟩
  refine .oq (.append1 Y Y Y ES BK Y Y ?c97 ?c98 (Nat.le_refl _) ?c99 dQ) ?_
  case c97 => simp only [map_cons, map_nil, flatten_cons, flatten_nil, append_nil]; simp only [Value.cells]; intro z hz; exact CL (y := y) hyk.1 (by rw [hyk.2]; rfl) z (by simpa using hz)
  case c98 => rfl
  case c99 => omega
  rintro v L' ⟨⟨a12, c12, rfl⟩, rfl⟩
  refine .fa Y Cm (.st Y Y Y LH ?_)
  refine .nil (.pc b4 ([AA 7, AD [], AD [], AG, AA 0, AA 0, AA 0, .slice a12 (i + 1) c12]) ?_)
  refine .blk_n (.then_n (.region (.q (.add Y Y om) Y (.m Y (.nt (.bigAdd (f := aclR) (l := ys) (p := aclR y) y Y O (.slCast (T := 60) (sz := 8) (m' := i + 1) (xs' := (ys ++ [y]).flatMap A1) O (by exact rfl) (by rw [flatMap_append]; simp [Value.cells]) ?_)))))))
  exact .rk ((i + 1, _, .slice a12 (i + 1) c12, ys ++ [y])) (⟨by dsimp only; omega, ⟨_, _, rfl⟩, by have h5 := hat.step hi2 om; show Di u subs τ (i + 1) (AC σ σ.zx (AV σ u subs[i]).1 []).1 ((ys ++ [y]).map Pt.pl); rw [map_append, show List.map Pt.pl [y] = [(AV σ u subs[i]).1] from by rw [map_cons, hpl]; rfl]; exact h5, fun z hz => by rcases mem_append.1 hz with hz | hz; exact hyc z hz; rw [mem_singleton] at hz; subst hz; exact hyk, by have := hok.apply σ.zx (AV σ u subs[i]).1 [] (Jq (hS _ (getElem_mem hi2)) σ) (fun _ h => by cases h); exact this, hwa⟩) (by dsimp only; omega) O
 have hie : i = subs.length := by omega
 have hat2 : Di u subs τ subs.length σ (ys.map Pt.pl) := by rw [← hie]; exact hat
 have hm := hat2.done hlen8
 have hyl : ys.length = i := by have h := hat.2.2; rw [length_map] at h; exact h
 refine .slCast (T := 60) (sz := 8) (m' := ys.length) (xs' := ys.flatMap A1) O (by rw [hyl]) Y (.xe (.sr (.q (.la ([AA 7, AD [], AD [], AG, AA 0, AA 0, AA 0, .slice au i cu]) Y Az) Y (.sa Y Y BP (by (first | (simp [AB]; done) | (simp [AB, AW, Value.cells]; done))) ?_))))
 refine .nil (.pc bx ([AA 7, AD [], AD [], AG, AA 0, AA 0, AA 0, .slice au i cu]) ?_)
 refine .then_n (.ret ?_)
 exact .d1 Y (.cellA Y Az O (by simp [DR, AW]) Y) ⟨.slice au i cu, ys, by rw [hm]; rfl, by rw [hm], ⟨au, cu, by rw [hyl]⟩, hyc, rfl⟩
theorem Wj (τ : Tr) (u : B4) (l : List Rq) (w : Value) : ((A6 τ u l).1.ws w).pl = (A6 τ u l).1 := by
 unfold A6
 split
 ·rfl
 ·split <;> rfl
theorem IS (τ : Tr) (u : B4) (l : List Rq) : (A6 τ u l).1.aclV = AG ∧ (A6 τ u l).1.acl = [] := by
 unfold A6
 split
 ·exact ⟨rfl, rfl⟩
 ·split <;> exact ⟨rfl, rfl⟩
theorem Xb {x : Pt} {a : Option Addr} {n c : Nat} (h : AB x.aclV = true) : ∀ v ∈ A1 (x.ws (.slice a n c)), AB v = true := CL (y := x.ws (.slice a n c)) h rfl
def Em (k : Int) : Prop := k = 1 ∨ k = 3 ∨ k = 4
instance (k : Int) : Decidable (Em k) := inferInstanceAs (Decidable (_ ∨ _))
structure Rp where
 xid : Int
 zx : Int
 err : Int
 path : Bs
 data : Bs
 st : LN
 aclV : Value
 kidsV : Value
 subsV : Value
def BF (x : Rp) : List Value := [AA x.xid, AA x.zx, AA x.err, AD x.path, AD x.data] ++ B7 x.st ++ [x.aclV, x.kidsV, x.subsV]
def U4 : Rp := ⟨0, 0, 0, [], [], st0, AG, AG, AG⟩
def BE (τ : Tr) (x : Pt) : Rp := ⟨0, 0, 0, if x.kind = 1 then x.path else [], [], if Em x.kind then AU τ x.path else st0, AG, AG, AG⟩
@[simp] theorem rpC_len (x : Rp) : (BF x).length = 17 := rfl
def Rp.ws (x : Rp) (w : Value) : Rp := ⟨x.xid, x.zx, x.err, x.path, x.data, x.st, x.aclV, x.kidsV, w⟩
def CV (e : Int) : Rp := ⟨0, 0, e, [], [], st0, AG, AG, AG⟩
def BH (τ : Tr) (e : En) : Rp := ⟨e.xid, e.zx, if e.x.kind = 8 then e.x.err else 0, (BE τ e.x).path, [], (BE τ e.x).st, AG, AG, AG⟩
def BD (τ : Tr) (e : En) : List Rp :=
 if e.x.kind = 7 then e.subs.map (BE τ) else if e.x.kind = 8 ∧ 0 ≤ e.x.num ∧ e.x.num < 8 then List.replicate e.x.num.toNat (CV 111) ++ [CV e.x.err] else []
theorem Mn (t : Nat) (τ : Tr) (x : Pt) (N : Nat) (ho : τ.Ok N) (hN : N ≤ 1099511627776) (hx1 : AB x.aclV = true) (hx2 : AB x.subsV = true) : Fn prog 46 #[AI t, .agg (A1 x).toArray] [Aa t τ] fun v L => v = .agg (BF (BE τ x)).toArray ∧ L = [Aa t τ] := by
 refine Fn.intro func46 Y Y fun F W => ?_
 refine .sr (.oq (.box Y) ?_)
 rintro v L' ⟨b3, rfl, rfl⟩
 refine .oq (.allocA CS) ?_
 rintro v L' ⟨b4, rfl, rfl⟩
 refine .nil (.pc b3 (A1 x) ?_)
 refine .then_n (.sr (.oq (.allocA CS) ?_))
 rintro v L' ⟨b5, rfl, rfl⟩
 refine .nil (.pc b5 (BF U4) ?_)
 refine .then_n (.seq (.sr (.fa Y B1 (.u (.ld Y AR) (.nt (.block (.sr (.ui Y Y Y (.an Y (.condD Y (fun h8 => ?_) (fun h8 => ?_)))))))))))
 ·refine .sr (.fa Y A7 (.u (.ld Y Ag) (.fa Y Z3 (.oq (.store Y Y Y KM ?c13 (Bf _ _)) ?_))))
  case c13 => simp [BF, B7]
  rintro v L' rfl
  refine .nil (.pc b5 (BF ⟨0, 0, 0, x.path, [], st0, AG, AG, AG⟩) ?_)
  refine .then_n (.region (.m Y (.fa Y A7 (.u (.ld Y Ag) (.cv func76 [_, _] (BZ t τ x.path N ho hN) ?_)))))
  refine .m Y (.ex Y Y (.ex Y Y (.fa Y Hc (.sa Y Y DD (by simp [B7, AB]) ?_))))
  refine .nil (.pc b5 (BF ⟨0, 0, 0, x.path, [], (AU τ x.path), AG, AG, AG⟩) ?_)
  refine .blk_n (.then_n (.sr ?_))
  have e1 : (if x.kind = 1 then x.path else []) = x.path := by first | exact if_pos (by assumption) | exact if_neg (by assumption)
  have e2 : (if Em x.kind then AU τ x.path else st0) = (AU τ x.path) := by first | exact if_pos (by unfold Em; omega) | exact if_neg (by unfold Em; omega)
  refine .ptCast (b := b5) (l' := BF (BE τ x)) O (by unfold BE; rw [e1, e2]; try rfl) ?_
  refine .q (.la (BF (BE τ x)) Y BB) Y (.sa Y Y Bg (by simp [BF, B7, BE, AB]) ?_)
  refine .nil (.pc b4 (BF (BE τ x)) ?_)
  refine .then_n (.ret ?_)
  exact .d1 Y (.cellA Y BB O (by simp [DR, AW]) Y) ⟨Y, Y⟩
 refine .seq (.sr (.ui Y Y Y (.an Y (.dec (t := 21) Y (fun h21 => ?_) (fun h21 => ?_)))))
 ·refine .condT Y (.sk (.condT Y (.region (.m Y (.fa Y A7 (.u (.ld Y Ag) (.cv func76 [_, _] (BZ t τ x.path N ho hN) ?_)))))))
  refine .m Y (.ex Y Y (.ex Y Y (.fa Y Hc (.sa Y Y DD (by simp [B7, AB]) ?_))))
  refine .nil (.pc b5 (BF ⟨0, 0, 0, [], [], (AU τ x.path), AG, AG, AG⟩) ?_)
  refine .blk_n (.then_n (.sr ?_))
  have e1 : (if x.kind = 1 then x.path else []) = [] := by first | exact if_pos (by assumption) | exact if_neg (by assumption)
  have e2 : (if Em x.kind then AU τ x.path else st0) = (AU τ x.path) := by first | exact if_pos (by unfold Em; omega) | exact if_neg (by unfold Em; omega)
  refine .ptCast (b := b5) (l' := BF (BE τ x)) O (by unfold BE; rw [e1, e2]; try rfl) ?_
  refine .q (.la (BF (BE τ x)) Y BB) Y (.sa Y Y Bg (by simp [BF, B7, BE, AB]) ?_)
  refine .nil (.pc b4 (BF (BE τ x)) ?_)
  refine .then_n (.ret ?_)
  exact .d1 Y (.cellA Y BB O (by simp [DR, AW]) Y) ⟨Y, Y⟩
 refine .condF Y (.region (.ui Y Y Y (.an Y (.dec (t := 21) Y (fun h21 => ?_) (fun h21 => ?_)))))
 ·refine .condT Y (.region (.m Y (.fa Y A7 (.u (.ld Y Ag) (.cv func76 [_, _] (BZ t τ x.path N ho hN) ?_)))))
  refine .m Y (.ex Y Y (.ex Y Y (.fa Y Hc (.sa Y Y DD (by simp [B7, AB]) ?_))))
  refine .nil (.pc b5 (BF ⟨0, 0, 0, [], [], (AU τ x.path), AG, AG, AG⟩) ?_)
  refine .blk_n (.then_n (.sr ?_))
  have e1 : (if x.kind = 1 then x.path else []) = [] := by first | exact if_pos (by assumption) | exact if_neg (by assumption)
  have e2 : (if Em x.kind then AU τ x.path else st0) = (AU τ x.path) := by first | exact if_pos (by unfold Em; omega) | exact if_neg (by unfold Em; omega)
  refine .ptCast (b := b5) (l' := BF (BE τ x)) O (by unfold BE; rw [e1, e2]; try rfl) ?_
  refine .q (.la (BF (BE τ x)) Y BB) Y (.sa Y Y Bg (by simp [BF, B7, BE, AB]) ?_)
  refine .nil (.pc b4 (BF (BE τ x)) ?_)
  refine .then_n (.ret ?_)
  exact .d1 Y (.cellA Y BB O (by simp [DR, AW]) Y) ⟨Y, Y⟩
 refine .condF Y (.skip (.blk_n (.then_n (.sr ?_))))
 have e1 : (if x.kind = 1 then x.path else []) = [] := by first | exact if_pos (by assumption) | exact if_neg (by assumption)
 have e2 : (if Em x.kind then AU τ x.path else st0) = st0 := by first | exact if_pos (by unfold Em; omega) | exact if_neg (by unfold Em; omega)
 refine .ptCast (b := b5) (l' := BF (BE τ x)) O (by unfold BE; rw [e1, e2]; try rfl) ?_
 refine .q (.la (BF (BE τ x)) Y BB) Y (.sa Y Y Bg (by simp [BF, B7, BE, AB]) ?_)
 refine .nil (.pc b4 (BF (BE τ x)) ?_)
 refine .then_n (.ret ?_)
 exact .d1 Y (.cellA Y BB O (by simp [DR, AW]) Y) ⟨Y, Y⟩
end Go.Proofs.YtmbnebafdhpgpaaGreatDoor
/-
 DERIVED: THE SHELF's CONTRACTS AT THIS DUMP, IN PLAIN WORDS (tools/lay-plain.mjs out of 'YtmbnebafdhpgpaaGreatDoorLayB.lean', which tools/lay-shelf.mjs wrote): THE SAME DECLARATIONS UNDER THE SAME NAMES: 'import', 'namespace', 'open', 'def', 'theorem' AND NOTHING ELSE: no command of the shelf's: FOR A HAND-IN. Each laying: the table of numbers ('.._ren') and one theorem, a field a fact of the dump's own or the kernel's comparison; each GB: ONE APPLICATION.
-/
namespace Go.Proofs
open Go List Go.Proofs.Tryz Go.Shelf
def Tryz.bmulA_ren : Go.Shelf.Ren := ⟨fun | 212 => 77 | 263 => 136 | 264 => 137 | n => n, fun | 46 => 160 | 51 => 219 | 146 => 220 | 53 => 180 | 148 => 222 | n => n, fun | n => n⟩
theorem Tryz.bmulA : Go.Proofs.Lays.n212 prog Tryz.bmulA_ren := {
 mixed := by kernel_rfl
 f212 := func77.trans (congrArg some (by kernel_rfl))
 f263 := func136.trans (congrArg some (by kernel_rfl))
 f264 := func137.trans (congrArg some (by kernel_rfl))
 t46 := underlying160
 a46 := Tryz.isAgg160
 z46 := Tryz.sizeOf160
 v46 := Tryz.zeroValue160
 t51 := underlying219
 a51 := Tryz.isAgg219
 z51 := Tryz.sizeOf219
 v51 := Tryz.zeroValue219
 t53 := underlying180
 a53 := Tryz.isAgg180
 z53 := Tryz.sizeOf180
 v53 := Tryz.zeroValue180
 t146 := underlying220
 a146 := Tryz.isAgg220
 z146 := Tryz.sizeOf220
 v146 := Tryz.zeroValue220
 t148 := underlying222
 a148 := Tryz.isAgg222
 z148 := Tryz.sizeOf222
 v148 := Tryz.zeroValue222 }
end Go.Proofs
namespace Go.Proofs.YtmbnebafdhpgpaaGreatDoor
open Go List Go.Proofs.Tryz Go.RowKit Go.Sort Go.Shelf
theorem AP.copyMe {P : Program} {E : B0} {ty : TypeId} {dT sT e : TypeId} {x y : Operand} {b off dLen dCap so m mc sz by' : Nat} {l : List Value} {T : TypeId} {fr : Nat × Nat} {ts : Array TypeId} (hts : ts = #[dT, sT]) (hx : ev E x = some (.slice (some ⟨b, off, none⟩) dLen dCap)) (hy : ev E y = some (.slice (some ⟨b, so, none⟩) m mc)) (ht : Aw P dT = some (e, sz, by'))
  (hcell : ∀ y ∈ l, AB y = true) (hso : so + m * sz ≤ l.length) (hmc : m ≤ mc) (hoff : off + dLen * sz ≤ l.length) (hf : TZ fr off (dLen * sz)) :
  AP P ⟨none, .call { callee := .builtin .copy, args := #[x, y], argTypes := ts }, ty, "", #[], none⟩ E [pt b (.cells l.toArray T fr)] fun v' L' => v' = AA (min m dLen : Nat) ∧ L' = [pt b (.cells (DR l off (((l.drop so).take (m * sz)).take (min m dLen * sz))).toArray T fr)] := by
 intro ρ w F ha hs
 subst hts
 have hbw : w.heap[b]? = some (.cells l.toArray T fr) := St.pt (L := F) hs
 have hru : LX sz (fun b => w.heap[b]?) (.slice (some ⟨b, so, none⟩) m mc) m ((l.drop so).take (m * sz)) := .inl (.inr ⟨b, so, mc, l, T, fr, rfl, hbw, rfl, hso, hmc⟩)
 unfold Aw at ht
 split at ht <;> (try cases ht)
 rename_i e' hu
 split at ht <;> (try cases ht)
 rename_i inf hin
 have hlen : (Builtin.lenOf (.slice (some ⟨b, so, none⟩) m mc)).run P w = .ok m w := KK hru
 have hyl := F3 hru
 have hfc : (Builtin.firstCells inf.size (min m dLen) (.slice (some ⟨b, so, none⟩) m mc)).run P w = .ok (((l.drop so).take (m * inf.size)).take (min m dLen * inf.size)).toArray w := KP hru (Nat.min_le_left _ _)
 have hle2 : min m dLen * inf.size ≤ dLen * inf.size := Nat.mul_le_mul_right _ (Nat.min_le_right _ _)
 have hcl : (((l.drop so).take (m * inf.size)).take (min m dLen * inf.size)).length ≤ dLen * inf.size := by simp; omega
 have hrun : (execOp ρ ⟨none, .call { callee := .builtin .copy, args := #[x, y], argTypes := #[dT, sT] }, ty, "", #[], none⟩).run P w = .ok (.value (AA (min m dLen : Nat))) (upd w b (.cells (DR l off (((l.drop so).take (m * inf.size)).take (min m dLen * inf.size))).toArray T fr)) := by
  rw [Ca]
  refine Bp ?_
  simp only [map_toArray, map_cons, map_nil]
  rw [ha x _ hx, ha y _ hy]
  unfold Builtin.copy_
  simp only [List.getElem?_toArray, List.getElem?_cons_zero, List.getElem?_cons_succ]
  rw [run_bind (AO hu)]
  dsimp only
  rw [run_bind hlen, run_bind (Bo (k := inf.size) (by simp [Ak, hin]))]
  rw [show Nat.min m dLen = min m dLen from rfl, run_bind hfc]
  have hst := DZ (P := P) (((l.drop so).take (m * inf.size)).take (min m dLen * inf.size)) w l off 0 hbw om (fun y hy => hcell y (mem_of_mem_drop (mem_of_mem_take (mem_of_mem_take hy)))) (fun i h1 h2 => hf i om om)
  dsimp only
  rw [run_bind hst]; rfl
 unfold C8; rw [hrun]
 exact ⟨_, ⟨rfl, rfl⟩, St.upd (L := F) hs, Au.upd _ _ _⟩
theorem Uw (x y : Nat) (hx : x < 18446744073709551616) (hy : y < 18446744073709551616) : Fn prog 77 #[.int .u64 x, .int .u64 y] [] fun v L => v = .tuple #[.int .u64 ((x * y / 18446744073709551616 : Nat) : Int), .int .u64 ((x * y % 18446744073709551616 : Nat) : Int)] ∧ L = [] := by
 intro F w hs
 refine (Any.bits_Mul Tryz.bmulA x y hx hy w).mono ?_
 rintro e w' ⟨rfl, rfl⟩
 exact ⟨_, _, ⟨rfl, rfl⟩, rfl, hs, Au.refl _⟩
open Go Go.RowKit Go.Sort Go.Shelf
def DB (c : List Value) (n : Nat) : List Value := (List.replicate n c).flatten
theorem Db {c : List Value} {m : Nat} (h : c.length = m) (n : Nat) : (DB c n).length = n * m := by
 unfold DB
 rw [length_flatten, map_replicate, sum_replicate_nat, h]
theorem KH (c : List Value) (a b : Nat) : DB c (a + b) = DB c a ++ DB c b := by
 unfold DB
 rw [← replicate_append_replicate, flatten_append]
theorem Vk {c : List Value} {m : Nat} (h : c.length = m) {a n : Nat} (ha : a ≤ n) : (DB c n).take (a * m) = DB c a := by
 obtain ⟨b, rfl⟩ : ∃ b, n = a + b := ⟨n - a, by omega⟩
 rw [KH, ← Db h a, take_left']
 rfl
theorem Vn {c : List Value} {m : Nat} (h : c.length = m) {a n : Nat} (ha : a ≤ n) : (DB c n).drop (a * m) = DB c (n - a) := by
 obtain ⟨b, rfl⟩ : ∃ b, n = a + b := ⟨n - a, by omega⟩
 rw [KH, ← Db h a, drop_left', show a + b - a = b by omega]
 rfl
def MI (c z : List Value) (k n : Nat) : List Value := DB c n ++ DB z (k - n)
theorem QR {c z : List Value} {m : Nat} (hc : c.length = m) (hz : z.length = m) {k n : Nat} (h : n ≤ k) : (MI c z k n).length = k * m := by
 unfold MI
 rw [length_append, Db hc, Db hz, ← Nat.add_mul]; congr 1; omega
theorem Qb {c z : List Value} {m : Nat} (hc : c.length = m) (hz : z.length = m) {k n j : Nat} (h : n ≤ k) (hj : j ≤ k - n) : DR (MI c z k n) (n * m) (DB c j) = MI c z k (n + j) := by
 unfold DR MI
 have e1 : (DB c n ++ DB z (k - n)).take (n * m) = DB c n := by rw [← Db hc n, take_left']; rfl
 have e2 : (DB c n ++ DB z (k - n)).drop (n * m + (DB c j).length) = DB z (k - (n + j)) := by
  rw [← drop_drop, ← Db hc n, drop_left' rfl, Db hc j, Vn hz hj]; congr 1; omega
 rw [e1, e2, KH]
theorem Xt {c z : List Value} {m : Nat} (hc : c.length = m) {k n j : Nat} (hj : j ≤ n) : (((MI c z k n).drop 0).take (n * m)).take (j * m) = DB c j := by
 unfold MI
 rw [drop_zero, ← Db hc n, take_left' rfl, Vk hc hj]
theorem Qp (c : List Value) : DB c 1 = c := by simp [DB]
theorem MZ {c : List Value} (h : ∀ v ∈ c, AB v = true) (n : Nat) : ∀ v ∈ DB c n, AB v = true := by
 intro v hv
 obtain ⟨l, hl, hv⟩ := mem_flatten.1 hv
 rw [eq_of_mem_replicate hl] at hv
 exact h v hv
theorem Pv {c : List Value} {m : Nat} (h : c.length = m) (hm : 0 < m) : ∀ (n i : Nat), i < n * m → (DB c n)[i]? = c[i % m]?
 | 0, i, hi => by omega
 | n + 1, i, hi => by
  have e : DB c (n + 1) = c ++ DB c n := by rw [Nat.add_comm, KH, Qp]
  rw [e]
  rcases Nat.lt_or_ge i m with g | g
  ·rw [List.getElem?_append_left om, Nat.mod_eq_of_lt g]
  ·rw [List.getElem?_append_right om, h, Pv h hm n (i - m) (by rw [Nat.add_mul] at hi; omega), Nat.mod_eq_sub_mod g]
theorem Vu {z : Value} {l : List Value} {sz n : Nat} (hz : z.cells = l.toArray) (hl : l.length = sz) (hs : 0 < sz) : (Array.range (n * sz)).map (fun i => z.cells[i % z.cells.size]!) = (DB l n).toArray := by
 apply Array.ext
 ·simp [Db hl]
 ·intro i h1 h2
  have hi : i < n * sz := by simpa using h1
  have hlt : i % l.length < l.length := Nat.mod_lt _ om
  simp only [Array.getElem_map, Array.getElem_range, hz, size_toArray, getElem_toArray]
  rw [List.getElem!_toArray, getElem!_pos l (i % l.length) hlt]
  have := Pv hl hs n i hi
  rw [List.getElem?_eq_getElem (by simpa using h2), ← hl, List.getElem?_eq_getElem hlt] at this
  exact (Option.some.inj this).symm
theorem AP.makeZ {P : Program} {E : B0} {ty : TypeId} {t e : TypeId} {x y : Operand} {i j : Int} {sz by' : Nat} {z : Value} {l : List Value} (hx : ev E x = some (AA i)) (hy : ev E y = some (AA j)) (ht : Aw P t = some (e, sz, by')) (hz : Av P e = some z) (hzc : z.cells = l.toArray) (hl : 0 < sz ∧ l.length = sz)
  (hb : 0 ≤ i ∧ i ≤ j ∧ (by' : Int) * j ≤ 281474976710656 ∧ j ≤ 9223372036854775807) : AP P ⟨none, .makeSlice t x y, ty, "", #[], none⟩ E [] fun v L' => ∃ b, v = .slice (some ⟨b, 0, none⟩) i.toNat j.toNat ∧ L' = [Ae b (DB l j.toNat) e] := by
 intro ρ w F ha hs
 unfold Aw at ht
 split at ht <;> (try cases ht)
 rename_i e' hu
 split at ht <;> (try cases ht)
 rename_i inf hin
 obtain ⟨h0, h1, h2, h3⟩ := hb
 have hwi : IntKind.i64.wrap i = i := KO om
 have hwj : IntKind.i64.wrap j = j := KO om
 have hrun : (execOp ρ ⟨none, .makeSlice t x y, ty, "", #[], none⟩).run P w = .ok (.value (.slice (some ⟨w.heap.size, 0, none⟩) i.toNat j.toNat)) { w with heap := w.heap.push (.cells (DB l j.toNat).toArray e) } := by
  refine Bp ?_
  show (Instr.makeSlice t (ρ x) (ρ y)).run P w = _
  rw [ha x _ hx, ha y _ hy]
  unfold Instr.makeSlice
  rw [run_bind (AO hu)]
  dsimp only
  have hti : (typeInfo e).run P w = .ok inf w := by simp [typeInfo, program, Bind.bind, Sem.bind, Pure.pure, Sem.run, hin]
  rw [run_bind (a := i) (w' := w) rfl, run_bind (a := j) (w' := w) rfl, run_bind hti]
  simp only [hwi, hwj]
  have c1 : ((decide (j < 0) || decide ((inf.bytes : Int) * j > 2 ^ 48)) || decide (i < 0) || decide (i > j)) = false := by
   simp only [Bool.or_eq_false_iff, decide_eq_false_iff_not]
   refine ⟨⟨⟨by omega, ?_⟩, by omega⟩, by omega⟩
   have : (2 : Int) ^ 48 = 281474976710656 := by decide
   omega
  rw [c1]
  simp only [Bool.false_eq_true, if_false]
  rw [run_bind (run_askRoom (P := P) (w := w) _), run_bind (Bo (k := inf.size) (by simp [Ak, hin]))]
  by_cases hn : j.toNat * inf.size = 0
  ·rw [if_pos hn, run_bind run_pure]
   rw [hn]
   have hj0 : j.toNat = 0 := by
    rcases Nat.eq_zero_or_pos j.toNat with g | g
    ·exact g
    ·have := Nat.mul_pos g hl.1; omega
   have he : (Array.range 0).map (fun x => (#[] : Array Value)[x % (#[] : Array Value).size]!) = (DB l j.toNat).toArray := by rw [hj0]; simp [DB]
   rw [he, run_bind (Cy e _)]
   rfl
  ·rw [if_neg hn]
   rw [run_bind (Eb hz), run_bind run_pure, Vu hzc hl.2 hl.1, run_bind (Cy e _)]
   rfl
 unfold C8; rw [hrun]
 exact ⟨_, ⟨_, rfl, rfl⟩, St.new (L := F) hs _, Au.new _ _⟩
theorem KJ : (BF U4).length = 17 := rfl
theorem BL {x : Rp} (h1 : AB x.aclV = true) (h2 : AB x.kidsV = true) (h3 : AB x.subsV = true) : ∀ v ∈ BF x, AB v = true := by
 intro v hv
 have h : (BF x).all AB = true := by simp only [BF, B7, cons_append, nil_append, all_cons, all_nil, h1, h2, h3]; rfl
 exact all_eq_true.1 h v hv
theorem Ta {c z : List Value} (hc : ∀ v ∈ c, AB v = true) (hz : ∀ v ∈ z, AB v = true) (k n : Nat) : ∀ v ∈ MI c z k n, AB v = true := by
 intro v hv
 rcases mem_append.1 hv with h | h
 ·exact MZ hc _ v h
 ·exact MZ hz _ v h
theorem HI (x : Rp) (b0 k : Nat) (p : HP) (hr : ∀ h : Hp, p h → Cx 17 h (.slice (some ⟨b0, 0, none⟩) 1 1) 1 (BF x)) (hx : ∀ v ∈ BF x, AB v = true) (hk : k ≤ 8) : Fn prog 47 #[.slice (some ⟨b0, 0, none⟩) 1 1, AA (k : Nat)] [p] fun v L => (∃ b, v = .slice (some ⟨b, 0, none⟩) k k) ∧ L = [p, Ad 41 17 v k (DB (BF x) k)] := by
 refine Fn.intro func47 Y Y fun F W => ?_
 have hz0 : ∀ v ∈ BF U4, AB v = true := BL rfl rfl rfl
 refine .sr (.an Y (.seq (.sm Y (.ui Y Y Y (.nt (.condD Y (fun h10 => ?_) (fun h10 => ?_)))))))
 ·exfalso; omega
 refine .sk (.sm Y (.q (.slen Y underlying39 Y) Y (.q (.as (v' := .int .u64 ((1 : Nat) : Int)) (by rfl) (.conv Y underlying3 underlying160)) Y (.m Y (.q (.as (v' := .int .u64 ((k : Nat) : Int)) (by show Value.int .u64 (IntKind.u64.wrap (k : Int)) = _; rw [show IntKind.u64.wrap (k : Int) = (k : Int) by (simp only [IntKind.wrap, IntKind.signed, IntKind.bits, Bool.false_and]; simp; omega)]) (.conv Y underlying3 underlying160)) Y (.oq (.c func77 [_, _] (Uw 1 k om om)) ?_))))))
 rintro v L' ⟨rfl, rfl⟩; rw [show (1 * k / 18446744073709551616 : Nat) = 0 by omega, show (1 * k % 18446744073709551616 : Nat) = k by omega]
 refine .m Y (.ex Y Y (.ex Y Y (.a Y (.an Y (.seq (.sm Y (.q (.as (v' := .bool false) (by rfl) (.int Y Y Y)) Y (.m Y (.gr (.m Y (.gr (.q (.as (v' := .bool false) (by exact congrArg Value.bool (decide_eq_false om)) (.int Y Y Y)) Y (.pF Y Y (.nt (.condF Y (.sk (.sm Y (.q (.as (v' := AA (k : Nat)) (by show Value.int .i64 (IntKind.i64.wrap (k : Int)) = _; rw [KO om]) (.conv Y underlying160 underlying3)) Y (.oq (.makeZ (l := BF U4) Y Y Fv CS Y ⟨by decide, rfl⟩ ⟨by omega, by omega, by omega, by omega⟩) ?_)))))))))))))))))))
 rintro v L' ⟨bm, rfl, rfl⟩; rw [Int.toNat_natCast]
 refine .an Y (.sm Y (.m Y (.oq (.copy (m := 1) (ys := BF x) (p := p) Y Y Y Fv ?h119 ?h220 ?h321 ?h422) ?_)))
 case h119 => exact hr
 case h220 => exact hx
 case h321 => rw [Db KJ]; omega
 case h422 => exact Bf _ _
 rintro v L' ⟨rfl, rfl⟩
 refine .a Y (.nil (.ptCast (b := bm) (l' := MI (BF x) (BF U4) k (min 1 k)) O (by rw [show (BF x).take (min 1 k * 17) = DB (BF x) (min 1 k) by (rcases Nat.eq_zero_or_pos k with g | g; rw [g]; rfl; rw [Nat.min_eq_left g, Qp]; rfl)]; have := Qb (rpC_len x) KJ (k := k) (n := 0) (j := min 1 k) om om; rw [Nat.zero_mul, Nat.zero_add] at this; exact this) ?_))
 refine .then_n (.seq (.block (.loopK (ι := Nat) (fun q E => (8, AA (q : Nat)) :: E) (fun q => [Ae bm (MI (BF x) (BF U4) k q) 41]) (fun q => q ≤ k ∧ (0 < k → 0 < q)) (fun q => k - q) (min 1 k) (ts := [4, 7]) O (⟨by omega, by omega⟩) O O ?_)))
 rintro n ⟨hn, hpos⟩
 refine .seq (.sm Y (.m Y (.q (.slen Y underlying39 Y) Y (.ui Y Y Y (.nt (.condD Y (fun h37 => ?_) (fun h37 => ?_)))))))
 ·have hn2 : n < k := by omega
  refine .sk (.block (.draw [7] [[0, 1, 2, 3, 4, 5, 6, 7], [8, 9]] mixed kQ (.g0 (.k Y (.move Y) (.mv Y Y (.mv Y Y (.kv Y (.to (v' := .slice (some ⟨bm, 0 + n * 17, none⟩) (k - n) (k - n)) (.slSlice (i := (n : Int)) (j := (k : Int)) Y Fv Y Y om) (by rw [Int.toNat_natCast, Int.toNat_natCast, if_neg om])) (.mv Y Y (.mv Y Y (.kv Y (.to (v' := .slice (some ⟨bm, 0, none⟩) n k) (.slTo Y Fv Y om (.inr ⟨_, _, Y⟩)) (by rw [Int.toNat_natCast])) (.hh Y (.copyMe (sz := 17) Y Y Y Fv ?h136 ?h237 ?h338 ?h439 ?h540) ?_)))))))))))
  case h136 => exact Ta hx hz0 k n
  case h237 => rw [QR (rpC_len x) KJ hn]; omega
  case h338 => exact hn
  case h439 => rw [QR (rpC_len x) KJ hn]; omega
  case h540 => exact Bf _ _
  rintro v L' ⟨rfl, rfl⟩
  refine D.ph (.g0 (.kv Y (.add Y Y om) (.kv Y (.assign Y) (.ph (.fin (.blk_n (.then_n (.ptCast (b := bm) (l' := MI (BF x) (BF U4) k (n + min n (k - n))) O (by rw [Xt (rpC_len x) (Nat.min_le_left _ _), Nat.zero_add]; exact Qb (rpC_len x) KJ hn (Nat.min_le_right _ _)) ?_))))))))
  exact .rk (n + min n (k - n)) (⟨by omega, by omega⟩) om O
 have hnk : n = k := by omega
 subst hnk
 refine .slMakeN 17 n (b := bm) (xs := DB (BF x) n) O (by show DB (BF x) n ++ DB _ (n - n) = _; rw [Nat.sub_self]; simp [DB]) (by exact Db (rpC_len x) n) (.xe (.sm Y (.an Y (.ret ?_))))
 exact .dn Y Y ⟨⟨_, Y⟩, Y⟩
theorem RX (t : Nat) (τ : Tr) (e : En) (N : Nat) (ho : τ.Ok N) (hN : N ≤ 1099511627776) (q : HP) (hq : ∀ h : Hp, q h → Cx 8 h e.x.subsV e.subs.length (e.subs.flatMap A1)) (hfew : e.subs.length ≤ 1048576) (h1 : AB e.x.aclV = true) (h2 : AB e.x.subsV = true) (hs : ∀ y ∈ e.subs, AB y.aclV = true ∧ AB y.subsV = true) : Fn prog 26 #[AI t, .agg (DQ e).toArray] [Aa t τ, q] fun v L =>
    ∃ w : Value, v = .agg (BF ((BH τ e).ws w)).toArray ∧ (∃ a c, w = .slice a (BD τ e).length c) ∧ L = [Aa t τ, q, Ad 41 17 w (BD τ e).length ((BD τ e).flatMap BF)] := by
 refine Fn.intro func26 Y Y fun F W => ?_
 refine .rdAny (p := q) hq O fun aa ca hsv _ => ?_
 have hq2 : ∀ h : Hp, q h → Cx 8 h (.slice aa e.subs.length ca) e.subs.length (e.subs.flatMap A1) := fun h hp => hsv ▸ hq h hp
 refine .sr (.oq (.box Y) ?_)
 rintro v L' ⟨b3, rfl, rfl⟩
 refine .oq (.allocA CS) ?_
 rintro v L' ⟨b4, rfl, rfl⟩
 refine .nil (.pc b3 (DQ e) ?_)
 refine .then_n (.seq (.sm Y (.q (.ptreq Y Y underlying76) Y (.nt (.condF Y (.sk (.sr (.fa Y HW (.q (.la (A1 e.x) Y Az) Y (.oq (.allocA BK) ?_))))))))))
 rintro v L' ⟨b5, rfl, rfl⟩
 refine .sa Y Y BP (by exact CL h1 h2) ?_
 refine .nil (.pc b5 (A1 e.x) ?_)
 refine .then_n (.sm Y (.q (.la (A1 e.x) Y Az) Y (.cv func46 [_, _] (Mn t τ e.x N ho hN h1 h2) ?_)))
 refine .oq (.allocA CS) ?_
 rintro v L' ⟨b6, rfl, rfl⟩
 refine .sa Y Y Bg (by exact BL rfl rfl rfl) ?_
 refine .nil (.pc b6 (BF (BE τ e.x)) ?_)
 refine .then_n (.seq (.draw [5, 7] [[0, 1, 2, 3, 4, 5], [6, 7]] mixed kQ (.go [Ae b3 _ _] O (.kv Y (.fieldAddr Y Ot) (.kv Y (.ld Y AR) (.k Y (.fieldAddr Y C4) (.k Y (.ld Y AR) (.kv Y (.fieldAddr Y L3) (.hh Y (.store Y Y Y CC ?c32 (Bf _ _)) ?_)))))))))
 case c32 => simp
 rintro v L' rfl
 refine D.ph (.g0 (.kv Y (.fieldAddr Y L6) (.hh Y (.store Y Y Y CC ?c36 (Bf _ _)) ?_)))
 case c36 => simp
 rintro v L' rfl
 refine D.ph (.fin (.pc b6 (BF ⟨e.xid, e.zx, 0, (BE τ e.x).path, [], (BE τ e.x).st, AG, AG, AG⟩) ?_))
 refine .then_n (.seq (.block (.sr (.fa Y B1 (.u (.ld Y AR) (.ui Y Y Y (.an Y (.condD Y (fun h23 => ?_) (fun h23 => ?_)))))))))
 ·refine .sr (.fa Y Cm (.q (.to (v' := .slice aa e.subs.length ca) (.load Y Gl O Y) (by exact hsv)) Y (.q (.slen Y underlying58 Y) Y (.m Y (.nil (.add (AN 41 17) (.then_n (.block (.loopK (ι := Nat × Value) (fun q E => (30, AA q.1) :: E) (fun q => [Aa t τ, Ae b6 (BF ⟨e.xid, e.zx, 0, (BE τ e.x).path, [], (BE τ e.x).st, AG, AG, q.2⟩) 41, Ad 41 17 q.2 q.1 (((e.subs.take q.1).map (BE τ)).flatMap BF)]) (fun q => q.1 ≤ e.subs.length ∧ (∃ a c, q.2 = .slice a q.1 c)) (fun q => e.subs.length - q.1) (0, AG) (ts := [0, 4, 6, 28, 29]) O (⟨Nat.zero_le _, ⟨none, 0, Y⟩⟩) O O ?_)))))))))
  rintro ⟨j, w⟩ ⟨hj, ⟨au, cu, hu⟩⟩
  dsimp only
  dsimp only at hj hu
  subst hu
  refine .sr (.ui Y Y Y (.nt (.seq (.condD Y (fun h31 => ?_) (fun h31 => ?_)))))
  ·have hj2 : j < e.subs.length := by omega
   refine .rdShape (p := q) hq2 O om fun ba oa ee => ?_
   subst ee
   refine .sk (.seq (.block (.sr (.q (.indexAddr Y Y ES om) Y (.q (.loadRdA (sz := 8) (j := j * 8) (k := 8) (p := q) (vs := A1 e.subs[j]) Y Az O hq2 (by simp) om om (A3 (f := A1) (sz := 8) (fun _ _ => Y) om)) Y (.oq (.allocA BK) ?_))))))
   rintro v L' ⟨b8, rfl, rfl⟩
   refine .sa Y Y BP (by exact CL (hs _ (getElem_mem hj2)).1 (hs _ (getElem_mem hj2)).2) ?_
   refine .nil (.pc b8 (A1 e.subs[j]) ?_)
   refine .then_n (.draw [4, 5, 6, 8] [[0, 1, 2, 3, 4, 5], [6], [7, 8]] mixed kQ (.go [Ae b8 _ _, Ae b6 _ _] O (.k Y (.fieldAddr Y Jt) (.k Y (.ld Y ABt) (.mv Y Y (.kv Y (.la (A1 e.subs[j]) Y Az) (.hh Y (.c func46 [_, _] (Mn t τ e.subs[j] N ho hN (hs _ (getElem_mem hj2)).1 (hs _ (getElem_mem hj2)).2)) ?_)))))))
   rintro v L' ⟨rfl, rfl⟩
   refine D.hh Y (.buildSlice (vs := [_]) Fv CS Y Y Y Y cQ dQ) ?_
   rintro v L' ⟨b10, rfl, rfl⟩
   refine D.ph (.g0 (.hh Y (.append1 Y Y Y Fv CS Y Y ?c64 ?c65 (Nat.le_refl _) ?c66 dQ) ?_))
   case c64 => simp only [map_cons, map_nil, flatten_cons, flatten_nil, append_nil]; simp only [Value.cells]; intro z hz; exact BL (x := BE τ e.subs[j]) rfl rfl rfl z (by simpa using hz)
   case c65 => rfl
   case c66 => omega
   rintro v L' ⟨⟨a10, c10, rfl⟩, rfl⟩
   refine D.ph (.g0 (.kv Y (.fieldAddr Y Jt) (.hh Y (.store Y Y Y UM ?c70 (Bf _ _)) ?_)))
   case c70 => simp
   rintro v L' rfl
   refine D.ph (.fin (.blk_n (.then_n (.region (.q (.add Y Y om) Y (.m Y (.nt (.slCast (T := 41) (sz := 17) (m' := j + 1) (xs' := ((e.subs.take (j + 1)).map (BE τ)).flatMap BF) O (by exact rfl) (by rw [take_succ_eq_append_getElem hj2, map_append, flatMap_append]; simp [Value.cells]) (.pc b6 (BF ⟨e.xid, e.zx, 0, (BE τ e.x).path, [], (BE τ e.x).st, AG, AG, .slice a10 (j + 1) c10⟩) ?_)))))))))
   exact .rk ((j + 1, .slice a10 (j + 1) c10)) (⟨by dsimp only; omega, ⟨_, _, rfl⟩⟩) (by dsimp only; omega) O
  refine .exit (.then_e (.then_e (.blk_e (.blk_n (.then_n (.sr ?_))))))
  have hW : BD τ e = e.subs.map (BE τ) := if_pos h23
  have hje : j = e.subs.length := by omega
  have hlen : j = (BD τ e).length := by rw [hW, length_map]; exact hje
  refine .as (q := Ad 41 17 (.slice au j cu) (BD τ e).length ((BD τ e).flatMap BF)) (p := Ad 41 17 (.slice au j cu) j (((e.subs.take j).map (BE τ)).flatMap BF)) O (by rw [← hlen, hW, hje, take_length]) (.ptCast (b := b6) (l' := BF ((BH τ e).ws (.slice au j cu))) O (by unfold BH Rp.ws; first | (rw [if_pos h43]; try rfl) | (rw [if_neg om]; try rfl)) ?_)
  refine .q (.la (BF ((BH τ e).ws (.slice au j cu))) Y BB) Y (.sa Y Y Bg (by exact BL rfl rfl rfl) ?_)
  refine .nil (.pc b4 (BF ((BH τ e).ws (.slice au j cu))) ?_)
  refine .then_n (.ret ?_)
  exact .d1 Y (.cellA Y BB O (by simp [DR, AW]) Y) ⟨.slice au j cu, Y, ⟨_, _, congrArg (fun m => Value.slice _ m _) hlen⟩, Y⟩
 refine .sr (.fa Y B1 (.u (.ld Y AR) (.ui Y Y Y (.an Y (.condD Y (fun h43 => ?_) (fun h43 => ?_))))))
 ·refine .sr (.fa Y If (.u (.ld Y Ey) (.fa Y Do (.oq (.store Y Y Y MD ?c86 (Bf _ _)) ?_))))
  case c86 => simp
  rintro v L' rfl
  refine .nt (.sr (.fa Y Cl (.u (.ld Y AR) (.ui Y Y Y (.m Y (.dec (t := 53) Y (fun h14_53 => ?_) (fun h14_53 => ?_)))))))
  ·refine .kDT (t := 52) Y h14_53 (.gr (.fa Y Cl (.gr (.u (.ld Y AR) (.gr (.ui Y Y Y (.pT Y Y (.nt (.condD Y (fun h57 => ?_) (fun h57 => ?_))))))))))
   ·refine .draw [1, 4, 8, 9, 11] [[0, 2, 3, 5, 6, 7, 1, 4, 8], [9], [10, 11]] mixed kQ (.go [Ae b5 _ _] O (.k Y (.to (v' := .agg (BF (CV (111))).toArray) (.buildN (pl := [(0, 1), (1, 1), (2, 1), (3, 1), (4, 1), (5, 9), (14, 1), (15, 1), (16, 1)]) (us := [(2, AA (111))]) (cells := BF (CV (111))) underlying41 kQ CS Y Y) Y) (.k Y (.fieldAddr Y Cl) (.k Y (.as (v' := AA ((e.x.num.toNat : Nat) : Int)) (by rw [Int.toNat_of_nonneg om]) (.ld Y AR)) (.k Y (.fieldAddr Y If) (.k Y (.ld Y Ey) (.k Y (.to (v' := .agg (BF (CV (e.x.err))).toArray) (.buildN (pl := [(0, 1), (1, 1), (2, 1), (3, 1), (4, 1), (5, 9), (14, 1), (15, 1), (16, 1)]) (us := [(2, AA (e.x.err))]) (cells := BF (CV (e.x.err))) underlying41 kQ CS Y Y) Y) ?_)))))))
    refine D.h2 (k := 8) Y Y kQ Y (.buildSlice (vs := [_]) Fv CS Y Y Y Y cQ dQ) O (.buildSlice (vs := [_]) Fv CS Y Y Y Y cQ dQ) O ?_ ?_
    ·rintro v L' ⟨b15, rfl, rfl⟩
     refine D.h2 (k := 8) Y Y kQ Y (.call func47 Y Y (vs := [_, _]) Y (HI (CV 111) b15 e.x.num.toNat (Ae b15 (BF (CV 111)) 41) (fun _ hp => AZ (Sv hp Y)) (BL Y Y Y) om)) O (.buildSlice (vs := [_]) Fv CS Y Y Y Y cQ dQ) O ?_ ?_
     ·rintro v L' ⟨⟨br, rfl⟩, rfl⟩
      refine D.hh Y (.buildSlice (vs := [_]) Fv CS Y Y Y Y cQ dQ) ?_
      rintro v L' ⟨b18, rfl, rfl⟩
      refine D.ph (.g0 (.hh Y (.append1 Y Y Y Fv CS Y Y ?c109 ?c110 (Nat.le_refl _) ?c111 dQ) ?_))
      case c109 => simp only [map_cons, map_nil, flatten_cons, flatten_nil, append_nil]; simp only [Value.cells]; intro z hz; exact BL (x := CV e.x.err) rfl rfl rfl z (by simpa using hz)
      case c110 => rfl
      case c111 => omega
      rintro v L' ⟨⟨a15, c15, rfl⟩, rfl⟩
      refine D.ph (.g0 (.kv Y (.fieldAddr Y Jt) (.hh Y (.store Y Y Y UM ?c115 (Bf _ _)) ?_)))
      case c115 => simp
      rintro v L' rfl
      refine D.ph (.fin (.blk_n (.then_n (.sr ?_))))
      have hW : BD τ e = List.replicate e.x.num.toNat (CV 111) ++ [CV e.x.err] := by unfold BD; rw [if_neg h23, if_pos ⟨h43, by omega, by omega⟩]
      have hlen : e.x.num.toNat + 1 = (BD τ e).length := by rw [hW]; simp
      refine .slCast (T := 41) (sz := 17) (m' := (BD τ e).length) (xs' := (BD τ e).flatMap BF) O (by exact hlen) (by rw [hW, flatMap_append, flatMap_replicate]; simp [DB, Value.cells]) (.ptCast (b := b6) (l' := BF ((BH τ e).ws (.slice a15 (e.x.num.toNat + 1) c15))) O (by unfold BH Rp.ws; first | (rw [if_pos h43]; try rfl) | (rw [if_neg om]; try rfl)) ?_)
      refine .q (.la (BF ((BH τ e).ws (.slice a15 (e.x.num.toNat + 1) c15))) Y BB) Y (.sa Y Y Bg (by exact BL rfl rfl rfl) ?_)
      refine .nil (.pc b4 (BF ((BH τ e).ws (.slice a15 (e.x.num.toNat + 1) c15))) ?_)
      refine .then_n (.ret ?_)
      exact .d1 Y (.cellA Y BB O (by simp [DR, AW]) Y) ⟨.slice a15 (e.x.num.toNat + 1) c15, Y, ⟨_, _, congrArg (fun m => Value.slice _ m _) hlen⟩, Y⟩
     rintro v L' ⟨b18, rfl, rfl⟩
     refine D.hh Y (.call func47 Y Y (vs := [_, _]) Y (HI (CV 111) b15 e.x.num.toNat (Ae b15 (BF (CV 111)) 41) (fun _ hp => AZ (Sv hp Y)) (BL Y Y Y) om)) ?_
     rintro v L' ⟨⟨br, rfl⟩, rfl⟩
     refine D.ph (.g0 (.hh Y (.append1 Y Y Y Fv CS Y Y ?c127 ?c128 (Nat.le_refl _) ?c129 dQ) ?_))
     case c127 => simp only [map_cons, map_nil, flatten_cons, flatten_nil, append_nil]; simp only [Value.cells]; intro z hz; exact BL (x := CV e.x.err) rfl rfl rfl z (by simpa using hz)
     case c128 => rfl
     case c129 => omega
     rintro v L' ⟨⟨a15, c15, rfl⟩, rfl⟩
     refine D.ph (.g0 (.kv Y (.fieldAddr Y Jt) (.hh Y (.store Y Y Y UM ?c133 (Bf _ _)) ?_)))
     case c133 => simp
     rintro v L' rfl
     refine D.ph (.fin (.blk_n (.then_n (.sr ?_))))
     have hW : BD τ e = List.replicate e.x.num.toNat (CV 111) ++ [CV e.x.err] := by unfold BD; rw [if_neg h23, if_pos ⟨h43, by omega, by omega⟩]
     have hlen : e.x.num.toNat + 1 = (BD τ e).length := by rw [hW]; simp
     refine .slCast (T := 41) (sz := 17) (m' := (BD τ e).length) (xs' := (BD τ e).flatMap BF) O (by exact hlen) (by rw [hW, flatMap_append, flatMap_replicate]; simp [DB, Value.cells]) (.ptCast (b := b6) (l' := BF ((BH τ e).ws (.slice a15 (e.x.num.toNat + 1) c15))) O (by unfold BH Rp.ws; first | (rw [if_pos h43]; try rfl) | (rw [if_neg om]; try rfl)) ?_)
     refine .q (.la (BF ((BH τ e).ws (.slice a15 (e.x.num.toNat + 1) c15))) Y BB) Y (.sa Y Y Bg (by exact BL rfl rfl rfl) ?_)
     refine .nil (.pc b4 (BF ((BH τ e).ws (.slice a15 (e.x.num.toNat + 1) c15))) ?_)
     refine .then_n (.ret ?_)
     exact .d1 Y (.cellA Y BB O (by simp [DR, AW]) Y) ⟨.slice a15 (e.x.num.toNat + 1) c15, Y, ⟨_, _, congrArg (fun m => Value.slice _ m _) hlen⟩, Y⟩
    rintro v L' ⟨b18, rfl, rfl⟩
    refine D.hh Y (.buildSlice (vs := [_]) Fv CS Y Y Y Y cQ dQ) ?_
    rintro v L' ⟨b15, rfl, rfl⟩
    refine D.hh Y (.call func47 Y Y (vs := [_, _]) Y (HI (CV 111) b15 e.x.num.toNat (Ae b15 (BF (CV 111)) 41) (fun _ hp => AZ (Sv hp Y)) (BL Y Y Y) om)) ?_
    rintro v L' ⟨⟨br, rfl⟩, rfl⟩
    refine D.ph (.g0 (.hh Y (.append1 Y Y Y Fv CS Y Y ?c147 ?c148 (Nat.le_refl _) ?c149 dQ) ?_))
    case c147 => simp only [map_cons, map_nil, flatten_cons, flatten_nil, append_nil]; simp only [Value.cells]; intro z hz; exact BL (x := CV e.x.err) rfl rfl rfl z (by simpa using hz)
    case c148 => rfl
    case c149 => omega
    rintro v L' ⟨⟨a15, c15, rfl⟩, rfl⟩
    refine D.ph (.g0 (.kv Y (.fieldAddr Y Jt) (.hh Y (.store Y Y Y UM ?c153 (Bf _ _)) ?_)))
    case c153 => simp
    rintro v L' rfl
    refine D.ph (.fin (.blk_n (.then_n (.sr ?_))))
    have hW : BD τ e = List.replicate e.x.num.toNat (CV 111) ++ [CV e.x.err] := by unfold BD; rw [if_neg h23, if_pos ⟨h43, by omega, by omega⟩]
    have hlen : e.x.num.toNat + 1 = (BD τ e).length := by rw [hW]; simp
    refine .slCast (T := 41) (sz := 17) (m' := (BD τ e).length) (xs' := (BD τ e).flatMap BF) O (by exact hlen) (by rw [hW, flatMap_append, flatMap_replicate]; simp [DB, Value.cells]) (.ptCast (b := b6) (l' := BF ((BH τ e).ws (.slice a15 (e.x.num.toNat + 1) c15))) O (by unfold BH Rp.ws; first | (rw [if_pos h43]; try rfl) | (rw [if_neg om]; try rfl)) ?_)
    refine .q (.la (BF ((BH τ e).ws (.slice a15 (e.x.num.toNat + 1) c15))) Y BB) Y (.sa Y Y Bg (by exact BL rfl rfl rfl) ?_)
    refine .nil (.pc b4 (BF ((BH τ e).ws (.slice a15 (e.x.num.toNat + 1) c15))) ?_)
    refine .then_n (.ret ?_)
    exact .d1 Y (.cellA Y BB O (by simp [DR, AW]) Y) ⟨.slice a15 (e.x.num.toNat + 1) c15, Y, ⟨_, _, congrArg (fun m => Value.slice _ m _) hlen⟩, Y⟩
   refine .skip (.blk_n (.then_n (.sr ?_)))
   have hW : BD τ e = [] := by unfold BD; rw [if_neg h23, if_neg (by rintro ⟨g0, g1, g2⟩; omega)]
   have hlen : 0 = (BD τ e).length := by rw [hW]; rfl
   refine .add (AN 41 17) (.as (q := Ad 41 17 AG (BD τ e).length ((BD τ e).flatMap BF)) (p := Ad 41 17 AG 0 []) O (by rw [hW]; rfl) (.ptCast (b := b6) (l' := BF ((BH τ e).ws (AG))) O (by unfold BH Rp.ws; first | (rw [if_pos h43]; try rfl) | (rw [if_neg om]; try rfl)) ?_))
   refine .q (.la (BF ((BH τ e).ws (AG))) Y BB) Y (.sa Y Y Bg (by exact BL rfl rfl rfl) ?_)
   refine .nil (.pc b4 (BF ((BH τ e).ws (AG))) ?_)
   refine .then_n (.ret ?_)
   exact .d1 Y (.cellA Y BB O (by simp [DR, AW]) Y) ⟨AG, Y, ⟨_, _, congrArg (fun m => Value.slice _ m _) hlen⟩, Y⟩
  refine .kDF (t := 52) Y h14_53 (.gk (.gk (.gk (.pF Y Y (.nt (.condF Y (.skip (.blk_n (.then_n (.sr ?_))))))))))
  have hW : BD τ e = [] := by unfold BD; rw [if_neg h23, if_neg (by rintro ⟨g0, g1, g2⟩; omega)]
  have hlen : 0 = (BD τ e).length := by rw [hW]; rfl
  refine .add (AN 41 17) (.as (q := Ad 41 17 AG (BD τ e).length ((BD τ e).flatMap BF)) (p := Ad 41 17 AG 0 []) O (by rw [hW]; rfl) (.ptCast (b := b6) (l' := BF ((BH τ e).ws (AG))) O (by unfold BH Rp.ws; first | (rw [if_pos h43]; try rfl) | (rw [if_neg om]; try rfl)) ?_))
  refine .q (.la (BF ((BH τ e).ws (AG))) Y BB) Y (.sa Y Y Bg (by exact BL rfl rfl rfl) ?_)
  refine .nil (.pc b4 (BF ((BH τ e).ws (AG))) ?_)
  refine .then_n (.ret ?_)
  exact .d1 Y (.cellA Y BB O (by simp [DR, AW]) Y) ⟨AG, Y, ⟨_, _, congrArg (fun m => Value.slice _ m _) hlen⟩, Y⟩
 refine .skip (.blk_n (.then_n (.sr ?_)))
 have hW : BD τ e = [] := by unfold BD; rw [if_neg h23, if_neg (by rintro ⟨g0, g1, g2⟩; omega)]
 have hlen : 0 = (BD τ e).length := by rw [hW]; rfl
 refine .add (AN 41 17) (.as (q := Ad 41 17 AG (BD τ e).length ((BD τ e).flatMap BF)) (p := Ad 41 17 AG 0 []) O (by rw [hW]; rfl) (.ptCast (b := b6) (l' := BF ((BH τ e).ws (AG))) O (by unfold BH Rp.ws; first | (rw [if_pos h43]; try rfl) | (rw [if_neg om]; try rfl)) ?_))
 refine .q (.la (BF ((BH τ e).ws (AG))) Y BB) Y (.sa Y Y Bg (by exact BL rfl rfl rfl) ?_)
 refine .nil (.pc b4 (BF ((BH τ e).ws (AG))) ?_)
 refine .then_n (.ret ?_)
 exact .d1 Y (.cellA Y BB O (by simp [DR, AW]) Y) ⟨AG, Y, ⟨_, _, congrArg (fun m => Value.slice _ m _) hlen⟩, Y⟩
section
variable {P : Program} {E : B0} {L : List HP} {ty : TypeId}
end
/- not in this seat -/
/- not in this seat -/
/- not in this seat -/
/- not in this seat -/
/- not in this seat -/
end Go.Proofs.YtmbnebafdhpgpaaGreatDoor
