/- Own work, some of it printed by program, texts that were built one by one: a part of the proof of leadFollowed.proved. -/
import Derived.Test.YtjhlofbhpjakgaaGreatCLFolP2
import Derived.Test.YtjhlofbhpjakgaaGreatCLFolP0
import Derived.Test.YtjhlofbhpjakgaaGreatCLFolP1
import Derived.Scope
import Derived.Shelf.Slices.CompactI
import Derived.Ground.Names2Prog
import Derived.Test.YtjhlofbhpjakgaaGreatProg
set_option maxRecDepth 100000
namespace Go.Proofs.YtjhlofbhpjakgaaGreat
open Go List Go.Proofs.Tryz 
theorem Ge (Λ : Lg) (e : Int) : (Λ.met e).acc = Λ.acc ∧ (Λ.met e).cur = Λ.cur ∧ A5 (Λ.met e) = A5 Λ := by
 unfold Lg.met
 split <;> exact ⟨rfl, rfl, rfl⟩
theorem TK (Λ : Lg) (s : Bs) (z : Int) : A5 (Λ.keep s z) = z := by
 unfold A5 Lg.keep
 simp
abbrev LO (s : Ld) (r : Ld × Int) : Prop := r.1.Λ.acc = s.Λ.acc ∧ r.1.Λ.cur = s.Λ.cur
theorem So (s : Ld) (e : En) : LO s (AK s e) ∧ ((AK s e).2 ≠ 0 → A5 (AK s e).1.Λ = A5 s.Λ) ∧ ((AK s e).2 = 0 → A5 (AK s e).1.Λ = e.zx ∧ A5 s.Λ < e.zx) := by
 unfold AK
 split
 ·exact ⟨⟨rfl, rfl⟩, fun _ => rfl, fun h => absurd (show (2 : Int) = 0 from h) dQ⟩
 split
 ·exact ⟨⟨rfl, rfl⟩, fun _ => rfl, fun h => absurd (show (1 : Int) = 0 from h) dQ⟩
 split
 ·exact ⟨⟨rfl, rfl⟩, fun _ => rfl, fun h => absurd (show (81 : Int) = 0 from h) dQ⟩
 split
 ·exact ⟨⟨rfl, rfl⟩, fun _ => rfl, fun h => absurd (show (83 : Int) = 0 from h) dQ⟩
 rename_i h1 h2 h3 h4
 have hm := Ge s.Λ (AM s.δ s.ω (Bd e)).2.2
 split
 ·exact ⟨⟨hm.1, hm.2.1⟩, fun h => absurd rfl h, fun _ => ⟨TK _ _ _, Int.not_le.1 h3⟩⟩
 ·rename_i h5
  exact ⟨⟨hm.1, hm.2.1⟩, fun _ => hm.2.2, fun h => absurd h h5⟩
theorem LU (s : Ld) : LO s (AO s) ∧ A5 (AO s).1.Λ = A5 s.Λ := by
 have hm := Ge s.Λ (Ay s.δ s.ω).2.2
 unfold AO
 split
 ·exact ⟨⟨rfl, rfl⟩, rfl⟩
 ·exact ⟨⟨hm.1, hm.2.1⟩, hm.2.2⟩
theorem YL (s : Ld) (z : Int) : LO s (CE s z) := by
 unfold CE
 split
 ·exact ⟨rfl, rfl⟩
 split
 ·exact ⟨rfl, rfl⟩
 ·rename_i n hn
  exact ⟨by rw [SB]; unfold R0; split; rfl; exact (Ge s.Λ _).1, by rw [SB]; unfold R0; split; rfl; exact (Ge s.Λ _).2.1⟩
theorem TM (s : Ld) (b : Int) (sn : Bs) (es : List Bs) (zs : List Int) : LO s (BG s b sn es zs) := by
 by_cases h : es.length > 200
 ·unfold BG; rw [if_pos h]; exact ⟨rfl, rfl⟩
 ·obtain ⟨δ, ω, Λ⟩ := s
  rw [XJ _ _ h]
  have hm := Ge Λ (A1 δ ω (Ae b sn ++ es)).2.2
  unfold R0
  split
  ·exact ⟨rfl, rfl⟩
  ·exact ⟨hm.1, hm.2.1⟩
theorem Qg (s : Ld) (z : Int) (sn : Bs) (l : List En) : LO s (Au s z sn l) := by
 unfold Au
 repeat' split
 all_goals first
  | exact ⟨rfl, rfl⟩
  | exact TM _ _ _ _ _
theorem LT : ∀ (l : List En) (s : Ld), LO s (BN l s)
 | [], s => (LU s).1
 | e :: l, s => by
  have h1 := (So s e).1
  unfold BN
  split
  ·exact h1
  ·have h2 := LT l (AK s e).1
   exact ⟨h2.1.trans h1.1, h2.2.trans h1.2⟩
theorem WW (s : Ld) (e : En) : ((BN [e] s).2 = 0 → A5 (BN [e] s).1.Λ = e.zx ∧ A5 s.Λ < e.zx) ∧ (A5 (BN [e] s).1.Λ = A5 s.Λ ∨ A5 (BN [e] s).1.Λ = e.zx) := by
 obtain ⟨-, h2, h3⟩ := So s e
 unfold BN
 split
 ·rename_i h; exact ⟨fun g => absurd g h, .inl (h2 h)⟩
 ·rename_i h
  have h0 : (AK s e).2 = 0 := by omega
  have hs := (LU (AK s e).1).2
  unfold BN
  rw [hs]
  exact ⟨fun _ => h3 h0, .inr (h3 h0).1⟩
theorem Qm (s : Ld) (n : Int) : s.Λ.acc ≤ (AR s n).1.Λ.acc ∧ (AR s n).1.Λ.cur = s.Λ.cur := by
 have hm := Ge s.Λ (Af s.δ s.ω n s.Λ.cur).2.2
 unfold AR
 split
 ·exact ⟨Int.le_refl _, rfl⟩
 split
 ·exact ⟨Int.le_refl _, rfl⟩
 split
 ·exact ⟨Int.le_refl _, rfl⟩
 rename_i h1 h2 h3
 split
 ·exact ⟨by show s.Λ.acc ≤ n; omega, hm.2.1⟩
 ·exact ⟨by show s.Λ.acc ≤ (s.Λ.met _).acc; rw [hm.1]; exact Int.le_refl _, hm.2.1⟩
theorem TI (s : Ld) (n : Int) : (AY s n).1.Λ.acc = s.Λ.acc ∧ ((AY s n).2 = 0 → (AY s n).1.Λ.cur = n) := by
 have hs := (LU s).1.1
 unfold AY
 split
 ·exact ⟨rfl, fun h => absurd (show (2 : Int) = 0 from h) dQ⟩
 split
 ·exact ⟨rfl, fun h => absurd (show (82 : Int) = 0 from h) dQ⟩
 split
 ·rename_i h; exact ⟨hs, fun g => absurd g h⟩
 rw [← hs]
 generalize (AO s).1 = t
 have hm := Ge t.Λ (Af t.δ t.ω t.Λ.acc n).2.2
 unfold BZ
 split
 ·exact ⟨hm.1, fun _ => rfl⟩
 ·rename_i h; exact ⟨hm.1, fun g => absurd g h⟩
theorem LA {p : HP} : ∀ (l : List En) (s : Ld) (N : Int), GU s N → (∀ e ∈ l, MU p e) → GU (BN l s).1 (N + 2000000 + l.length * 2000000)
 | [], s, N, h, _ => (LK h).more (by simp)
 | e :: l, s, N, h, hx => by
  have h1 := LL h (hx e (mem_cons_self ..)).l.w.i
  unfold BN
  split
  ·exact h1.more (by rw [length_cons]; omega)
  ·exact (LA l _ _ h1 fun e he => hx e (mem_cons_of_mem _ he)).more (by rw [length_cons]; omega)
theorem Qc {p : HP} {s : Ld} {N : Int} (h : GU s N) {m : Ms} (hm : Or p m) : GU (D2 s m).1 (N + 2500000000000) := by
 have hl := hm.len
 unfold D2
 split
 ·exact (P7 h hm.zx.2 _ fun e he => (hm.x e he).l.w.i).more om
 ·unfold Ea
  have hc := Sa h m.zx
  split
  ·exact hc.more om
  ·exact (LA (p := p) m.ents _ _ hc hm.x).more om
theorem Vs (s : Ld) (m : Ms) : LO s (D2 s m) := by
 unfold D2
 split
 ·exact Qg _ _ _ _
 ·unfold Ea
  have hc := YL s m.zx
  split
  ·exact hc
  ·have ht := LT m.ents (CE s m.zx).1
   exact ⟨ht.1.trans hc.1, ht.2.trans hc.2⟩
structure P0 (F : Fw) (s : Ld) (N : Int) (K : Nat) : Prop where
 l : GU s N
 i : FwI F K
 cur : F.ph = 2 ∨ F.ph = 3 → s.Λ.cur = F.ep
 up : F.ph = 3 → F.com ≤ A5 s.Λ
 zero : F.ph ≠ 3 → F.ph ≠ 4 → F.com = 0
theorem O2 {Λ : Lg} (h : Iq Λ) : 0 ≤ A5 Λ := by
 have hb := h.base.1
 unfold A5
 rcases hg : Λ.zxs.getLast? with _ | z
 ·exact hb
 ·have := h.rows.gt z (mem_of_getLast? hg)
  show 0 ≤ z
  omega
structure YV (F : Fw) (s : Ld) (r : Fz) (N : Int) (K : Nat) : Prop where
 k : P0 r.1 r.2.1 (N + 3000000000000) K
 com : F.com ≤ r.1.com
 acc : s.Λ.acc ≤ r.2.1.Λ.acc
theorem Ze {F : Fw} {t : Ld} {N : Int} {K : Nat} (hl : GU t N) (hh : F.heard.length ≤ K) : P0 F.lose t N K :=
 ⟨hl, ⟨.inl rfl, hh⟩, fun h => by rcases h with h | h <;> exact absurd (show (4 : Int) = _ from h) dQ, fun h => absurd (show (4 : Int) = _ from h) dQ, fun _ h => absurd rfl h⟩
theorem Gt {F : Fw} {s t : Ld} {N : Int} {K : Nat} (hl : GU t (N + 3000000000000)) (hh : F.heard.length ≤ K) (ha : s.Λ.acc ≤ t.Λ.acc) : YV F s (F.lose, t, none) N K := ⟨Ze hl hh, Int.le_refl _, ha⟩
theorem AAT {F : Fw} {s : Ld} {N : Int} {K : Nat} (hk : P0 F s N K) (h4 : 0 ≤ F.sil ∧ F.sil ≤ 7) (m : Ms) : YV F s (EY F s m) N K := by
 have hs := hk.l.more (M := N + 3000000000000) om
 have hl := (Lp hk.l m.ep).more (M := N + 3000000000000) om
 have ha := Qm s m.ep
 have hh := hk.i.heard
 have hgo : F.ph ≤ 1 → ∀ (t : Ld), GU t (N + 3000000000000) → P0 (F.go 1 m.ep) t (N + 3000000000000) K := fun hp t ht => ⟨ht, ⟨.inr h4, hh⟩, fun h => by rcases h with h | h <;> exact absurd (show (1 : Int) = _ from h) dQ, fun h => absurd (show (1 : Int) = _ from h) dQ, fun _ _ => hk.zero om om⟩
 unfold EY
 split
 ·exact Gt hs hh (Int.le_refl _)
 rename_i g0
 have hgo := hgo om
 split
 ·split
  ·exact Gt hl hh ha.1
  ·exact ⟨hgo _ hl, Int.le_refl _, ha.1⟩
 ·exact ⟨hgo _ hs, Int.le_refl _, Int.le_refl _⟩
theorem AAU {p : HP} {F : Fw} {s : Ld} {N : Int} {K : Nat} (hk : P0 F s N K) (h4 : 0 ≤ F.sil ∧ F.sil ≤ 7) {m : Ms} (hm : Or p m) : YV F s (FZ F s m) N K := by
 have hs := hk.l.more (M := N + 3000000000000) om
 have h1 := Qc hk.l hm
 have h2 := (UU h1 F.ep).more (M := N + 3000000000000) om
 have ha := Vs s m
 have hb := TI (D2 s m).1 F.ep
 have hh := hk.i.heard
 unfold FZ
 split
 ·exact Gt hs hh (Int.le_refl _)
 rename_i g0
 unfold Gz
 split
 ·exact Gt (h1.more om) hh (by rw [ha.1]; exact Int.le_refl _)
 split
 ·exact Gt h2 hh (by rw [hb.1, ha.1]; exact Int.le_refl _)
 ·rename_i g
  refine ⟨⟨h2, ⟨.inr h4, hh⟩, fun _ => hb.2 om, fun h => absurd (show (2 : Int) = _ from h) dQ, fun _ _ => hk.zero om om⟩, Int.le_refl _, ?_⟩
  show s.Λ.acc ≤ (AY (D2 s m).1 F.ep).1.Λ.acc
  rw [hb.1, ha.1]; exact Int.le_refl _
theorem Sl {l : List En} (h : ¬ l.length ≠ 1) : ∃ e, l = [e] := by
 match l, h with
 | [e], _ => exact ⟨e, rfl⟩
 | [], h => exact absurd dQ h
 | _ :: _ :: _, h => exact absurd (by simp) h
theorem Yr {p : HP} {F : Fw} {s : Ld} {N : Int} {K : Nat} (hk : P0 F s N K) {m : Ms} (hm : Or p m) : YV F s (DZ F s m) N K ∧ (A5 (DZ F s m).2.1.Λ ≠ A5 s.Λ → (A5 (DZ F s m).2.1.Λ).tdiv 4294967296 = (DZ F s m).2.1.Λ.cur) := by
 have hs := hk.l.more (M := N + 3000000000000) om
 have hlen := hm.len
 have h1 := (LA m.ents _ _ hk.l hm.x).more (M := N + 3000000000000) om
 have ha := LT m.ents s
 have hh := hk.i.heard
 unfold DZ
 split
 ·exact ⟨Gt hs hh (Int.le_refl _), fun h => absurd rfl h⟩
 rename_i g
 obtain ⟨e, he⟩ := Sl (fun h => g (.inr (.inl h)))
 have hph : F.ph = 2 ∨ F.ph = 3 := by
  rcases Decidable.em (F.ph = 2 ∨ F.ph = 3) with h | h
  ·exact h
  ·exact absurd (.inl h) g
 have hep : (FY m.ents).tdiv 4294967296 = F.ep := by
  rcases Decidable.em ((FY m.ents).tdiv 4294967296 = F.ep) with h | h
  ·exact h
  ·exact absurd (.inr (.inr h)) g
 have hcur := hk.cur hph
 rw [he] at hep h1 ha ⊢
 obtain ⟨q1, q2⟩ := WW s e
 have hz : FY [e] = e.zx := rfl
 rw [hz] at hep
 have hpro : A5 (BN [e] s).1.Λ ≠ A5 s.Λ → (A5 (BN [e] s).1.Λ).tdiv 4294967296 = (BN [e] s).1.Λ.cur := fun h => by
  rw [ha.2, hcur]
  rcases q2 with q2 | q2
  ·exact absurd q2 h
  ·rw [q2]; exact hep
 split
 ·exact ⟨Gt h1 hh (by rw [ha.1]; exact Int.le_refl _), hpro⟩
 ·rename_i g2
  have h0 : (BN [e] s).2 = 0 := by omega
  refine ⟨⟨⟨h1, hk.i, fun h => by rw [ha.2]; exact hcur, fun h => ?_, hk.zero⟩, Int.le_refl _, ?_⟩, hpro⟩
  ·have := hk.up h
   have := q1 h0
   show F.com ≤ A5 (BN [e] s).1.Λ
   omega
  ·show s.Λ.acc ≤ (BN [e] s).1.Λ.acc
   rw [ha.1]; exact Int.le_refl _
theorem Zw {F : Fw} {s : Ld} {N : Int} {K : Nat} (hk : P0 F s N K) (h4 : 0 ≤ F.sil ∧ F.sil ≤ 7) (m : Ms) : YV F s (EQ F s m) N K := by
 have hs := hk.l.more (M := N + 3000000000000) om
 unfold EQ
 split
 ·exact ⟨⟨hs, hk.i, hk.cur, hk.up, hk.zero⟩, Int.le_refl _, Int.le_refl _⟩
 unfold Dw
 split
 ·rename_i g1 g2
  refine ⟨⟨hs, ⟨.inr h4, Nat.zero_le _⟩, hk.cur, fun h => ?_, fun h => absurd g2.1 h⟩, ?_, Int.le_refl _⟩
  ·have := hk.up h
   show max F.com m.zx ≤ A5 s.Λ
   omega
  ·show F.com ≤ max F.com m.zx
   omega
 ·exact ⟨⟨hs, ⟨.inr h4, Nat.zero_le _⟩, hk.cur, hk.up, hk.zero⟩, Int.le_refl _, Int.le_refl _⟩
theorem Yn {F : Fw} {s : Ld} {N : Int} {K : Nat} (hk : P0 F s N K) (h4 : 0 ≤ F.sil ∧ F.sil ≤ 7) (m : Ms) : YV F s (Ff F s m) N K := by
 have hs := hk.l.more (M := N + 3000000000000) om
 unfold Ff
 split
 ·exact Gt hs hk.i.heard (Int.le_refl _)
 ·rename_i g
  have hph : F.ph = 3 := by omega
  refine ⟨⟨hs, ⟨.inr h4, hk.i.heard⟩, hk.cur, fun h => ?_, fun h => absurd hph h⟩, ?_, Int.le_refl _⟩
  ·have := hk.up hph
   show max F.com m.zx ≤ A5 s.Λ
   omega
  ·show F.com ≤ max F.com m.zx
   omega
theorem AAo {F : Fw} {s : Ld} {N : Int} {K : Nat} (hk : P0 F s N K) (h4 : 0 ≤ F.sil ∧ F.sil ≤ 7) (m : Ms) : YV F s (RP F s m) N K := by
 have hs := hk.l.more (M := N + 3000000000000) om
 unfold RP
 split
 ·exact Gt hs hk.i.heard (Int.le_refl _)
 ·rename_i g
  have hph : F.ph = 2 := by omega
  have hc := hk.zero om om
  have hl := O2 hk.l.w
  have hk' : P0 (F.toPh 3) s N K := ⟨hk.l, ⟨.inr h4, hk.i.heard⟩, fun _ => hk.cur (.inl hph), fun _ => by show F.com ≤ A5 s.Λ; omega, fun h => absurd rfl h⟩
  have := Yn hk' h4 m
  exact ⟨this.k, this.com, this.acc⟩
theorem Z2 {F : Fw} {s : Ld} {N : Int} {K : Nat} (hk : P0 F s N K) {z : Int} (hz : 0 ≤ z ∧ z ≤ 7) : P0 (F.hush z) s N K := ⟨hk.l, ⟨.inr hz, hk.i.heard⟩, hk.cur, hk.up, hk.zero⟩
theorem Xp {p : HP} {F : Fw} {s : Ld} {N : Int} {K : Nat} (hk : P0 F s N K) (h4 : 0 ≤ F.sil ∧ F.sil ≤ 7) {m : Ms} (hm : Or p m) : YV F s (BL F s m) N K ∧ (m.kind = 7 → A5 (BL F s m).2.1.Λ ≠ A5 s.Λ → (A5 (BL F s m).2.1.Λ).tdiv 4294967296 = (BL F s m).2.1.Λ.cur) := by
 have hs := hk.l.more (M := N + 3000000000000) om
 unfold BL
 split
 ·exact ⟨AAT hk h4 m, fun h => by omega⟩
 split
 ·exact ⟨AAU hk h4 hm, fun h => by omega⟩
 split
 ·exact ⟨(Yr hk hm).1, fun _ => (Yr hk hm).2⟩
 split
 ·exact ⟨Zw hk h4 m, fun h => by omega⟩
 split
 ·exact ⟨AAo hk h4 m, fun h => by omega⟩
 split
 ·exact ⟨Yn hk h4 m, fun h => by omega⟩
 ·exact ⟨⟨⟨hs, hk.i, hk.cur, hk.up, hk.zero⟩, Int.le_refl _, Int.le_refl _⟩, fun _ h => absurd rfl h⟩
theorem U2 {p : HP} {F : Fw} {s : Ld} {N : Int} {K : Nat} (hk : P0 F s N K) {m : Ms} (hm : Or p m) : YV F s (AX F s m) N K ∧ (m.kind = 7 → A5 (AX F s m).2.1.Λ ≠ A5 s.Λ → (A5 (AX F s m).2.1.Λ).tdiv 4294967296 = (AX F s m).2.1.Λ.cur) := by
 have hs := hk.l.more (M := N + 3000000000000) om
 unfold AX
 split
 ·exact ⟨⟨⟨hs, hk.i, hk.cur, hk.up, hk.zero⟩, Int.le_refl _, Int.le_refl _⟩, fun _ h => absurd rfl h⟩
 ·have := Xp (Z2 hk (z := 0) om) (by show 0 ≤ (0 : Int) ∧ (0 : Int) ≤ 7; omega) hm
  exact ⟨⟨this.1.k, this.1.com, this.1.acc⟩, this.2⟩
/-! ### An entry within limits, however its lists lie -/
structure Vv (e : En) : Prop where
 i : Wj e
 fit : C7 e = true
 len : (Bd e).length ≤ 4000
 nos : e.subs = []
theorem Nr {e q : En} (h : q.pl = e.pl) : Bd q = Bd e := by rw [← OM, h, OM]
theorem Vv.of {e q : En} (h : Vv e) (hp : q.pl = e.pl) : Vv q := by
 have h1 : q.zx = e.zx := by have := congrArg En.zx hp; exact this
 have h2 : q.ses = e.ses := by have := congrArg En.ses hp; exact this
 have h3 : q.xid = e.xid := by have := congrArg En.xid hp; exact this
 have hx : q.x.pl = e.x.pl := by have := congrArg En.x hp; exact this
 have h4 : q.subs.map Pt.pl = e.subs.map Pt.pl := by have := congrArg En.subs hp; exact this
 have hn : q.subs = [] := by rw [h.nos] at h4; simpa using h4
 have e1 : q.x.kind = e.x.kind := by have := congrArg Pt.kind hx; exact this
 have e2 : q.x.own = e.x.own := by have := congrArg Pt.own hx; exact this
 have e3 : q.x.num = e.x.num := by have := congrArg Pt.num hx; exact this
 have e4 : q.x.err = e.x.err := by have := congrArg Pt.err hx; exact this
 have e5 : q.x.path = e.x.path := by have := congrArg Pt.path hx; exact this
 have e6 : q.x.data = e.x.data := by have := congrArg Pt.data hx; exact this
 have e7 : q.x.acl = e.x.acl := by have := congrArg Pt.acl hx; exact this
 refine ⟨⟨h1 ▸ h.i.zx, h2 ▸ h.i.ses, h3 ▸ h.i.xid, ⟨e1 ▸ h.i.x.kind, e2 ▸ h.i.x.own, e3 ▸ h.i.x.num, e4 ▸ h.i.x.err, e5 ▸ h.i.x.path, e6 ▸ h.i.x.data, e7 ▸ h.i.x.many, e7 ▸ h.i.x.acl⟩, by rw [hn]; decide, fun y hy => by rw [hn] at hy; cases hy⟩, ?_, by rw [Nr hp]; exact h.len, hn⟩
 have hf := h.fit
 unfold C7 Oa at hf ⊢
 rw [hn, Nr hp]
 rw [h.nos] at hf
 exact hf
theorem Vv.got {e : En} (h : Vv e) : ET (Bd e) = some e.pl := LW h.fit h.i
/-! ### A history; a ledger that has it -/
structure Hz (H : List En) : Prop where
 zx : ∀ j (h : j < H.length), H[j].zx = zt (j + 1)
 ok : ∀ e ∈ H, Vv e
 few : H.length ≤ 200
 room : (AB (Ae 0 [] ++ H.map Bd)).length ≤ 64 * 255
theorem Hz.take {H : List En} (h : Hz H) (k : Nat) : Hz (H.take k) := by
 refine ⟨fun j hj => ?_, fun e he => h.ok e (mem_of_mem_take he), by rw [length_take]; have := h.few; omega, ?_⟩
 ·rw [getElem_take]
  exact h.zx j (by rw [length_take] at hj; omega)
 ·have e1 : Ae 0 [] ++ (H.take k).map Bd = (Ae 0 [] ++ H.map Bd).take ((Ae 0 []).length + k) := by
   rw [take_append, take_of_length_le (show (Ae 0 []).length ≤ (Ae 0 []).length + k by omega), map_take, show (Ae 0 []).length + k - (Ae 0 []).length = k by omega]
  rw [e1]
  exact Nat.le_trans (DX _ _) h.room
def BO (H : List En) (a c : Int) : Lg := ⟨a, c, 0, [], H.map Bd, H.map (·.zx), false⟩
theorem D4 {H : List En} (h : Hz H) (a c : Int) : A5 (BO H a c) = zt H.length := by
 unfold A5 BO
 dsimp only
 rcases Nat.eq_zero_or_pos H.length with e | e
 ·rw [eq_nil_of_length_eq_zero e]; rfl
 ·rw [List.getLast?_eq_getElem?, length_map, List.getElem?_map, List.getElem?_eq_getElem om]
  show (H[H.length - 1]'om).zx = _
  rw [h.zx]; congr 1; omega
structure Em (s : Ld) (H : List En) (a c N C : Int) : Prop where
 w : EO s N
 Λ : s.Λ = BO H a c
 len : s.δ.now.length = 512
 cnt : s.ω.count ≤ C
theorem Em.more {s : Ld} {H : List En} {a c N C M D : Int} (h : Em s H a c N C) (hN : N ≤ M) (hC : C ≤ D) : Em s H a c M D := ⟨h.w.more hN, h.Λ, h.len, by have := h.cnt; omega⟩
theorem Em.half {s : Ld} {H : List En} {a c N C : Int} (h : Em s H a c N C) : Ag s.δ = 255 := by unfold Ag; rw [h.len]; rfl
theorem KZ (r : Dk × Wl × Int) : (IQ r).2.1.count = r.2.1.count := by unfold IQ; split <;> rfl
theorem QR (δ : Dk) (ω : Wl) (ar : Int) (l : List Bs) : (Ax δ ω ar l).2.1.count ≤ ω.count + 1 := by
 unfold Ax
 repeat' split
 all_goals (dsimp only; omega)
theorem Qx (δ : Dk) (ω : Wl) (s : Bs) : (AM δ ω s).2.1.count ≤ ω.count + 1 := by
 unfold AM
 repeat' split
 all_goals first | (rw [KZ]; dsimp only; omega) | (dsimp only; omega)
theorem Ux (δ : Dk) (ω : Wl) : (Ay δ ω).2.1.count ≤ ω.count + 1 := by
 unfold Ay
 repeat' split
 all_goals first | (rw [KZ]; exact QR _ _ _ _) | (dsimp only; omega)
theorem XM (δ : Dk) (ω : Wl) (n : Int) : (CK δ ω n).2.1.count ≤ ω.count + 1 := by
 unfold CK
 repeat' split
 all_goals first | (rw [KZ]; exact QR _ _ _ _) | (dsimp only; omega)
theorem P2 (δ : Dk) (ω : Wl) (a b : Int) : (Af δ ω a b).2.1.count ≤ ω.count + 1 := by
 unfold Af
 repeat' split
 all_goals first | (rw [KZ]; dsimp only; omega) | (dsimp only; omega)
theorem Wh {δ : Dk} {ω : Wl} {N : Int} (h : Dh δ ω N) (hc : ω.count ≠ 4294967295) : (Ay δ ω).2.2 = 0 := by
 unfold Ay
 rw [if_neg (by rw [h.doubt]; decide)]
 by_cases hs : ω.synced = ω.recs.length
 ·rw [if_pos hs]
 ·rw [if_neg hs, if_neg hc]
  obtain ⟨e, -, -⟩ := FJ h hc h.area h.fits h.al rfl (by have := h.acts; omega)
  rw [e]
theorem PX {δ : Dk} {ω : Wl} {N : Int} (h : Dh δ ω N) (hc : ω.count ≠ 4294967295) {a b : Int} (ha : 0 ≤ a) (hb : 0 ≤ b) : (Af δ ω a b).2.2 = 0 := by
 unfold Af
 rw [if_neg (by rw [h.doubt]; decide), if_neg om, if_neg hc]
 obtain ⟨n1, -, -⟩ := Ko h.al h.size.1 (ω.mark ω.area (ω.recs.take ω.synced.toNat) a b)
 rw [if_neg (by rw [n1]; exact fun g => g rfl)]
theorem YH {δ : Dk} {ω : Wl} {N : Int} (h : Dh δ ω N) (hc : ω.count ≠ 4294967295) {n : Nat} (hn : n ≤ ω.recs.length) : (CK δ ω n).2.2 = 0 := by
 unfold CK
 rw [if_neg (by rw [h.doubt]; decide), if_neg om, if_neg hc]
 have hf := DX ω.recs n
 have := h.fits
 rw [Int.toNat_natCast]
 obtain ⟨e, -, -⟩ := FJ h hc h.area (l := ω.recs.take n) om h.al rfl (by have := h.acts; omega)
 rw [e]
theorem Ev {s : Ld} {H : List En} {a c N C : Int} (h : Em s H a c N C) (hC : C < 4294967295) : (AO s).2 = 0 ∧ Em (AO s).1 H a c (N + 2000000) (C + 1) := by
 obtain ⟨k1, k2, k3, -, -⟩ := SO h.w
 have hc := h.cnt
 refine ⟨?_, k1, by rw [k3]; exact h.Λ, by rw [k2]; exact h.len, ?_⟩
 ·unfold AO
  rw [if_neg (by rw [h.w.live]; decide)]
  show CU (Ay s.δ s.ω).2.2 = 0
  rw [Wh h.w.well om]; rfl
 ·have := Ux s.δ s.ω
  unfold AO
  split
  ·dsimp only; omega
  ·show (Ay s.δ s.ω).2.1.count ≤ _; omega
theorem FO {s : Ld} {H : List En} {a c N C n : Int} (h : Em s H a c N C) (hC : C < 4294967295) (hn : a < n ∧ n ≤ 1073741824) : (AR s n).2 = 0 ∧ Em (AR s n).1 H n c (N + 4000000) (C + 1) := by
 have he := h.w.w.eps
 have hΛ := h.Λ
 have hacc : s.Λ.acc = a := by rw [hΛ]; rfl
 have hcur : s.Λ.cur = c := by rw [hΛ]; rfl
 have hc := h.cnt
 have hk := (TR h.w n).1
 have h0 := PX h.w.well om (a := n) (b := s.Λ.cur) om he.1
 have hm : Ce s.Λ (Af s.δ s.ω n s.Λ.cur) = (⟨(Af s.δ s.ω n s.Λ.cur).1, (Af s.δ s.ω n s.Λ.cur).2.1, s.Λ⟩, 0) := by
  unfold Ce
  rw [h0]; rfl
 have e : AR s n = (⟨(Af s.δ s.ω n s.Λ.cur).1, (Af s.δ s.ω n s.Λ.cur).2.1, s.Λ.setAcc n⟩, 0) := by
  unfold AR
  rw [if_neg (by rw [h.w.live]; decide), if_neg om, if_neg om, hm, if_pos rfl]
 rw [e] at hk ⊢
 refine ⟨rfl, hk.well, ?_, hk.len.trans h.len, ?_⟩
 ·show s.Λ.setAcc n = _
  rw [hΛ]; rfl
 ·have := P2 s.δ s.ω n s.Λ.cur
  show (Af s.δ s.ω n s.Λ.cur).2.1.count ≤ _
  omega
theorem GV {s : Ld} {H : List En} {a c N C n : Int} (h : Em s H a c N C) (hC : C + 1 < 4294967295) (hn : c ≤ n ∧ n ≤ a) : (AY s n).2 = 0 ∧ Em (AY s n).1 H a n (N + 4000000) (C + 2) := by
 have he := h.w.w.eps
 have hΛ := h.Λ
 have hacc : s.Λ.acc = a := by rw [hΛ]; rfl
 have hcur : s.Λ.cur = c := by rw [hΛ]; rfl
 obtain ⟨y1, y2⟩ := Ev h om
 obtain ⟨hk, -, -, hq⟩ := Wb h.w n
 have e : AY s n = BZ (AO s).1 n := by
  unfold AY
  rw [if_neg (by rw [h.w.live]; decide), if_neg om, if_neg (fun g => g y1)]
 have hacc2 : (AO s).1.Λ.acc = a := by rw [y2.Λ]; rfl
 have hcc := y2.cnt
 have h0 := PX y2.w.well om (a := (AO s).1.Λ.acc) (b := n) om om
 have hm : Ce (AO s).1.Λ (Af (AO s).1.δ (AO s).1.ω (AO s).1.Λ.acc n) = (⟨(Af (AO s).1.δ (AO s).1.ω (AO s).1.Λ.acc n).1, (Af (AO s).1.δ (AO s).1.ω (AO s).1.Λ.acc n).2.1, (AO s).1.Λ⟩, 0) := by
  unfold Ce
  rw [h0]; rfl
 have e2 : BZ (AO s).1 n = (⟨(Af (AO s).1.δ (AO s).1.ω (AO s).1.Λ.acc n).1, (Af (AO s).1.δ (AO s).1.ω (AO s).1.Λ.acc n).2.1, (AO s).1.Λ.setCur n⟩, 0) := by
  unfold BZ
  rw [hm, if_pos rfl]
 have h00 : (AY s n).2 = 0 := by rw [e, e2]
 refine ⟨h00, hk.well, ?_, hk.len.trans h.len, ?_⟩
 ·rw [hq h00, hΛ]; rfl
 ·have := P2 (AO s).1.δ (AO s).1.ω (AO s).1.Λ.acc n
  rw [e, e2]
  show (Af (AO s).1.δ (AO s).1.ω (AO s).1.Λ.acc n).2.1.count ≤ _
  omega
theorem M4 (H : List En) (e : En) (a c : Int) : (BO H a c).keep (Bd e) e.zx = BO (H ++ [e]) a c := by
 unfold Lg.keep BO
 simp
theorem YK {H K : List En} (h : H.map En.pl = K.map En.pl) (a c : Int) : BO H a c = BO K a c := by
 have e1 : ∀ l : List En, l.map Bd = (l.map En.pl).map Bd := fun l => by rw [map_map]; exact map_congr_left fun x _ => (OM x).symm
 have e2 : ∀ l : List En, l.map (·.zx) = (l.map En.pl).map (·.zx) := fun l => by rw [map_map]; rfl
 unfold BO
 rw [e1, e2, h, ← e1, ← e2]
theorem Id {s : Ld} {H : List En} {a c N C : Int} (h : Em s H a c N C) (hH : Hz H) {e : En} (he : Vv e) (hz : e.zx = zt (H.length + 1)) : ((AK s e).2 = 0 ∧ Em (AK s e).1 (H ++ [e]) a c (N + 2000000) (C + 1) ∧ Hz (H ++ [e])) ∨ ((AK s e).2 = 83 ∧ (AK s e).1 = s ∧ ¬ (H.length < 200 ∧ (AB (Ae 0 [] ++ (H ++ [e]).map Bd)).length ≤ 64 * 255)) := by
 obtain ⟨w1, w2, w3⟩ := TW h.w he.i
 have hr := h.w.recs
 have hΛ := h.Λ
 have hlast : A5 s.Λ = zt H.length := by rw [hΛ]; exact D4 hH a c
 have hlt : zt H.length < zt (H.length + 1) := IB (Nat.lt_succ_self H.length)
 have hlen : s.Λ.ents.length = H.length := by rw [hΛ]; exact length_map _
 have hhalf := h.half
 have hrecs : s.ω.recs = Ae 0 [] ++ H.map Bd := by rw [hr, hΛ]; rfl
 have hroom : (AB (Ae 0 [] ++ (H ++ [e]).map Bd)).length = (AB s.ω.recs).length + (Bd e).length + 6 := by
  rw [map_append, ← append_assoc, ← hrecs, CV, length_append, map_singleton, show AB [Bd e] = BI (Bd e) by simp [AB], B9]; omega
 have he4 := he.len
 have hcnt : (AK s e).1.ω.count ≤ C + 1 := by
  have h1 := Qx s.δ s.ω (Bd e)
  have h2 := h.cnt
  unfold AK
  repeat' split
  all_goals first | (dsimp only; omega) | (show (AM s.δ s.ω (Bd e)).2.1.count ≤ _; omega)
 rcases w3 with ⟨g1, g2, g3, g4, g5, g6⟩ | ⟨g1, g2⟩
 ·refine .inl ⟨g1, ⟨w1, ?_, w2.trans h.len, hcnt⟩, ?_⟩
  ·rw [g2, hΛ]; exact M4 H e a c
  ·have hf := w1.well.fits
   have hh : Ag (AK s e).1.δ = 255 := by unfold Ag; rw [w2, h.len]; rfl
   rw [hh, w1.recs, g2, hΛ] at hf
   refine ⟨fun j hj => ?_, fun x hx => ?_, by rw [length_append, length_singleton]; omega, ?_⟩
   ·rw [length_append, length_singleton] at hj
    by_cases g : j < H.length
    ·rw [getElem_append_left g]; exact hH.zx j g
    ·have e1 : j = H.length := by omega
     subst e1
     rw [getElem_append_right (Nat.le_refl _)]
     simp only [Nat.sub_self, getElem_cons_zero]
     exact hz
   ·rcases mem_append.1 hx with hx | hx
    ·exact hH.ok x hx
    ·rw [mem_singleton] at hx; rw [hx]; exact he
   ·have e2 : Ae 0 [] ++ (H ++ [e]).map Bd = Ae ((BO H a c).keep (Bd e) e.zx).base ((BO H a c).keep (Bd e) e.zx).snap ++ ((BO H a c).keep (Bd e) e.zx).ents := by rw [M4]; rfl
    rw [e2]; omega
 ·have key : (AK s e).2 = 83 ∧ ¬ (H.length < 200 ∧ (AB (Ae 0 [] ++ (H ++ [e]).map Bd)).length ≤ 64 * 255) := by
   revert g1
   unfold AK
   rw [if_neg (by rw [h.w.live]; decide), if_neg (by rw [he.fit]; decide), if_neg (by rw [hlast, hz]; omega)]
   split
   ·rename_i g
    intro _
    refine ⟨rfl, fun g7 => ?_⟩
    rcases g with g | g
    ·omega
    ·have hrl := W2 h.w.well
     unfold G2 at g
     rw [hhalf] at g
     omega
   ·rename_i g
    rcases (Ed h.w.well (Bd e)).2.2 with ⟨-, -, q⟩ | ⟨q, -⟩ | ⟨-, q, q2⟩
    ·obtain ⟨⟨δ1, q1⟩, hq⟩ : ∃ r, AM s.δ s.ω (Bd e) = r := ⟨_, rfl⟩
     rw [hq] at q ⊢; dsimp only at q; subst q
     rw [if_pos (by show CU 0 = 0; decide)]
     intro g1; exact absurd rfl g1
    ·omega
    ·rw [q2, if_neg (by show ¬ CU 30 = 0; decide)]
     intro _
     refine ⟨by show CU 30 = 83; decide, fun g7 => ?_⟩
     rw [hhalf] at q
     omega
  exact .inr ⟨key.1, g2, key.2⟩
theorem RZ {H : List En} (h : Hz H) {a c : Int} {j : Nat} (hj : j ≤ H.length) : E4 (BO H a c) (zt j) = some j := by
 unfold E4
 have hmem : ∀ k, (hk : k < H.length) → (H.map (·.zx))[k]'(by rw [length_map]; exact hk) = zt (k + 1) := fun k hk => by rw [getElem_map]; exact h.zx k hk
 cases j with
 | zero =>
  have hn : ¬ zt 0 ∈ (BO H a c).zxs := fun hm => by
   obtain ⟨k, hk, e⟩ := mem_iff_getElem.1 (show zt 0 ∈ H.map (·.zx) from hm)
   rw [length_map] at hk
   rw [hmem k hk] at e
   have : zt 0 < zt (k + 1) := IB (Nat.succ_pos k)
   omega
  rw [if_neg hn, if_pos (show zt 0 = (BO H a c).base from rfl)]
 | succ j =>
  have hm : zt (j + 1) ∈ H.map (·.zx) := mem_iff_getElem.2 ⟨j, by rw [length_map]; omega, hmem j om⟩
  rw [if_pos (show zt (j + 1) ∈ (BO H a c).zxs from hm)]
  have hlt : (H.map (·.zx)).idxOf (zt (j + 1)) < (H.map (·.zx)).length := idxOf_lt_length_of_mem hm
  have hg : (H.map (·.zx))[(H.map (·.zx)).idxOf (zt (j + 1))]'hlt = zt (j + 1) := getElem_idxOf hlt
  have hlt2 := hlt
  rw [length_map] at hlt2
  rw [hmem _ hlt2] at hg
  have : (H.map (·.zx)).idxOf (zt (j + 1)) = j := by
   rcases Nat.lt_trichotomy ((H.map (·.zx)).idxOf (zt (j + 1))) j with g | g | g
   ·have := IB (show (H.map (·.zx)).idxOf (zt (j + 1)) + 1 < j + 1 by omega); omega
   ·exact g
   ·have := IB (show j + 1 < (H.map (·.zx)).idxOf (zt (j + 1)) + 1 by omega); omega
  show some ((H.map (·.zx)).idxOf (zt (j + 1)) + 1) = _
  rw [this]
theorem YB {s : Ld} {H : List En} {a c N C : Int} (h : Em s H a c N C) (hH : Hz H) (hC : C < 4294967295) {j : Nat} (hj : j ≤ H.length) : (CE s (zt j)).2 = 0 ∧ Em (CE s (zt j)).1 (H.take j) a c (N + 4000000) (C + 1) := by
 have hΛ := h.Λ
 have hc := h.cnt
 have e : CE s (zt j) = DE s j := by
  unfold CE
  rw [if_neg (by rw [h.w.live]; decide), hΛ, RZ hH hj]
 have hlen : s.Λ.ents.length = H.length := by rw [hΛ]; exact length_map _
 obtain ⟨hk, hq⟩ := Xg h.w (n := j) om
 have h0 := YH h.w.well om (n := (Ae s.Λ.base s.Λ.snap).length + j) (by rw [h.w.recs, length_append]; omega)
 have h00 : (DE s j).2 = 0 := by
  unfold DE
  rw [if_pos (by show CU _ = 0; rw [h0]; rfl)]
 rw [e]
 refine ⟨h00, hk.well, ?_, hk.len.trans h.len, ?_⟩
 ·rw [(hq h00).1, hΛ]
  unfold BO
  simp [map_take]
 ·have := XM s.δ s.ω (((Ae s.Λ.base s.Λ.snap).length + j : Nat) : Int)
  unfold DE
  split
  ·show (CK s.δ s.ω _).2.1.count ≤ _; omega
  ·show (CK s.δ s.ω _).2.1.count ≤ _; omega
theorem K1 {a c : Int} {H : List En} (hH : Hz H) : ∀ (l : List En) (s : Ld) (k : Nat) (N C : Int), Em s (H.take k) a c N C → C + l.length < 4294967295 → k + l.length = H.length → l.map En.pl = (H.drop k).map En.pl → (BN l s).2 = 0 ∧ Em (BN l s).1 H a c (N + 2000000 * (l.length + 1)) (C + l.length + 1)
 | [], s, k, N, C, h, hC, hk, hl => by
  simp only [length_nil] at hC hk ⊢
  rw [take_of_length_le om] at h
  obtain ⟨y1, y2⟩ := Ev h (by simpa using hC)
  exact ⟨y1, y2.more (by simp) (by simp)⟩
 | e :: l, s, k, N, C, h, hC, hk, hl => by
  rw [length_cons] at hC hk
  have hkl : k < H.length := by omega
  rw [drop_eq_getElem_cons hkl, map_cons, map_cons] at hl
  injection hl with hp hl
  have heO := hH.ok _ (getElem_mem hkl)
  have heO2 := heO.of hp
  have hzx : e.zx = zt (k + 1) := (show e.zx = H[k].zx from by have := congrArg En.zx hp; exact this).trans (hH.zx k hkl)
  have htl : (H.take k).length = k := by rw [length_take]; omega
  have hnext := hH.take (k + 1)
  rw [take_succ_eq_append_getElem hkl] at hnext
  rcases Id h (hH.take k) heO2 (by rw [htl]; exact hzx) with ⟨g1, g2, -⟩ | ⟨-, -, g3⟩
  ·unfold BN
   rw [if_neg (fun g => g g1)]
   have hΛ : Em (AK s e).1 (H.take (k + 1)) a c (N + 2000000) (C + 1) := by
    refine ⟨g2.w, ?_, g2.len, g2.cnt⟩
    rw [g2.Λ]
    refine YK ?_ a c
    rw [take_succ_eq_append_getElem hkl, map_append, map_append, map_singleton, map_singleton, hp]
   obtain ⟨y1, y2⟩ := K1 hH l _ (k + 1) _ _ hΛ om om hl
   exact ⟨y1, y2.more (by rw [length_cons]; omega) (by rw [length_cons]; omega)⟩
  ·exfalso
   refine g3 ⟨by rw [htl]; have := hH.few; omega, ?_⟩
   have := hnext.room
   rw [map_append, map_singleton, ← Nr hp] at this
   rw [map_append, map_singleton]
   exact this
/-! ### A pool that grows -/
def CI (q q2 : HP) : Prop := ∀ h : Hp, q2 h → ∃ h1, (∀ b o, h1 b = some o → h b = some o) ∧ q h1
theorem CI.rfl (q : HP) : CI q q := fun h hp => ⟨h, fun _ _ e => e, hp⟩
theorem CI.trans {a b c : HP} (h : CI a b) (g : CI b c) : CI a c := fun w hw => by
 obtain ⟨h1, e1, p1⟩ := g w hw
 obtain ⟨h2, e2, p2⟩ := h h1 p1
 exact ⟨h2, fun b o e => e1 b o (e2 b o e), p2⟩
theorem CI.more (L : List HP) (q : HP) : CI q (CG (L ++ [q])) := fun w hw => by
 induction L generalizing w with
 | nil => exact AZ hw
 | cons a L ih =>
  obtain ⟨h1, h2, _, a1, a2, _, h3⟩ := hw
  obtain ⟨h4, e4, p4⟩ := ih h2 h3
  exact ⟨h4, fun b o e => a2 b o (e4 b o e), p4⟩
theorem CI.rd {q q2 : HP} (g : CI q q2) {sz n : Nat} {v : Value} {xs : List Value} (ha : ∀ h : Hp, q h → B5 sz h v n xs) : ∀ h : Hp, q2 h → B5 sz h v n xs := fun w hw => by
 obtain ⟨h1, e1, p1⟩ := g w hw
 exact Bm (ha h1 p1) e1
theorem MU.grow {q q2 : HP} {e : En} (h : MU q e) (g : CI q q2) : MU q2 e :=
 ⟨⟨⟨h.l.w.i, g.rd h.l.w.acl, g.rd h.l.w.subs, fun y hy => g.rd (h.l.w.each y hy)⟩, h.l.len, h.l.few, h.l.cx, h.l.cs⟩, h.sub⟩
theorem Or.grow {q q2 : HP} {m : Ms} (h : Or q m) (g : CI q q2) : Or q2 m :=
 ⟨h.kind, h.ep, h.zx, h.nu, h.cells, h.data, g.rd h.l, h.len, fun e he => (h.x e he).grow g⟩
/-! ### What words mean -/
structure Ka (H : List En) (q : HP) (m : Ms) (d : Dn) : Prop where
 a : Or q m
 is : match d with
  | .ep => m.kind = 2 ∧ m.ep = 2
  | .sync z k => m.kind = 4 ∧ m.ep = 2 ∧ m.nu = 0 ∧ m.zx = z ∧ k ≤ H.length ∧ ∀ j, j ≤ k → z = zt j → m.ents.map En.pl = ((H.take k).drop j).map En.pl
  | .prop j => m.kind = 7 ∧ 4 ≤ j ∧ ∃ (hj : j < H.length) (e : En), m.ents = [e] ∧ e.pl = H[j].pl
  | .up z => m.kind = 6 ∧ m.zx = z
  | .com z => m.kind = 9 ∧ m.zx = z
  | .ping z => m.kind = 10 ∧ m.zx = z
theorem Ka.grow {H : List En} {q q2 : HP} {m : Ms} {d : Dn} (h : Ka H q m d) (g : CI q q2) : Ka H q2 m d := ⟨h.a.grow g, h.is⟩
theorem Ka.hist {H : List En} {q : HP} {m : Ms} {d : Dn} (h : Ka H q m d) (e : En) : Ka (H ++ [e]) q m d := by
 refine ⟨h.a, ?_⟩
 have := h.is
 cases d with
 | ep => exact this
 | sync z k =>
  obtain ⟨h1, h2, h3, h4, h5, h6⟩ := this
  refine ⟨h1, h2, h3, h4, by rw [length_append]; omega, fun j hj hz => ?_⟩
  rw [take_append_of_le_length h5]
  exact h6 j hj hz
 | prop j =>
  obtain ⟨h1, h0, hj, e1, h2, h3⟩ := this
  refine ⟨h1, h0, by rw [length_append]; omega, e1, h2, ?_⟩
  rw [getElem_append_left hj]; exact h3
 | up z => exact this
 | com z => exact this
 | ping z => exact this
def Mb : Um → Mo
 | .info => ⟨1, 1, 0, 0, []⟩
 | .ack b k => ⟨3, 2, 0, if b then 1 else -1, AS k⟩
 | .synced => ⟨5, 2, 0, 0, []⟩
 | .acked z => ⟨8, 0, z, 0, []⟩
 | .pong => ⟨11, 0, 0, 0, []⟩
/-! ### A follower -/
structure Mf (ld : Int) (H : List En) (F : Jc) (Φ : Fw) (s : Ld) (N C : Int) : Prop where
 ld : Φ.ld = ld
 ph : Φ.ph = F.ph
 com : Φ.com = F.com
 ep : F.ph ≠ 0 → Φ.ep = 2
 heard : Φ.heard = []
 rng : 0 ≤ F.ph ∧ F.ph ≤ 3
 k : F.k ≤ H.length
 k4 : F.ph ≤ 1 → F.k ≤ 4
 lg : Em s (H.take F.k) (if F.ph = 0 then 1 else 2) (if F.ph ≤ 1 then 1 else 2) N C
theorem MM {k : Nat} (hk : k ≤ 4) {H : List En} (hH : Hz H) (hl : H.length = k) (a c : Int) : A3 (BO H a c) = AS k := by
 have hz : H.map (·.zx) = (List.range k).map fun j => zt (j + 1) := by
  apply ext_getElem
  ·rw [length_map, length_map, length_range, hl]
  ·intro i h1 h2
   rw [getElem_map, getElem_map, getElem_range]
   exact hH.zx i (by rw [length_map] at h1; exact h1)
 unfold A3
 show ((0 : Int) :: H.map (·.zx)).foldl Ba [] = _
 rw [hz]
 have : k = 0 ∨ k = 1 ∨ k = 2 ∨ k = 3 ∨ k = 4 := by omega
 rcases this with e | e | e | e | e <;> subst e <;> decide +kernel
theorem Mf.hist {ld : Int} {H : List En} {F : Jc} {Φ : Fw} {s : Ld} {N C : Int} (h : Mf ld H F Φ s N C) (e : En) : Mf ld (H ++ [e]) F Φ s N C := by
 refine ⟨h.ld, h.ph, h.com, h.ep, h.heard, h.rng, by rw [length_append]; have := h.k; omega, h.k4, ?_⟩
 rw [take_append_of_le_length h.k]; exact h.lg
theorem VN {ld : Int} {H : List En} (hH : Hz H) {F F1 : Jc} {Φ : Fw} {s : Ld} {N C : Int} (h : Mf ld H F Φ s N C) (hC : C + 300 < 4294967295) {q : HP} {m : Ms} {d : Dn} {o : List Um} (hm : Ka H q m d) (ho : Bz F d = some (F1, o)) :
  Mf ld H F1 (AX Φ s m).1 (AX Φ s m).2.1 (N + 600000000 * (F1.ph - F.ph) + 4000000 * ((F1.k : Int) - F.k)) (C + 300 * (F1.ph - F.ph) + 2 * ((F1.k : Int) - F.k)) ∧ (AX Φ s m).1.sil = 0 ∧ (AX Φ s m).2.2 = o.head?.map Mb ∧ o.length ≤ 1 := by
 have hk := h.k
 have hfew := hH.few
 have hp := h.rng
 have hph := h.ph
 have hlg := h.lg
 have hlen : (H.take F.k).length = F.k := by rw [length_take]; omega
 have hlast : A5 s.Λ = zt F.k := by rw [hlg.Λ, D4 (hH.take F.k), hlen]
 have e0 : AX Φ s m = BL (Φ.hush 0) s m := by unfold AX; rw [if_neg om]
 have his := hm.is
 rw [e0]
 cases d with
 | ep =>
  obtain ⟨k1, k2⟩ := his
  unfold Bz at ho
  dsimp only at ho
  split at ho
  ·rename_i g
   cases ho
   have e1 : BL (Φ.hush 0) s m = EY (Φ.hush 0) s m := by unfold BL; rw [if_pos k1]
   have hacc : s.Λ.acc = if F.ph = 0 then 1 else 2 := by rw [hlg.Λ]; rfl
   have hph2 : (Φ.hush 0).ph = F.ph := hph
   have hmk : ∀ a c, A3 (BO (H.take F.k) a c) = AS F.k := fun a c => MM (h.k4 om) (hH.take F.k) hlen a c
   rcases g with g | g
   ·rw [if_pos g] at hacc hlg
    rw [if_pos om] at hlg
    obtain ⟨y1, y2⟩ := FO (n := 2) hlg om ⟨by decide, by decide⟩
    have e2 : EY (Φ.hush 0) s m = ((Φ.hush 0).go 1 2, (AR s 2).1, some ⟨3, 2, 0, 1, AS F.k⟩) := by
     unfold EY
     rw [k2, if_neg om, if_pos om, if_neg (fun g => g y1), y2.Λ, hmk]; rfl
    rw [e1, e2]
    refine ⟨⟨h.ld, rfl, h.com, fun _ => rfl, h.heard, ⟨by show (0 : Int) ≤ 1; decide, by show (1 : Int) ≤ 3; decide⟩, hk, fun _ => h.k4 om, ?_⟩, rfl, ?_, by simp⟩
    ·show Em _ (H.take F.k) (if (1 : Int) = 0 then 1 else 2) (if (1 : Int) ≤ 1 then 1 else 2) _ _
     rw [if_neg dQ, if_pos dQ]
     exact y2.more (by dsimp only; omega) (by dsimp only; omega)
    ·rw [g]; rfl
   ·rw [if_neg om] at hacc hlg
    rw [if_pos om] at hlg
    have e2 : EY (Φ.hush 0) s m = ((Φ.hush 0).go 1 2, s, some ⟨3, 2, 0, -1, AS F.k⟩) := by
     unfold EY
     rw [k2, if_neg om, if_neg om, hlg.Λ, hmk]
    rw [e1, e2]
    refine ⟨⟨h.ld, rfl, h.com, fun _ => rfl, h.heard, ⟨by show (0 : Int) ≤ 1; decide, by show (1 : Int) ≤ 3; decide⟩, hk, fun _ => h.k4 om, ?_⟩, rfl, ?_, by simp⟩
    ·show Em _ (H.take F.k) (if (1 : Int) = 0 then 1 else 2) (if (1 : Int) ≤ 1 then 1 else 2) _ _
     rw [if_neg dQ, if_pos dQ]
     exact hlg.more (by dsimp only; omega) (by dsimp only; omega)
    ·rw [show decide (F.ph = 0) = false from decide_eq_false om]; rfl
  ·cases ho
 | sync z k =>
  obtain ⟨k1, k2, k3, k4, k5, k6⟩ := his
  unfold Bz at ho
  dsimp only at ho
  split at ho
  ·rename_i g
   cases ho
   obtain ⟨g1, g2, g3, g4⟩ := g
   have e1 : BL (Φ.hush 0) s m = FZ (Φ.hush 0) s m := by unfold BL; rw [if_neg om, if_pos k1]
   rw [if_neg om, if_pos om] at hlg
   have hents := k6 F.k om g2
   have hel : m.ents.length = k - F.k := by
    have := congrArg List.length hents
    simp at this
    omega
   obtain ⟨c1, c2⟩ := YB hlg (hH.take F.k) om (j := F.k) om
   rw [take_take, Nat.min_self] at c2
   have hHk := hH.take k
   have hlk : (H.take k).length = k := by rw [length_take]; omega
   have c3 : Em (CE s (zt F.k)).1 ((H.take k).take F.k) 2 1 (N + 4000000) (C + 1) := by rw [take_take, Nat.min_eq_left om]; exact c2
   obtain ⟨t1, t2⟩ := K1 hHk m.ents _ F.k _ _ c3 om om hents
   obtain ⟨a1, a2⟩ := GV (n := 2) t2 om ⟨by decide, by decide⟩
   have ehist : D2 s m = BN m.ents (CE s (zt F.k)).1 := by
    unfold D2 Ea
    rw [if_neg om, k4, g2, if_neg (fun g => g c1)]
   have hep : (Φ.hush 0).ep = 2 := h.ep om
   have e2 : FZ (Φ.hush 0) s m = ((Φ.hush 0).toPh 2, (AY (BN m.ents (CE s (zt F.k)).1).1 2).1, some ⟨5, 2, 0, 0, []⟩) := by
    unfold FZ Gz
    rw [if_neg (by rintro (q1 | q1); exact q1 (by show Φ.ph = 1; omega); exact q1 (by rw [k2, hep])), ehist, if_neg (fun g => g t1), hep, if_neg (fun g => g a1)]
   rw [e1, e2]
   refine ⟨⟨h.ld, rfl, h.com, fun _ => h.ep om, h.heard, ⟨by show (0 : Int) ≤ 2; decide, by show (2 : Int) ≤ 3; decide⟩, k5, fun g => absurd (show (2 : Int) ≤ 1 from g) dQ, ?_⟩, rfl, rfl, by simp⟩
   show Em _ (H.take k) (if (2 : Int) = 0 then 1 else 2) (if (2 : Int) ≤ 1 then 1 else 2) _ _
   rw [if_neg dQ, if_neg dQ]
   exact a2.more (by dsimp only; omega) (by dsimp only; omega)
  ·cases ho
 | prop j =>
  obtain ⟨k1, hj4, hj, e, k2, k3⟩ := his
  unfold Bz at ho
  dsimp only at ho
  split at ho
  ·rename_i g
   cases ho
   obtain ⟨g1, g2⟩ := g
   have e1 : BL (Φ.hush 0) s m = DZ (Φ.hush 0) s m := by unfold BL; rw [if_neg om, if_neg om, if_pos k1]
   rw [if_neg om, if_neg om] at hlg
   have hzx : e.zx = zt (j + 1) := (show e.zx = H[j].zx from by have := congrArg En.zx k3; exact this).trans (hH.zx j hj)
   have hH1 := hH.take (j + 1)
   have hl1 : (H.take (j + 1)).length = j + 1 := by rw [length_take]; omega
   have c3 : Em s ((H.take (j + 1)).take j) 2 2 N C := by rw [take_take, Nat.min_eq_left om, ← g2]; exact hlg
   have hents : [e].map En.pl = ((H.take (j + 1)).drop j).map En.pl := by
    rw [take_succ_eq_append_getElem hj, drop_left' (by rw [length_take]; omega), map_singleton, map_singleton, k3]
   obtain ⟨t1, t2⟩ := K1 hH1 [e] s j _ _ c3 (by simp only [length_cons, length_nil]; omega) (by simp only [length_cons, length_nil]; omega) hents
   have hep : (Φ.hush 0).ep = 2 := h.ep om
   have h4 : (zt (j + 1)).tdiv 4294967296 = 2 := by
    have : zt (j + 1) = 8589934592 + ((j + 1 - 4 : Nat) : Int) := by unfold zt; rw [if_neg om, if_neg om]; omega
    rw [this, Int.tdiv_eq_ediv_of_nonneg om]
    omega
   have he0 : FY m.ents = zt (j + 1) := by rw [k2]; exact hzx
   have e2 : DZ (Φ.hush 0) s m = (Φ.hush 0, (BN [e] s).1, some ⟨8, 0, zt (j + 1), 0, []⟩) := by
    unfold DZ
    rw [if_neg (by
     rintro (q1 | q1 | q1)
     ·exact q1 (by show Φ.ph = 2 ∨ Φ.ph = 3; omega)
     ·rw [k2] at q1; exact q1 rfl
     ·rw [he0, hep] at q1; exact q1 h4), k2, if_neg (fun g => g t1), show FY [e] = zt (j + 1) from hzx]
   rw [e1, e2]
   refine ⟨⟨h.ld, hph, h.com, fun _ => h.ep om, h.heard, hp, by show j + 1 ≤ H.length; omega, fun g => by have g : F.ph ≤ 1 := g; omega, ?_⟩, rfl, rfl, by simp⟩
   show Em _ (H.take (j + 1)) (if F.ph = 0 then 1 else 2) (if F.ph ≤ 1 then 1 else 2) _ _
   rw [if_neg om, if_neg om]
   exact t2.more (by simp only [length_cons, length_nil]; omega) (by simp only [length_cons, length_nil]; omega)
  ·cases ho
 | up z =>
  obtain ⟨k1, k2⟩ := his
  unfold Bz at ho
  dsimp only at ho
  split at ho
  ·rename_i g
   cases ho
   obtain ⟨g1, g2⟩ := g
   rw [if_neg om, if_neg om] at hlg
   have e1 : BL (Φ.hush 0) s m = RP (Φ.hush 0) s m := by unfold BL; rw [if_neg om, if_neg om, if_neg om, if_neg om, if_pos k1]
   have e2 : RP (Φ.hush 0) s m = (((Φ.hush 0).toPh 3).comm z, s, none) := by
    unfold RP Ff
    rw [if_neg (by show ¬ Φ.ph ≠ 2; omega), if_neg (by rintro (q1 | q1); exact q1 rfl; omega), k2]
   rw [e1, e2]
   refine ⟨⟨h.ld, rfl, by show max Φ.com z = max F.com z; rw [h.com], fun _ => h.ep om, h.heard, ⟨by show (0 : Int) ≤ 3; decide, by show (3 : Int) ≤ 3; decide⟩, hk, fun g => absurd (show (3 : Int) ≤ 1 from g) dQ, ?_⟩, rfl, rfl, by simp⟩
   show Em _ (H.take F.k) (if (3 : Int) = 0 then 1 else 2) (if (3 : Int) ≤ 1 then 1 else 2) _ _
   rw [if_neg dQ, if_neg dQ]
   exact hlg.more (by dsimp only; omega) (by dsimp only; omega)
  ·cases ho
 | com z =>
  obtain ⟨k1, k2⟩ := his
  unfold Bz at ho
  dsimp only at ho
  split at ho
  ·rename_i g
   cases ho
   obtain ⟨g1, g2⟩ := g
   rw [if_neg om, if_neg om] at hlg
   have e1 : BL (Φ.hush 0) s m = Ff (Φ.hush 0) s m := by unfold BL; rw [if_neg om, if_neg om, if_neg om, if_neg om, if_neg om, if_pos k1]
   have e2 : Ff (Φ.hush 0) s m = ((Φ.hush 0).comm z, s, none) := by
    unfold Ff
    rw [if_neg (by rintro (q1 | q1); exact q1 (by show Φ.ph = 3; omega); omega), k2]
   rw [e1, e2]
   refine ⟨⟨h.ld, by show Φ.ph = 3; omega, by show max Φ.com z = max F.com z; rw [h.com], fun _ => h.ep om, h.heard, ⟨by show (0 : Int) ≤ 3; decide, by show (3 : Int) ≤ 3; decide⟩, hk, fun g => absurd (show (3 : Int) ≤ 1 from g) dQ, ?_⟩, rfl, rfl, by simp⟩
   show Em _ (H.take F.k) (if (3 : Int) = 0 then 1 else 2) (if (3 : Int) ≤ 1 then 1 else 2) _ _
   rw [if_neg dQ, if_neg dQ]
   exact hlg.more (by dsimp only; omega) (by dsimp only; omega)
  ·cases ho
 | ping z =>
  obtain ⟨k1, k2⟩ := his
  unfold Bz at ho
  dsimp only at ho
  split at ho
  ·rename_i g
   cases ho
   obtain ⟨g1, g2⟩ := g
   have e1 : BL (Φ.hush 0) s m = EQ (Φ.hush 0) s m := by unfold BL; rw [if_neg om, if_neg om, if_neg om, if_pos k1]
   have e2 : EQ (Φ.hush 0) s m = ((Dw (Φ.hush 0) s m).hear [], s, some ⟨11, 0, 0, 0, []⟩) := by
    unfold EQ
    rw [if_neg (by show ¬ Φ.ph < 2; omega), show (Φ.hush 0).heard = [] from h.heard]
   rw [e1, e2]
   have e3 : (Dw (Φ.hush 0) s m).ld = ld ∧ (Dw (Φ.hush 0) s m).ph = F.ph ∧ (Dw (Φ.hush 0) s m).com = (if F.ph = 3 then max F.com z else F.com) ∧ (Dw (Φ.hush 0) s m).ep = Φ.ep ∧ (Dw (Φ.hush 0) s m).sil = 0 := by
    unfold Dw
    by_cases g3 : F.ph = 3
    ·rw [if_pos ⟨by show Φ.ph = 3; omega, by omega⟩, if_pos g3, k2]
     exact ⟨h.ld, hph, by show max Φ.com z = _; rw [h.com], rfl, rfl⟩
    ·rw [if_neg (by rintro ⟨q1, -⟩; exact g3 (by have q1 : Φ.ph = 3 := q1; omega)), if_neg g3]
     exact ⟨h.ld, hph, h.com, rfl, rfl⟩
   refine ⟨⟨e3.1, e3.2.1, e3.2.2.1, fun _ => e3.2.2.2.1.trans (h.ep om), rfl, hp, hk, h.k4, hlg.more (by dsimp only; omega) (by dsimp only; omega)⟩, e3.2.2.2.2, rfl, by simp⟩
  ·cases ho
theorem WD {ld : Int} {H : List En} {F : Jc} {Φ : Fw} {s : Ld} {N C : Int} (h : Mf ld H F Φ s N C) (hs : 0 ≤ Φ.sil ∧ Φ.sil ≤ 5) :
  Mf ld H F (Bl Φ s []).1 s N C ∧ (Bl Φ s []).1.sil = Φ.sil + 1 ∧ ((Bl Φ s []).2 = none ∨ (F.ph = 0 ∧ (Bl Φ s []).2 = some (Mb .info))) := by
 have hp := h.rng
 have hph := h.ph
 unfold Bl
 rw [if_neg om, if_neg om, h.heard]
 have h0 : Bw ([] ++ [] : List Int) = [] := eq_nil_of_length_eq_zero (by rw [Gs]; rfl)
 refine ⟨⟨h.ld, h.ph, h.com, h.ep, by show Lib.compact (Bw ([] ++ [])) = []; rw [h0]; rfl, h.rng, h.k, h.k4, h.lg⟩, rfl, ?_⟩
 dsimp only
 split
 ·rename_i g
  have hlg := h.lg
  have g0 : F.ph = 0 := by rw [← hph]; exact g.1
  rw [if_pos g0] at hlg
  refine .inr ⟨g0, ?_⟩
  rw [hlg.Λ]; rfl
 ·exact .inl rfl
abbrev O8 := Sv × Value
def Cb (r : O8) : List Value := [AA r.1.id, AA r.1.st, AA r.1.ep, AA r.1.ack, AA r.1.bro, AA r.1.heard, .bool r.1.cnt, r.2]
def HR (r : O8) : HP := Cr r.2 r.1.marks
theorem Xs (s : Sv) (hs : s.marks = []) (h : Hp) : HR (s, .slice none 0 0) h := by
 unfold HR
 rw [hs]; exact Ak _ _ h
def Ik (x : Int × Ms) : List Value := AA x.1 :: BF x.2
def Qi (L : La) : Int := if L.ph = 0 then 0 else 2
def GX (g ob oc : Nat) (L : La) (t : Int) (ov : Value) : List Value := [AA (L.sv.length + 1), AA (L.sv.length + 1), AG g, AA L.ph, AA (Qi L), AA (L.h - 4), AA L.com, AA t, .slice (some ⟨ob, 0, none⟩) L.sv.length oc, ov]
abbrev Lo := List (Int × Ms)
structure H5 (rows : List O8) (sv : List Sv) : Prop where
 fst : rows.map Prod.fst = sv
 cell : ∀ r ∈ rows, AD r.2 = true
structure LeY where
 rows : List O8
 ov : Value
def leL (b g ob oc : Nat) (L : La) (t : Int) (o : Lo) (y : LeY) : List HP := [Ar b (GX g ob oc L t y.ov) 101, AV 103 8 (.slice (some ⟨ob, 0, none⟩) L.sv.length oc) L.sv.length (y.rows.flatMap Cb), Aj HR y.rows, AV 77 20 y.ov o.length (o.flatMap Ik)]
def Dg (b g ob oc : Nat) (L : La) (t : Int) (o : Lo) : HP := fun h => ∃ y : LeY, H5 y.rows L.sv ∧ CG (leL b g ob oc L t o y) h
theorem Gy {α : Type} : ∀ {l : List α} {i : Nat} (h : i < l.length), (l[i] :: l.eraseIdx i).Perm l
 | [], i, h => absurd h (Nat.not_lt_zero _)
 | x :: l, 0, _ => .refl _
 | x :: l, i + 1, h => by
  rw [getElem_cons_succ, eraseIdx_cons_succ]
  exact (List.Perm.swap _ _ _).trans ((Gy (by simpa using h)).cons x)
section
variable {W : World} {n : Nat} {ds : List Deferred} {E : By} {K R : List HP} {X : Act → World → Prop}
theorem G.leOpen {b g ob oc : Nat} {L : La} {t : Int} {o : Lo} (hL : BT (Dg b g ob oc L t o) K R) (h : ∀ rows ov, H5 rows L.sv → G W n ds E (Ar b (GX g ob oc L t ov) 101 :: AV 103 8 (.slice (some ⟨ob, 0, none⟩) L.sv.length oc) L.sv.length (rows.flatMap Cb) :: Aj HR rows :: AV 77 20 ov o.length (o.flatMap Ik) :: R) X) : G W n ds E K X :=
 G.focus hL (G.open (q := fun y : LeY => leL b g ob oc L t o y) (φ := fun y : LeY => H5 y.rows L.sv) (fun _ hp => hp) fun y hy => h y.rows y.ov hy)
theorem G.leFold {b g ob oc : Nat} (L : La) (t : Int) (o : Lo) {rows : List O8} {ov : Value} {l xs ys : List Value} {m k : Nat} (hr : H5 rows L.sv) (hL : Am [Ar b l 101, AV 103 8 (.slice (some ⟨ob, 0, none⟩) m oc) m xs, Aj HR rows, AV 77 20 ov k ys] K R)
  (hl : l = GX g ob oc L t ov) (hm : m = L.sv.length) (hx : xs = rows.flatMap Cb) (hk : k = o.length) (hy : ys = o.flatMap Ik) (h : G W n ds E (Dg b g ob oc L t o :: R) X) : G W n ds E K X := by
 subst hl; subst hm; subst hx; subst hk; subst hy
 exact G.fold hL (fun _ hp => ⟨⟨rows, ov⟩, hr, hp⟩) h
theorem G.leCast {b g ob oc : Nat} {L L' : La} {t : Int} {o o' : Lo} (hL : BT (Dg b g ob oc L t o) K R) (h1 : L = L') (h2 : o = o') (h : G W n ds E (Dg b g ob oc L' t o' :: R) X) : G W n ds E K X := by
 subst h1; subst h2; exact G.perm hL.perm h
theorem G.bigAt {α : Type} {f : α → HP} {l : List α} {i : Nat} (hi : i < l.length) (hL : BT (Aj f l) K R) (hg : G W n ds E (f l[i] :: Aj f (l.eraseIdx i) :: R) X) : G W n ds E K X :=
 G.focus hL (G.unfold (q := [f l[i], Aj f (l.eraseIdx i)]) (fun _ hp => K5 (Hc (Gy hi).symm hp)) hg)
theorem G.bigTo {α : Type} {f : α → HP} {l : List α} {i : Nat} (hi : i < l.length) (y : α) {p : HP} (hp : p = f y) (hL : Am [p, Aj f (l.eraseIdx i)] K R) (hg : G W n ds E (Aj f (l.set i y) :: R) X) : G W n ds E K X := by
 subst hp
 refine G.fold (p := Aj f (l.set i y)) hL (fun _ hp => ?_) hg
 have h1 : (y :: l.eraseIdx i).Perm (l.set i y) := by
  have h2 := Gy (l := l.set i y) (i := i) (by simpa using hi)
  rw [getElem_set_self, eraseIdx_set_eq] at h2
  exact h2
 exact Hc h1 (Fq hp)
end
theorem Qp {α : Type} {f : α → List Value} {sz : Nat} : ∀ {l : List α} {i k : Nat} {v : Value} {y : α} (hf : ∀ x, (f x).length = sz) (hi : i < l.length) (hk : k < sz) (hy : (f l[i]).set k v = f y), (l.flatMap f).set (i * sz + k) v = (l.set i y).flatMap f
 | [], i, _, _, _, _, hi, _, _ => absurd hi (Nat.not_lt_zero _)
 | x :: l, 0, k, v, y, hf, _, hk, hy => by
  rw [flatMap_cons, Nat.zero_mul, Nat.zero_add, set_append_left _ _ (by rw [hf]; exact hk)]
  rw [show (f x).set k v = f y from hy]; rfl
 | x :: l, i + 1, k, v, y, hf, hi, hk, hy => by
  rw [flatMap_cons, set_append_right _ _ (by rw [hf, Nat.succ_mul]; omega), hf, show (i + 1) * sz + k - sz = i * sz + k by rw [Nat.succ_mul]; omega]
  rw [Qp hf (by simpa using hi) hk (by simpa using hy)]; rfl
theorem FT {rows : List O8} {i : Nat} (hi : i < rows.length) {k : Nat} (hk : k < 8) : (rows.flatMap Cb)[i * 8 + k]? = (Cb rows[i])[k]? := by
 have h := BE (f := Cb) (sz := 8) (l := rows) (i := i) (fun _ _ => rfl) hi
 have h2 := congrArg (fun l : List Value => l[k]?) h
 rw [List.getElem?_take_of_lt hk, List.getElem?_drop] at h2
 exact h2
theorem AQ {rows : List O8} {sv : List Sv} (h : H5 rows sv) : rows.length = sv.length := by rw [← h.fst, length_map]
theorem DI {rows : List O8} {sv : List Sv} (h : H5 rows sv) {i : Nat} (hi : i < rows.length) (hj : i < sv.length) : rows[i].1 = sv[i] := by
 obtain ⟨h, -⟩ := h
 subst h
 rw [getElem_map]
theorem H5.set {rows : List O8} {sv : List Sv} (h : H5 rows sv) (i : Nat) {s : Sv} {v : Value} (hv : AD v = true) : H5 (rows.set i (s, v)) (sv.set i s) := by
 refine ⟨by rw [map_set, h.fst], fun r hr => ?_⟩
 rcases mem_or_eq_of_mem_set hr with g | g
 ·exact h.cell r g
 ·rw [g]; exact hv
/-! ### What goes out, as words -/
def Gp (H : List En) (q : HP) : Lo → Ou → Prop
 | [], [] => True
 | x :: l, y :: p => x.1 = y.1 ∧ Ka H q x.2 y.2 ∧ Gp H q l p
 | _, _ => False
theorem Gp.app {H : List En} {q : HP} : ∀ {l k : Lo} {p r : Ou}, Gp H q l p → Gp H q k r → Gp H q (l ++ k) (p ++ r)
 | [], _, [], _, _, h => h
 | _ :: _, _, _ :: _, _, ⟨a, b, c⟩, h => ⟨a, b, Gp.app c h⟩
theorem Gp.grow {H : List En} {q q2 : HP} (g : CI q q2) : ∀ {l : Lo} {p : Ou}, Gp H q l p → Gp H q2 l p
 | [], [], _ => trivial
 | _ :: _, _ :: _, ⟨a, b, c⟩ => ⟨a, b.grow g, Gp.grow g c⟩
theorem Gp.len {H : List En} {q : HP} : ∀ {l : Lo} {p : Ou}, Gp H q l p → l.length = p.length
 | [], [], _ => rfl
 | _ :: _, _ :: _, ⟨_, _, c⟩ => congrArg (· + 1) (Gp.len c)
theorem Gp.all {H : List En} {q : HP} {m : Ms} {d : Dn} (h : Ka H q m d) : ∀ sv : List Sv, Gp H q (sv.map fun s => (s.id, m)) (sv.map fun s => (s.id, d))
 | [] => trivial
 | _ :: sv => ⟨rfl, h, Gp.all h sv⟩
def CQ (sv : List Sv) (st : Int) (m : Ms) : Lo := (sv.filter fun s => decide (st ≤ s.st)).map fun s => (s.id, m)
theorem Gp.tell {H : List En} {q : HP} {m : Ms} {d : Dn} (h : Ka H q m d) (sv : List Sv) (st : Int) : Gp H q (CQ sv st m) (JR sv st d) := Gp.all h _
section
variable {P : Program} {E : By} {L : List HP} {ty : TypeId}
theorem AH.quoU {t t' : TypeId} {x y : Operand} {a b : Int} (hx : ev E x = some (.int .u64 a)) (hy : ev E y = some (.int .u64 b)) (h0 : 0 ≤ a ∧ a < 18446744073709551616) (hb : 0 < b) :
  AH P ⟨none, .binOp .quo t x y t', ty, "", #[], none⟩ E L (.int .u64 (a / b)) := by
 intro ρ w ha _
 have e : a.tdiv b = a / b := Int.tdiv_eq_ediv_of_nonneg h0.1
 have h1 : a / b ≤ a := Int.ediv_le_self b h0.1
 have h2 : 0 ≤ a / b := Int.ediv_nonneg h0.1 om
 have hw : IntKind.u64.wrap (a / b) = a / b := by rw [B0]; omega
 simp [execOp, ha x _ hx, ha y _ hy, eqGuard, binOp, Op.intDiv, Bind.bind, Sem.bind, Pure.pure, Sem.run, show b ≠ 0 by omega, e, hw]
theorem AH.remU {t t' : TypeId} {x y : Operand} {a b : Int} (hx : ev E x = some (.int .u64 a)) (hy : ev E y = some (.int .u64 b)) (h0 : 0 ≤ a) (hb : 0 < b) :
  AH P ⟨none, .binOp .rem t x y t', ty, "", #[], none⟩ E L (.int .u64 (a % b)) := by
 intro ρ w ha _
 have e : a.tmod b = a % b := Int.tmod_eq_emod_of_nonneg h0
 simp [execOp, ha x _ hx, ha y _ hy, eqGuard, binOp, Op.intDiv, Bind.bind, Sem.bind, Pure.pure, Sem.run, show b ≠ 0 by omega, e]
end
theorem SS {l : List Ac} {i k : Nat} (hi : i < l.length) (hk : k < 2) : (l.flatMap Il)[i * 2 + k]? = (Il l[i])[k]? := XI (f := Il) (sz := 2) (fun _ _ => rfl) hi hk
theorem U4 {ns : List Int} (h : ∀ n ∈ ns, I64 n) : (ns.flatMap Bc).length ≤ ns.length * 10 := by
 induction ns with
 | nil => simp
 | cons n ns ih =>
  have h1 := ih (fun x hx => h x (mem_cons_of_mem _ hx))
  have h2 := Cm (h n (mem_cons_self ..))
  rw [flatMap_cons, length_append, length_cons]; omega
theorem Q9 (n : Int) (hn : I64 n) : Fn prog 154 #[AA n] [] fun v L => v = .int .u64 (Hx n : Nat) ∧ L = [] := by
 refine Fn.intro func154 Y Y fun F W => ?_
 refine .sr (.an Y (.seq (.sm Y (.ui Y Y Y (.nt (.condD Y (fun h4 => ?_) (fun h4 => ?_)))))))
 ·refine .sm Y (.q (.conv Y underlying3 underlying193) Y (.q (.as (v' := .int .u64 (Hx n : Nat)) (by exact congrArg (Value.int .u64) (by rw [B0, B0]; unfold Hx; rw [if_pos om]; omega)) (.int Y Y Y)) Y (.an Y (.rt ?_))))
  exact .vv
 refine .sk (.sm Y (.q (.add Y Y om) Y (.q (.neg Y om) Y (.q (.conv Y underlying3 underlying193) Y (.ui Y Y Y (.q (.as (v' := .int .u64 (Hx n : Nat)) (by exact congrArg (Value.int .u64) (by rw [B0, B0, B0]; unfold Hx; rw [if_neg om]; omega)) (.int Y Y Y)) Y (.an Y (.ret ?_))))))))
 exact .vv
theorem Tq {u : Nat} (h : 128 ≤ u) (bs : Bs) : bs ++ [UInt8.ofNat (u % 128 + 128)] ++ DK (u / 128) = bs ++ DK u := by
 rw [DK.eq_1 u, if_neg om, append_assoc]; rfl
theorem UY {u : Nat} (h : ¬ 128 ≤ u) : [UInt8.ofNat u] = DK u := by
 rw [DK.eq_1 u, if_pos om]
theorem Yg {u : Nat} (h : u < 256) : Value.int .u8 (IntKind.u8.wrap (u : Int)) = Bx (UInt8.ofNat u) := by
 have e : IntKind.u8.wrap (u : Int) = (u : Int) := by simp [IntKind.wrap, IntKind.bits, IntKind.signed]; omega
 rw [e]; show Value.int .u8 (u : Int) = .int .u8 ((UInt8.ofNat u).toNat : Int)
 rw [HQ h]
theorem LC (u0 : Nat) (hu : u0 < FI) : Fn prog 153 #[.int .u64 u0] [] fun v L => v = AU (DK u0) ∧ L = [] := by
 refine Fn.intro func153 Y Y fun F W => ?_
 have hs10 := DB hu
 have h64 : FI = 18446744073709551616 := rfl
 refine .sr (.an Y (.seq (.add (Ak 5 1) (.region (.an Y (.seq (.block (.loopK (ι := Nat × Value × Bs) (fun q E => (0, .int .u64 q.1) :: (3, q.2.1) :: E) (fun q => [EN q.2.1 q.2.2]) (fun q => q.1 ≤ u0 ∧ (∃ a c, q.2.1 = .slice a q.2.2.length c) ∧ q.2.2 ++ DK q.1 = DK u0) (fun q => q.1) (u0, .slice none 0 0, []) (ts := [2]) O (⟨Nat.le_refl _, ⟨none, 0, Y⟩, Y⟩) O O ?_))))))))
 rintro ⟨u, v, b⟩ ⟨hu0, ⟨av, cv, hv⟩, heq⟩
 dsimp only
 dsimp only at hu0 hv heq
 subst hv
 have hbl := congrArg List.length heq
 rw [length_append] at hbl
 have hsl := Sx u
 refine .seq (.sm Y (.ui Y Y Y (.nt (.condD Y (fun h5 => ?_) (fun h5 => ?_)))))
 ·refine .sk (.block (.sm Y (.m Y (.q (.to (v' := .int .u64 ((u % 128 : Nat) : Int)) (.remU Y Y om dQ) (by rfl)) Y (.ui Y Y Y (.q (.as (v' := Bx (UInt8.ofNat (u % 128 + 128))) (by rw [B0, show (((u % 128 : Nat) : Int) + 128) % 18446744073709551616 = ((u % 128 + 128 : Nat) : Int) by omega]; exact Yg om) (.conv Y underlying193 underlying5)) Y (.oq (.buildSlice1 (vs := [_]) A8 Fo Y Y Y Y Y dQ) ?_)))))))
  rintro v L' ⟨b3, rfl, rfl⟩
  refine .oq (.append1 Y Y Y A8 Fo Y Y ?c12 ?c13 (Nat.le_refl _) ?c14 dQ) ?_
  case c12 => (first | (simp [AD]; done) | (simp [AD, Cd, Value.cells]; done))
  case c13 => rfl
  case c14 => omega
  rintro v L' ⟨⟨a3, c3, rfl⟩, rfl⟩
  refine .an Y (.region (.m Y (.q (.to (v' := .int .u64 ((u / 128 : Nat) : Int)) (.quoU Y Y om dQ) (by rfl)) Y (.a Y (.nil (.blk_n (.then_n (.slCast (T := 5) (sz := 1) (m' := (b ++ [(UInt8.ofNat (u % 128 + 128))]).length) (xs' := A4 (b ++ [(UInt8.ofNat (u % 128 + 128))])) O (by simp) (by simp [A4, Value.cells]) ?_))))))))
  exact .rk ((u / 128, .slice a3 (b.length + 1) c3, b ++ [(UInt8.ofNat (u % 128 + 128))])) (⟨by dsimp only; omega, ⟨a3, c3, by simp⟩, by dsimp only; rw [Tq om]; exact heq⟩) (by dsimp only; omega) O
 refine .xe (.sm Y (.m Y (.q (.as (v' := Bx (UInt8.ofNat u)) (by exact Yg om) (.conv Y underlying193 underlying5)) Y (.oq (.buildSlice1 (vs := [_]) A8 Fo Y Y Y Y Y dQ) ?_))))
 rintro v L' ⟨b5, rfl, rfl⟩
 refine .oq (.append1 Y Y Y A8 Fo Y Y ?c24 ?c25 (Nat.le_refl _) ?c26 dQ) ?_
 case c24 => (first | (simp [AD]; done) | (simp [AD, Cd, Value.cells]; done))
 case c25 => rfl
 case c26 => omega
 rintro v L' ⟨⟨a5, c5, rfl⟩, rfl⟩
 refine .an Y (.seq (.slCast (T := 5) (sz := 1) (m' := (b ++ [(UInt8.ofNat u)]).length) (xs' := A4 (b ++ [(UInt8.ofNat u)])) O (by simp) (by simp [A4, Value.cells]) ?_))
 have hfin : b ++ [(UInt8.ofNat u)] = DK u0 := by rw [UY om]; exact heq
 refine .region (.m Y (.q (.bytesBy (cs := b ++ [(UInt8.ofNat u)]) (n := b.length + 1) (p := AV 5 1 (.slice a5 (b.length + 1) c5) (b ++ [(UInt8.ofNat u)]).length (A4 (b ++ [(UInt8.ofNat u)]))) Y underlying133 underlying5 underlying9 (fun h hp => by rw [show b.length + 1 = (b ++ [(UInt8.ofNat u)]).length by simp] at hp ⊢; exact AE hp) O) rfl (.an rfl (.ret ?_))))
 rw [hfin]
 exact .vv
theorem Gw (n : Int) (hn : I64 n) : Fn prog 114 #[AA n] [] fun v L => v = AU (Bc n) ∧ L = [] := by
 refine Fn.intro func114 Y Y fun F W => ?_
 refine .sr (.an Y (.sm Y (.cv func154 [_] (Q9 n hn) ?_)))
 refine .cv func153 [_] (LC (Hx n) (Jl hn)) ?_
 refine .an Y (.ret ?_)
 exact .vv
theorem Gi (n : Nat) (hn : n ≤ 70368744177664) : Fn prog 115 #[AA n] [] fun v L => v = AU (Bp n) ∧ L = [] := by
 refine Fn.intro func115 Y Y fun F W => ?_
 have hz : n < FI := by unfold FI; omega
 refine .sr (.an Y (.sm Y (.u (.max2 Y Y) (.q (.as (v' := .int .u64 (n : Nat)) (by exact congrArg (Value.int .u64) (by rw [B0]; omega)) (.conv Y underlying3 underlying193)) Y (.cv func153 [_] (LC n hz) ?_)))))
 refine .an Y (.ret ?_)
 exact .vv
theorem IL (s : Bs) (hs : s.length ≤ 70368744100000) : Fn prog 174 #[AU s] [] fun v L => v = AU (Cs s) ∧ L = [] := by
 refine Fn.intro func174 Y Y fun F W => ?_
 have hc : (Bp s.length).length ≤ 10 := DB (by unfold FI; omega)
 refine .sr (.an Y (.sm Y (.q (.strlen Y underlying9 Y) Y (.cv func115 [_] (Gi s.length om) ?_))))
 refine .m Y (.q (.concat Y Y om) Y (.an Y (.ret ?_)))
 exact .vv
theorem J3 (va : Value) (ns : List Int) (p : HP) (hp : ∀ h : Hp, p h → B5 1 h va ns.length (Aq ns)) (hi : ∀ n ∈ ns, I64 n) (hl : ns.length ≤ 2147483648) : Fn prog 94 #[va] [p] fun v L => v = AU (ns.flatMap Bc) ∧ L = [p] := by
 refine Fn.intro func94 Y Y fun F W => ?_
 have hnl := U4 hi
 refine .rdAny (p := p) hp O fun aa ca e _ => ?_
 subst e
 refine .sr (.an Y (.sr (.an Y (.seq (.sr (.an Y (.block (.loopK (ι := Nat × Bs) (fun q E => (4, AA q.1) :: (3, AU q.2) :: E) (fun q => []) (fun q => q.1 ≤ ns.length ∧ q.2 = (ns.take q.1).flatMap Bc) (fun q => ns.length - q.1) (0, []) (ts := [0, 2]) O (⟨Nat.zero_le _, Y⟩) O O ?_))))))))
 rintro ⟨i, t⟩ ⟨hj, ht⟩
 dsimp only
 dsimp only at hj ht
 have hft := Ns Bc ns i
 rw [← ht] at hft
 refine .seq (.sm Y (.m Y (.q (.slen Y underlying22 Y) Y (.ui Y Y Y (.nt (.condD Y (fun h8 => ?_) (fun h8 => ?_)))))))
 ·have hi2 : i < ns.length := by omega
  have h64 := hi _ (getElem_mem hi2)
  have hb10 := Cm h64
  refine .rdShape (p := p) hp O om fun ba oa e => ?_
  subst e
  refine .sk (.seq (.block (.region (.m Y (.m Y (.m Y (.q (.indexAddr Y Y BC om) Y (.q (.loadEl (p := p) (i := i * 1) (v := AA ns[i]) Y AF O hp (by rw [Nat.mul_one]; simp [Aq, hi2])) Y (.cv func114 [_] (Gw ns[i] h64) ?_)))))))))
  refine .q (.concat Y Y om) Y (.a Y (.nil (.blk_n (.then_n (.region (.m Y (.q (.add Y Y om) Y (.an Y ?_))))))))
  exact .rk ((i + 1, t ++ Bc ns[i])) (⟨by dsimp only; omega, by dsimp only; rw [Gm Bc hi2, ht]⟩) (by dsimp only; omega) O
 have hie : i = ns.length := by omega
 have hfin : t = ns.flatMap Bc := by rw [ht, hie, take_length]
 subst hfin
 refine .xe (.sm Y (.an Y (.ret ?_)))
 exact .vv
theorem QU (va : Value) (l : List Ac) (p : HP) (hp : ∀ h : Hp, p h → B5 2 h va l.length (l.flatMap Il)) (hi : ∀ a ∈ l, AcI a) (hl : (H1 l).length ≤ 70368744100000) (hn : l.length ≤ 1048576) : Fn prog 175 #[va] [p] fun v L => v = AU (H1 l) ∧ L = [p] := by
 refine Fn.intro func175 Y Y fun F W => ?_
 refine .rdAny (p := p) hp O fun aa ca e _ => ?_
 subst e
 have hll : (H1 l).length = (Bp l.length).length + (l.flatMap JN).length := by unfold H1; rw [length_append]
 refine .sr (.an Y (.sm Y (.q (.slen Y underlying37 Y) Y (.cv func115 [_] (Gi l.length om) ?_))))
 refine .an Y (.seq (.sr (.an Y (.block (.loopK (ι := Nat × Bs) (fun q E => (4, AA q.1) :: (3, AU q.2) :: E) (fun q => []) (fun q => q.1 ≤ l.length ∧ q.2 = Bp l.length ++ (l.take q.1).flatMap JN) (fun q => l.length - q.1) (0, Bp l.length) (ts := [0, 2]) O (⟨Nat.zero_le _, by simp⟩) O O ?_)))))
 rintro ⟨i, t⟩ ⟨hj, ht⟩
 dsimp only
 dsimp only at hj ht
 have htl : t.length = (Bp l.length).length + ((l.take i).flatMap JN).length := by rw [ht, length_append]
 refine .seq (.sm Y (.m Y (.q (.slen Y underlying37 Y) Y (.ui Y Y Y (.nt (.condD Y (fun h11 => ?_) (fun h11 => ?_)))))))
 ·have hi2 : i < l.length := by omega
  have hai := hi _ (getElem_mem hi2)
  have hfs := JM JN hi2
  have hab : (JN l[i]).length = (Bc l[i].1).length + (Cs l[i].2).length := by unfold JN; rw [length_append]
  have htx : (Cs l[i].2).length = (Bp l[i].2.length).length + l[i].2.length := by unfold Cs; rw [length_append]
  have hn64 := hai.n
  refine .rdShape (p := p) hp O om fun ba oa e => ?_
  subst e
  refine .sk (.seq (.block (.draw [] [[0, 1, 2, 3, 4, 5, 6, 7, 8, 9, 10, 11, 12, 13, 14, 15]] mixed kQ (.go [p] O (.mv Y Y (.mv Y Y (.mv Y Y (.kv Y (.indexAddr Y Y PW om) (.kv Y (.fieldAddr Y PR) (.kv Y (.loadRd (sz := 2) (j := i * 2 + 0) (p := p) (v := AA l[i].1) Y AF O hp (by simp) ((SS (k := 0) hi2 dQ).trans Y)) (.m Y kQ (.c func114 [_] (Gw l[i].1 ?hn17)) O ?_)))))))))))
  case hn17 => exact hn64
  refine D.kv Y (.concat Y Y om) (.mv Y Y (.mv Y Y (.kv Y (.indexAddr Y Y PW om) (.kv Y (.fieldAddr Y Qe) (.kv Y (.loadRd (sz := 2) (j := i * 2 + 1) (p := p) (v := AU l[i].2) Y G9 O hp (by simp; omega) ((SS (k := 1) hi2 dQ).trans Y)) (.m Y kQ (.c func174 [_] (IL l[i].2 ?hb26)) O ?_))))))
  case hb26 => omega
  refine D.kv Y (.concat Y Y (by rw [length_append]; omega)) (.kv Y (.assign Y) (.ph (.fin (.blk_n (.then_n (.region (.m Y (.q (.add Y Y om) Y (.an Y ?_)))))))))
  exact .rk ((i + 1, t ++ Bc l[i].1 ++ Cs l[i].2)) (⟨by dsimp only; omega, by dsimp only; rw [Gm JN hi2, ht]; unfold JN; simp only [append_assoc]⟩) (by dsimp only; omega) O
 have hie : i = l.length := by omega
 have hfin : t = H1 l := by rw [ht, hie, take_length]; rfl
 subst hfin
 refine .xe (.sm Y (.an Y (.ret ?_)))
 exact .vv
theorem KQ (y : Pt) (p : HP) (hy : ZM p y) (hl : (Fi y).length ≤ 70368744100000) (hn : y.acl.length ≤ 1048576) : Fn prog 146 #[.agg (C5 y).toArray] [p] fun v L => v = AU (Fi y) ∧ L = [p] := by
 refine Fn.intro func146 Y Y fun F W => ?_
 have hpl := OH y
 have hiy := hy.i
 refine .sr (.oq (.box Y) ?_)
 rintro v L' ⟨b1, rfl, rfl⟩
 refine .a Y (.nil (.ptCast (b := b1) (l' := C5 y) O (by exact rfl) (.then_n (.seq (.draw [21, 22] [[0, 1, 2, 3, 4, 5, 6, 7, 8, 9, 10, 11, 12, 13, 14, 15, 16, 17, 18, 19, 20, 21, 22], [23, 24]] mixed kQ (.go [Ar b1 _ _, p] O (.k Y (.fieldAddr Y Nv) (.k Y (.ld Y AF) (.m Y kQ (.c func114 [_] (Gw y.kind hiy.kind)) O ?_)))))))))
 refine D.k Y (.fieldAddr Y OW) (.k Y (.ld Y G9) (.m Y kQ (.c func174 [_] (IL y.path om)) O ?_))
 refine D.k Y (.concat Y Y (by simp only [length_append, Cs] at *; omega)) (.k Y (.fieldAddr Y Ng) (.k Y (.ld Y G9) (.m Y kQ (.c func174 [_] (IL y.data om)) O ?_)))
 refine D.k Y (.concat Y Y (by simp only [length_append, Cs] at *; omega)) (.k Y (.fieldAddr Y OF) (.k Y (.ld Y Yp) (.m Y kQ (.c func175 [_] (QU y.aclV y.acl p hy.acl hiy.acl om hn)) O ?_)))
 refine D.k Y (.concat Y Y (by simp only [length_append, Cs] at *; omega)) (.kv Y (.fieldAddr Y Oc) (.kv Y (.ld Y AF) (.kv Y (.fieldAddr Y OK) (.kv Y (.ld Y AF) (.kv Y (.fieldAddr Y Nc) (.kv Y (.ld Y Bj) (.hh Y (.buildSlice1 (vs := [_, _, _]) BC Fk Y Y Y Y Y dQ) ?_)))))))
 rintro v L' ⟨b2, rfl, rfl⟩
 refine D.hh Y (.call func94 Y Y (vs := [_]) Y (J3 _ [y.own, y.num, y.err] (Ar b2 (Aq [y.own, y.num, y.err]) 3) (fun h hp => AE (HI hp Y)) (fun n hn => by simp only [mem_cons, not_mem_nil, or_false] at hn; rcases hn with rfl | rfl | rfl; exact hiy.own; exact hiy.num; exact hiy.err) (by simp))) ?_
 rintro v L' ⟨rfl, rfl⟩
 refine D.ph (.g0 (.kv Y (.concat Y Y (by simp only [length_append, Cs] at *; omega)) (.kv Y (.assign Y) (.pf (.ret ?_)))))
 have hr : Bc y.kind ++ Cs y.path ++ Cs y.data ++ H1 y.acl ++ [y.own, y.num, y.err].flatMap Bc = Fi y := by unfold Fi; simp only [append_assoc]
 rw [hr]
 exact .vv
theorem Rq (y : Pt) (l : List Pt) (p : HP) (hy : ZM p y) (hs : ∀ h : Hp, p h → B5 8 h y.subsV l.length (l.flatMap C5)) (hi : ∀ z ∈ l, ZM p z ∧ z.acl.length ≤ 1048576) (hl : (Fi y).length + (EP l).length ≤ 70368744100000) (hn : y.acl.length ≤ 1048576) (hln : l.length ≤ 1048576) : Fn prog 95 #[.agg (C5 y).toArray] [p] fun v L => v = AU (Fi y ++ EP l) ∧ L = [p] := by
 refine Fn.intro func95 Y Y fun F W => ?_
 have hsl : (EP l).length = (Bp l.length).length + (l.flatMap Fi).length := by unfold EP; rw [length_append]
 obtain ⟨sv, hsv⟩ : ∃ sv, y.subsV = sv := ⟨_, rfl⟩
 rw [hsv] at hs
 refine .rdAny (p := p) hs O fun aa ca e _ => ?_
 subst e
 have hyc : C5 y = [AA y.kind, AU y.path, AU y.data, y.aclV, AA y.own, AA y.num, AA y.err, .slice aa l.length ca] := by unfold C5; rw [hsv]
 refine .sr (.oq (.box Y) ?_)
 rintro v L' ⟨b1, rfl, rfl⟩
 refine .a Y (.nil (.ptCast (b := b1) (l' := C5 y) O (by exact rfl) (.then_n (.seq (.draw [] [[0, 1, 2, 3, 4, 5, 6, 7]] mixed kQ (.go [Ar b1 _ _, p] O (.kv Y (.loadAs (vs := C5 y) Y IF O (by simp [C5]) Y) (.m Y kQ (.c func146 [_] (KQ y p hy om hn)) O ?_))))))))
 refine D.kv Y (.fieldAddr Y Gk) (.kv Y (.load Y NI O (by rw [hyc]; rfl)) (.kv Y (.slen Y underlying38 Y) (.m Y kQ (.c func115 [_] (Gi l.length om)) O ?_)))
 refine D.kv Y (.concat Y Y om) (.kv Y (.assign Y) (.pf (.seq (.sr (.an Y (.block (.loopK (ι := Nat × Bs) (fun q E => (4, AA q.1) :: (3, AU q.2) :: E) (fun q => []) (fun q => q.1 ≤ l.length ∧ q.2 = Fi y ++ Bp l.length ++ (l.take q.1).flatMap Fi) (fun q => l.length - q.1) (0, Fi y ++ Bp l.length) (ts := [1, 2]) O (⟨Nat.zero_le _, by simp⟩) O O ?_)))))))
 rintro ⟨i, t⟩ ⟨hj, ht⟩
 dsimp only
 dsimp only at hj ht
 have htl : t.length = (Fi y).length + (Bp l.length).length + ((l.take i).flatMap Fi).length := by rw [ht, length_append, length_append]
 refine .seq (.sm Y (.fa Y Gk (.q (.load Y NI O (by rw [hyc]; rfl)) Y (.q (.slen Y underlying38 Y) Y (.ui Y Y Y (.nt (.condD Y (fun h16 => ?_) (fun h16 => ?_))))))))
 ·have hi2 : i < l.length := by omega
  have hfs := JM Fi hi2
  obtain ⟨hz1, hz2⟩ := hi _ (getElem_mem hi2)
  refine .rdShape (p := p) hs O om fun ba oa e => ?_
  subst e
  refine .sk (.seq (.block (.region (.m Y (.fa Y Gk (.q (.load Y NI O (by rw [hyc]; rfl)) Y (.m Y (.q (.indexAddr Y Y Ow om) Y (.q (.loadRdA (sz := 8) (j := i * 8) (k := 8) (p := p) (vs := C5 l[i]) Y IF O hs (by simp) om om (BE (f := C5) (sz := 8) (fun _ _ => Y) hi2)) Y (.cv func146 [_] (KQ l[i] p hz1 om hz2) ?_))))))))))
  refine .q (.concat Y Y om) Y (.a Y (.nil (.blk_n (.then_n (.region (.m Y (.q (.add Y Y om) Y (.an Y ?_))))))))
  exact .rk ((i + 1, t ++ Fi l[i])) (⟨by dsimp only; omega, by dsimp only; rw [Gm Fi hi2, ht]; simp only [append_assoc]⟩) (by dsimp only; omega) O
 have hie : i = l.length := by omega
 have hfin : t = Fi y ++ EP l := by rw [ht, hie, take_length, append_assoc]; rfl
 subst hfin
 refine .xe (.sm Y (.an Y (.ret ?_)))
 exact .vv
theorem K3 (e : En) (p : HP) (he : Uy p e) : Fn prog 58 #[.agg (BX e).toArray] [p] fun v L => v = AU (Bd e) ∧ L = [p] := by
 refine Fn.intro func58 Y Y fun F W => ?_
 have hel := Na e
 have hle := he.len
 have hie := he.w.i
 refine .sr (.oq (.box Y) ?_)
 rintro v L' ⟨b1, rfl, rfl⟩
 refine .a Y (.nil (.ptCast (b := b1) (l' := BX e) O (by exact rfl) (.then_n (.seq (.draw [6, 7] [[0, 1, 2, 3, 4, 5, 8, 9, 6, 7], [10, 11, 12]] mixed kQ (.go [Ar b1 _ _, p] O (.kv Y (.fieldAddr Y EH) (.kv Y (.ld Y AF) (.kv Y (.fieldAddr Y OI) (.kv Y (.ld Y AF) (.kv Y (.fieldAddr Y No) (.kv Y (.ld Y AF) (.k Y (.fieldAddr Y Hj) (.k Y (.loadAs (vs := C5 e.x) Y IF O (by simp [BX, C5]) Y) (.hh Y (.buildSlice1 (vs := [_, _, _]) BC Fk Y Y Y Y Y dQ) ?_)))))))))))))))
 rintro v L' ⟨b2, rfl, rfl⟩
 refine D.hh Y (.call func94 Y Y (vs := [_]) Y (J3 _ [e.zx, e.ses, e.xid] (Ar b2 (Aq [e.zx, e.ses, e.xid]) 3) (fun h hp => AE (HI hp Y)) (fun n hn => by simp only [mem_cons, not_mem_nil, or_false] at hn; rcases hn with rfl | rfl | rfl; exact hie.zx; exact hie.ses; exact hie.xid) (by simp))) ?_
 rintro v L' ⟨rfl, rfl⟩
 refine D.ph (.go [Ar b1 _ _, p] O (.m Y kQ (.c func95 [_] (Rq e.x e.subs p he.w.x he.w.subs (fun z hz => ⟨he.w.sub hz, he.few.2.2 z hz⟩) om he.few.2.1 he.few.1)) O ?_))
 refine D.kv Y (.concat Y Y (by simp only [length_append, Cs] at *; omega)) (.kv Y (.assign Y) (.pf (.ret ?_)))
 have hr : [e.zx, e.ses, e.xid].flatMap Bc ++ (Fi e.x ++ EP e.subs) = Bd e := by unfold Bd; simp only [append_assoc]
 rw [hr]
 exact .vv
theorem Of (st : Rs) : (A6 st).1.length ≤ 4096 := by
 unfold A6 BY
 split
 ·exact Nat.zero_le _
 ·split
  ·rename_i x hx; exact (O1 hx).2
  ·exact Nat.zero_le _
theorem Pc {α : Type} {f : Rn α} {Q : α → Prop} (h : ∀ st, Q (f st).1) : ∀ (n : Nat) (st : Rs), ∀ x ∈ (Aa f n st).1, Q x
 | 0, _, x, hx => by cases hx
 | n + 1, st, x, hx => by
  rcases mem_append.1 (show x ∈ (Aa f n st).1 ++ [(f (Aa f n st).2).1] from hx) with hx | hx
  ·exact Pc h n st x hx
  ·rw [mem_singleton] at hx; subst hx; exact h _
theorem Iy {α : Type} {f : Rn α} {Q : α → Prop} (h : ∀ st, Q (f st).1) (st : Rs) : (Bh f st).1.length ≤ 256 ∧ ∀ x ∈ (Bh f st).1, Q x := by
 refine ⟨?_, Pc h _ _⟩
 show (Aa f (Ic st).1 (Ic st).2).1.length ≤ 256
 rw [I6]; exact N6 st
def AcG (a : Ac) : Prop := I64 a.1 ∧ a.2.length ≤ 4096
structure YD (y : Pt) : Prop where
 kind : I64 y.kind
 own : I64 y.own
 num : I64 y.num
 err : I64 y.err
 path : y.path.length ≤ 4096
 data : y.data.length ≤ 4096
 many : y.acl.length ≤ 256
 acl : ∀ a ∈ y.acl, AcG a
structure EnG (e : En) : Prop where
 zx : I64 e.zx
 ses : I64 e.ses
 xid : I64 e.xid
 x : YD e.x
 many : e.subs.length ≤ 256
 subs : ∀ y ∈ e.subs, YD y
theorem Yt (st : Rs) : AcG (GC st).1 := ⟨Ew _, Of _⟩
theorem Vw (st : Rs) : YD (I9 st).1 :=
 ⟨Ew _, Ew _, Ew _, Ew _, Of _, Of _, (Iy Yt _).1, (Iy Yt _).2⟩
theorem AAK (st : Rs) : EnG (Ub st).1 := ⟨Ew _, Ew _, Ew _, Vw _, (Iy Vw _).1, (Iy Vw _).2⟩
theorem Zd {s : Bs} {e : En} (h : ET s = some e) : EnG e := by
 unfold ET UX at h
 split at h
 ·rename_i q hq; cases h
  have := AAK (some s)
  rw [hq] at this; exact this
 ·cases h
theorem YD.of {y : Pt} (h : YD y.pl) : YD y := ⟨h.kind, h.own, h.num, h.err, h.path, h.data, h.many, h.acl⟩
theorem EnG.of {e : En} (h : EnG e.pl) : EnG e := by
 refine ⟨h.zx, h.ses, h.xid, h.x.of, by have := h.many; unfold En.pl at this; rw [length_map] at this; exact this, fun y hy => (h.subs y.pl ?_).of⟩
 show y.pl ∈ e.subs.map Pt.pl
 exact mem_map_of_mem hy
theorem YD.i {y : Pt} (h : YD y) : Yj y := by
 have hu : FI = 18446744073709551616 := rfl
 refine ⟨h.kind, h.own, h.num, h.err, ?_, ?_, ?_, fun a ha => ⟨(h.acl a ha).1, ?_⟩⟩
 ·have := h.path; omega
 ·have := h.data; omega
 ·have := h.many; omega
 ·have := (h.acl a ha).2; omega
theorem EnG.i {e : En} (h : EnG e) : Wj e := by
 have hu : FI = 18446744073709551616 := rfl
 exact ⟨h.zx, h.ses, h.xid, h.x.i, by have := h.many; omega, fun y hy => (h.subs y hy).i⟩
theorem Nn {α : Type} {f : α → Bs} {c : Nat} : ∀ {l : List α}, (∀ x ∈ l, (f x).length ≤ c) → (l.flatMap f).length ≤ l.length * c
 | [], _ => by simp
 | y :: l, h => by
  have h1 := h y (mem_cons_self ..)
  have h2 := Nn (l := l) (f := f) (fun x hx => h x (mem_cons_of_mem _ hx))
  rw [flatMap_cons, length_append, length_cons, Nat.add_mul]; omega
theorem PG {n : Nat} (h : n ≤ 65536) : (Bp n).length ≤ 10 := DB (by have hu : FI = 18446744073709551616 := rfl; omega)
theorem QO {y : Pt} (h : YD y) : (Fi y).length ≤ 1061966 := by
 have h1 := Cm h.kind
 have h2 := PG (n := y.path.length) (by have := h.path; omega)
 have h3 := PG (n := y.data.length) (by have := h.data; omega)
 have h4 := PG (n := y.acl.length) (by have := h.many; omega)
 have h5 := Cm h.own
 have h6 := Cm h.num
 have h7 := Cm h.err
 have h8 := Nn (f := JN) (c := 4116) (l := y.acl) (fun a ha => by
  have g1 := Cm (h.acl a ha).1
  have g2 := (h.acl a ha).2
  have g3 := PG (n := a.2.length) om
  unfold JN Cs; rw [length_append, length_append]; omega)
 have h9 := h.path
 have h10 := h.data
 have h11 : y.acl.length * 4116 ≤ 256 * 4116 := Nat.mul_le_mul_right _ h.many
 rw [OH]
 unfold H1
 rw [length_append]
 simp only [flatMap_cons, flatMap_nil, length_append, length_nil]
 omega
theorem VB {e : En} (h : EnG e) : (Bd e).length ≤ 1073741824 := by
 have h1 := Cm h.zx
 have h2 := Cm h.ses
 have h3 := Cm h.xid
 have h4 := QO h.x
 have h5 := Nn (f := Fi) (c := 1061966) (l := e.subs) (fun y hy => QO (h.subs y hy))
 have h6 := PG (n := e.subs.length) (by have := h.many; omega)
 have h7 : e.subs.length * 1061966 ≤ 256 * 1061966 := Nat.mul_le_mul_right _ h.many
 rw [Na]
 unfold EP
 rw [length_append]
 simp only [flatMap_cons, flatMap_nil, length_append, length_nil]
 omega
theorem Nh {α : Type} {f : α → HP} : ∀ {l : List α} {x : α} {h : Hp}, x ∈ l → Aj f l h → ∃ h1, (∀ b o, h1 b = some o → h b = some o) ∧ f x h1
 | y :: l, x, h, hx, hp => by
  have hq := K5 hp
  rcases mem_cons.1 hx with rfl | hx
  ·exact AZ hq
  ·obtain ⟨h1, a1, q1⟩ := AZ (C8 (List.Perm.swap _ _ _) hq)
   obtain ⟨h2, a2, q2⟩ := Nh hx q1
   exact ⟨h2, fun b o hb => a1 b o (a2 b o hb), q2⟩
 | [], _, _, hx, _ => by cases hx
theorem YP {e : En} {h : Hp} (hp : entR e h) : B5 2 h e.x.aclV e.x.acl.length (e.x.acl.flatMap Il) := by
 obtain ⟨h1, a1, q1⟩ := AZ hp
 exact Bm (AE q1) a1
theorem WR {e : En} {h : Hp} (hp : entR e h) : B5 8 h e.x.subsV e.subs.length (e.subs.flatMap C5) := by
 obtain ⟨h1, a1, q1⟩ := AZ (C8 (List.Perm.swap _ _ _) hp)
 exact Bm (AE q1) a1
theorem Uu {e : En} {h : Hp} (hp : entR e h) {y : Pt} (hy : y ∈ e.subs) : B5 2 h y.aclV y.acl.length (y.acl.flatMap Il) := by
 have hq : CG [Aj KR e.subs, KR e.x, Ye e] h := C8 (by
  refine List.Perm.trans (List.Perm.cons _ (List.Perm.swap _ _ _)) (List.Perm.swap _ _ _)) hp
 obtain ⟨h1, a1, q1⟩ := AZ hq
 obtain ⟨h2, a2, q2⟩ := Nh hy q1
 exact Bm (AE q2) (fun b o hb => a1 b o (a2 b o hb))
theorem AAZ {es : List En} {e : En} (he : e ∈ es) (hk : Sg e) (hg : EnG e) : Uy (Aj entR es) e := by
 have hr : ∀ {h : Hp}, Aj entR es h → ∃ h1, (∀ b o, h1 b = some o → h b = some o) ∧ entR e h1 := fun hp => Nh he hp
 have h256 : ∀ {n : Nat}, n ≤ 256 → n ≤ 1048576 := fun h => Nat.le_trans h dQ
 refine ⟨⟨hg.i, fun h hp => ?_, fun h hp => ?_, fun y hy h hp => ?_⟩, VB hg, ⟨h256 hg.many, h256 hg.x.many, fun y hy => h256 (hg.subs y hy).many⟩, hk.x, fun y hy => ⟨(hk.subs y hy).1, by rw [(hk.subs y hy).2]; rfl⟩⟩
 ·obtain ⟨h1, a1, q1⟩ := hr hp; exact Bm (YP q1) a1
 ·obtain ⟨h1, a1, q1⟩ := hr hp; exact Bm (WR q1) a1
 ·obtain ⟨h1, a1, q1⟩ := hr hp; exact Bm (Uu q1 hy) a1
section
variable {W : World} {n : Nat} {ds : List Deferred} {E : By} {L R : List HP} {X : Act → World → Prop}
end
theorem XB {s : Bs} {e : En} (h : ET s = some e.pl) : Bd e = s := by
 rw [← OM]; exact (Ue h).1.symm
def YC (Λ : Lg) (z : Int) : List Bs := ((Λ.ents.zip Λ.zxs).filter fun q => decide (q.2 > z)).map (·.1)
theorem MH : ∀ {es : List Bs} {zs : List Int} {b : Int}, Cf b es zs → ∀ q ∈ es.zip zs, ∃ e, ET q.1 = some e ∧ e.zx = q.2
 | [], [], _, _, q, hq => by cases hq
 | s :: t, z :: u, _, h, q, hq => by
  rw [zip_cons_cons] at hq
  rcases mem_cons.1 hq with rfl | hq
  ·exact h.1
  ·exact MH h.2.2.2 q hq
 | [], _ :: _, _, h, _, _ => h.elim
 | _ :: _, [], _, h, _, _ => h.elim
theorem HT {Λ : Lg} (h : Iq Λ) {z : Int} {es : List En} (he : es.map En.pl = Hk Λ z) : es.map Bd = YC Λ z ∧ ∀ e ∈ es, EnG e := by
  have key : ∀ {l : List (Bs × Int)} {es : List En}, (∀ q ∈ l, ∃ e, ET q.1 = some e ∧ e.zx = q.2) → es.map En.pl = l.map IH → es.map Bd = l.map (·.1) ∧ ∀ e ∈ es, EnG e := by
    intro l
    induction l with
    | nil => intro es _ h; cases es with
      | nil => exact ⟨rfl, fun _ h => by cases h⟩
      | cons e es => simp at h
    | cons q l ih =>
      intro es hq h
      cases es with
      | nil => simp at h
      | cons e es =>
        rw [map_cons, map_cons, List.cons.injEq] at h
        obtain ⟨i1, i2⟩ := ih (fun x hx => hq x (mem_cons_of_mem _ hx)) h.2
        obtain ⟨g, hg, -⟩ := hq q (mem_cons_self ..)
        have hpl : ET q.1 = some e.pl := by rw [h.1]; unfold IH; rw [hg]; rfl
        refine ⟨by rw [map_cons, map_cons, i1, XB hpl], fun x hx => ?_⟩
        rcases mem_cons.1 hx with rfl | hx
        · exact (Zd hpl).of
        · exact i2 x hx
  exact key (fun q hq => MH h.rows q ((mem_filter.1 hq).1)) he
theorem N7 {j : Nat} (h : j < 1000) : (zt j).tdiv 4294967296 = if j = 0 then 0 else if j ≤ 4 then 1 else 2 := by
 unfold zt
 split
 ·rfl
 ·split
  ·rw [Int.tdiv_eq_ediv_of_nonneg om]; omega
  ·rw [Int.tdiv_eq_ediv_of_nonneg om]; omega
theorem SU {j : Nat} (h : j < 1000) : zt j / 4294967296 = if j = 0 then 0 else if j ≤ 4 then 1 else 2 := by
 unfold zt
 split
 ·rfl
 ·split <;> omega
theorem Gc {H : List En} (hH : Hz H) (a c : Int) : ∀ n, 4 + n ≤ H.length → A3 (BO (H.take (4 + n)) a c) = if n = 0 then [zt 4] else [zt 4, zt (4 + n)]
 | 0, h => by
  rw [MM (k := 4) (Nat.le_refl _) (hH.take 4) (by rw [length_take]; omega)]
  rfl
 | n + 1, h => by
  have ih := Gc hH a c n om
  have hfew := hH.few
  have hz := hH.zx (4 + n) om
  have e1 : (0 : Int) :: (H.take (4 + (n + 1))).map (·.zx) = ((0 : Int) :: (H.take (4 + n)).map (·.zx)) ++ [zt (4 + n + 1)] := by
   rw [show 4 + (n + 1) = 4 + n + 1 by omega, take_succ_eq_append_getElem (show 4 + n < H.length by omega), map_append, map_singleton, hz]; rfl
  unfold A3 at ih ⊢
  show ((0 : Int) :: (H.take (4 + (n + 1))).map (·.zx)).foldl Ba [] = _
  have ih2 : ((0 : Int) :: (H.take (4 + n)).map (·.zx)).foldl Ba [] = if n = 0 then [zt 4] else [zt 4, zt (4 + n)] := ih
  rw [e1, foldl_append, ih2, if_neg (Nat.succ_ne_zero n)]
  have hne : zt (4 + n + 1) ≠ 0 := by have := IB (show 0 < 4 + n + 1 by omega); have h0 : zt 0 = 0 := rfl; omega
  show Ba _ (zt (4 + n + 1)) = _
  unfold Ba
  rw [if_neg hne]
  have hd : zt (4 + n + 1) / 4294967296 = 2 := by rw [SU om, if_neg om, if_neg om]
  by_cases e : n = 0
  ·subst e
   rw [if_pos rfl, if_neg (by
    rintro ⟨-, g⟩
    rw [hd] at g
    have : ([zt 4] : List Int).getLastD 0 / 4294967296 = 1 := by decide
    omega)]
   rfl
  ·rw [if_neg e, if_pos ⟨by simp, by
    rw [hd]
    show zt (4 + n) / 4294967296 = 2
    rw [SU om, if_neg om, if_neg om]⟩]
   rfl
def Kh (ms fs : List Int) : Int := ms.foldl (fun c m => fs.foldl (fun c f => if f.tdiv 4294967296 = m.tdiv 4294967296 then max c (min f m) else c) c) 0
theorem KG {H : List En} (hH : Hz H) (h4 : 4 ≤ H.length) (a c : Int) {k : Nat} (hk : k ≤ 4) : Kh (A3 (BO H a c)) (AS k) = zt k := by
 have hfew := hH.few
 have hm := Gc hH a c (H.length - 4) om
 rw [show 4 + (H.length - 4) = H.length by omega, take_length] at hm
 rw [hm]
 unfold AS
 by_cases e : k = 0
 ·rw [if_pos e, e]
  split <;> rfl
 ·rw [if_neg e]
  have h1 : (zt k).tdiv 4294967296 = (zt 4).tdiv 4294967296 := by rw [N7 om, N7 om, if_neg e, if_pos hk]; rfl
  have h2 := KD hk
  have h3 := Co k
  have hs : max 0 (min (zt k) (zt 4)) = zt k := by omega
  by_cases g : H.length - 4 = 0
  ·rw [if_pos g]
   show (if (zt k).tdiv 4294967296 = (zt 4).tdiv 4294967296 then max 0 (min (zt k) (zt 4)) else 0) = _
   rw [if_pos h1, hs]
  ·rw [if_neg g]
   have h5 : ¬ (zt k).tdiv 4294967296 = (zt H.length).tdiv 4294967296 := by
    rw [N7 om, N7 om, if_neg e, if_pos hk, if_neg om, if_neg om]; decide
   show (if (zt k).tdiv 4294967296 = (zt H.length).tdiv 4294967296 then max (if (zt k).tdiv 4294967296 = (zt 4).tdiv 4294967296 then max 0 (min (zt k) (zt 4)) else 0) (min (zt k) (zt H.length)) else (if (zt k).tdiv 4294967296 = (zt 4).tdiv 4294967296 then max 0 (min (zt k) (zt 4)) else 0)) = _
   rw [if_neg h5, if_pos h1, hs]
theorem L9 : ∀ (K : List En) (k j : Nat), (∀ i (h : i < K.length), K[i].zx = zt (k + i + 1)) → (∀ e ∈ K, Vv e) → (((K.map Bd).zip (K.map (·.zx))).filter fun q => decide (q.2 > zt j)).map IH = (K.drop (j - k)).map En.pl
 | [], _, _, _, _ => by simp
 | e :: K, k, j, hz, ho => by
  have h0 := hz 0 (by simp)
  have hr : ∀ i (h : i < K.length), K[i].zx = zt (k + 1 + i + 1) := fun i h => by
   have := hz (i + 1) (by simpa using h)
   rw [getElem_cons_succ] at this
   rw [this]; congr 1; omega
  have ih := L9 K (k + 1) j hr (fun x hx => ho x (mem_cons_of_mem _ hx))
  have he := (ho e (mem_cons_self ..)).got
  rw [map_cons, map_cons, zip_cons_cons, filter_cons]
  have h0 : e.zx = zt (k + 1) := by simpa using h0
  by_cases g : j ≤ k
  ·have hlt := IB (show j < k + 1 by omega)
   rw [if_pos (by simp only [decide_eq_true_eq]; omega), map_cons, ih, show j - (k + 1) = 0 by omega, show j - k = 0 by omega]
   show IH (Bd e, e.zx) :: _ = _
   unfold IH
   rw [he]; rfl
  ·have hle := KD (show k + 1 ≤ j by omega)
   rw [if_neg (by simp only [decide_eq_true_eq]; omega), ih, show j - k = (j - (k + 1)) + 1 by omega, drop_succ_cons]
theorem Eh {H : List En} (hH : Hz H) (a c : Int) (j : Nat) : Hk (BO H a c) (zt j) = (H.drop j).map En.pl := by
 have := L9 H 0 j (fun i h => by rw [hH.zx i h]; congr 1; omega) hH.ok
 rw [Nat.sub_zero] at this
 exact this
section
variable {P : Program} {W : World} {n : Nat} {ds : List Deferred} {E : By} {L : List HP} {Q : Exit → Act → World → Prop}
theorem G.scope {c : Code} (h : G W n ds E L (c.wp P (Exit.noGoto Q))) : G W n ds E L ((Code.scope c).wp P Q) := fun a w he hk hs => wp_scope_straight (h a w he hk hs)
theorem G.label {l : Nat} (h : G W n ds E L (Q .normal)) : G W n ds E L ((Code.label l).wp P Q) := fun a w he hk hs => wp_label (h a w he hk hs)
theorem G.ng_n (h : G W n ds E L (Q .normal)) : G W n ds E L (Exit.noGoto Q .normal) := h
end
def MW (k e z : Int) (ev : Value) (es : List En) : Ms := ⟨k, e, z, 0, 0, BK, [], ev, es, AA 0, AA 0, AU [], AU [], BK, AA 0, AA 0, .bool false, BK, BK, BK⟩
abbrev FK (k e z : Int) : Ms := MW k e z BK []
theorem CT {k e z : Int} {ev : Value} {es : List En} (hv : AD ev = true) : ∀ v ∈ BF (MW k e z ev es), AD v = true := by
 intro v h
 simp only [BF, MW, mem_cons, not_mem_nil, or_false] at h
 rcases h with h | h | h | h | h | h | h | h | h | h | h | h | h | h | h | h | h | h | h <;> subst h <;> first | rfl | assumption
theorem V0 {q : HP} {k e z : Int} {ev : Value} {es : List En} (hk : I64 k) (he : I64 e) (hz : I64 z) (hv : AD ev = true) (hl : ∀ h : Hp, q h → B5 11 h ev es.length (es.flatMap BX)) (hn : es.length ≤ 1048576) (hx : ∀ x ∈ es, MU q x) : Or q (MW k e z ev es) :=
 ⟨hk, he, hz, by show I64 0; decide, CT hv, Nat.zero_le _, hl, hn, hx⟩
theorem SZ {q : HP} {k e z : Int} (hk : I64 k) (he : I64 e) (hz : I64 z) : Or q (FK k e z) := V0 hk he hz rfl (fun _ _ => .inl ⟨rfl, rfl, _, _, rfl⟩) (Nat.zero_le _) (fun _ h => by cases h)
theorem FU {j : Nat} (h : j ≤ 1000) : I64 (zt j) := by
 unfold zt
 split
 ·exact ⟨by decide, by decide⟩
 ·split
  ·exact ⟨by omega, by omega⟩
  ·exact ⟨by omega, by omega⟩
def Yq (id : Int) : Sv := ⟨id, 0, 0, 0, 0, -1099511627776, false, []⟩
def GK (k : Nat) : List O8 := (List.range k).map fun j : Nat => (Yq ((j : Int) + 1), BK)
def L0 (n : Nat) : La := ⟨0, 0, 4, (List.range n).map fun j : Nat => Yq ((j : Int) + 1)⟩
theorem TZ (n : Nat) : (GK n).map Prod.fst = (L0 n).sv := by
 unfold GK L0
 rw [map_map]; rfl
theorem W0 (n : Nat) : H5 (GK n) (L0 n).sv := ⟨TZ n, fun r hr => by
 obtain ⟨j, -, rfl⟩ := mem_map.1 hr
 rfl⟩
theorem Rx (k : Nat) : GK (k + 1) = GK k ++ [(Yq ((k : Int) + 1), BK)] := by
 unfold GK
 rw [range_succ, map_append]; rfl
theorem NZ (n : Nat) : (L0 n).sv.length = n := by simp [L0]
theorem K0 {α : Type} {f : α → HP} : ∀ {l : List α}, (∀ x ∈ l, ∀ h : Hp, f x h) → ∀ h : Hp, Aj f l h
 | [], _, h => Iv h
 | x :: l, hf, h => Fq ⟨fun _ => none, h, fun _ => .inl rfl, fun _ _ e => (by cases e), fun _ _ e => e, hf x (mem_cons_self ..) _, ⟨h, fun _ => none, fun _ => .inr rfl, fun _ _ e => e, fun _ _ e => (by cases e), K0 (fun y hy => hf y (mem_cons_of_mem _ hy)) h, trivial⟩⟩
theorem Xl (n : Nat) : ∀ h : Hp, Aj HR (GK n) h := K0 fun x hx h => by
 obtain ⟨j, -, rfl⟩ := mem_map.1 hx
 exact Xs _ rfl h
theorem FL {r : O8} (h : AD r.2 = true) : ∀ v ∈ Cb r, AD v = true := by
 intro v hv
 simp only [Cb, mem_cons, not_mem_nil, or_false] at hv
 rcases hv with e | e | e | e | e | e | e | e <;> subst e <;> first | rfl | assumption
theorem NC {x : Int × Ms} (h : ∀ v ∈ BF x.2, AD v = true) : ∀ v ∈ Ik x, AD v = true := by
 intro v hv
 rcases mem_cons.1 hv with rfl | hv
 ·rfl
 ·exact h v hv
theorem S1 (sv : List Sv) (st : Int) (m : Ms) {i : Nat} (hi : i < sv.length) : CQ (sv.take (i + 1)) st m = CQ (sv.take i) st m ++ if st ≤ sv[i].st then [(sv[i].id, m)] else [] := by
 unfold CQ
 rw [take_succ_eq_append_getElem hi, filter_append, map_append]
 congr 1
 by_cases e : st ≤ sv[i].st <;> simp [e]
theorem OY (sv : List Sv) (st : Int) {i : Nat} (hi : i < sv.length) : Eu (sv.take (i + 1)) st = Eu (sv.take i) st + if sv[i].st = st ∧ (st = 3 → sv[i].cnt = true) then 1 else 0 := by
 unfold Eu
 rw [take_succ_eq_append_getElem hi, filter_append, length_append]
 congr 1
 by_cases e : sv[i].st = st
 ·by_cases g : st = 3
  ·by_cases c : sv[i].cnt = true <;> simp [e, g, c]
  ·simp [e, g]
 ·simp [e]
theorem FB {rows : List O8} {i k : Nat} {v : Value} {r : O8} (hi : i < rows.length) (hk : k < 8) (h : (Cb rows[i]).set k v = Cb r) : (rows.flatMap Cb).set (i * 8 + k) v = (rows.set i r).flatMap Cb := Qp (fun _ => rfl) hi hk h
theorem EW {rows : List O8} {i : Nat} (hi : i < rows.length) {r : O8} (h : HR r = HR rows[i]) : Aj HR rows = Aj HR (rows.set i r) := by
 unfold Aj
 rw [map_set, h]
 have : HR rows[i] = (rows.map HR)[i]'(by rw [length_map]; exact hi) := by rw [getElem_map]
 rw [this, set_getElem_self]
theorem NM {z : Int} (h : I64 z) : I64 (z.tdiv 4294967296) := by
 obtain ⟨h1, h2⟩ := h
 by_cases g : 0 ≤ z
 ·rw [Int.tdiv_eq_ediv_of_nonneg g]; exact ⟨by omega, by omega⟩
 ·have : z.tdiv 4294967296 = -((-z).tdiv 4294967296) := by rw [Int.neg_tdiv, Int.neg_neg]
  rw [this, Int.tdiv_eq_ediv_of_nonneg om]
  exact ⟨by omega, by omega⟩
theorem Ll {H : List En} (hH : Hz H) (h4 : 4 ≤ H.length) (a c : Int) : ∀ z ∈ A3 (BO H a c), I64 z := by
 have hfew := hH.few
 have hm := Gc hH a c (H.length - 4) om
 rw [show 4 + (H.length - 4) = H.length by omega, take_length] at hm
 rw [hm]
 intro z hz
 split at hz
 ·rw [mem_singleton] at hz; rw [hz]; exact FU om
 ·rcases mem_cons.1 hz with rfl | hz
  ·exact FU om
  ·rw [mem_singleton] at hz; rw [hz]; exact FU om
def G5 (m c : Int) (f : Int) : Int := if f.tdiv 4294967296 = m.tdiv 4294967296 then max c (min f m) else c
def HG (ms fs : List Int) (i : Nat) : Int := (ms.take i).foldl (fun c m => fs.foldl (G5 m) c) 0
theorem Wu {ms fs : List Int} {i : Nat} (hi : i < ms.length) : HG ms fs (i + 1) = fs.foldl (G5 ms[i]) (HG ms fs i) := by
 unfold HG
 rw [take_succ_eq_append_getElem hi, foldl_append]; rfl
theorem WG {fs : List Int} {m c : Int} {k : Nat} (hk : k < fs.length) : (fs.take (k + 1)).foldl (G5 m) c = G5 m ((fs.take k).foldl (G5 m) c) fs[k] := by
 rw [take_succ_eq_append_getElem hk, foldl_append]; rfl
theorem YU (ms fs : List Int) : HG ms fs ms.length = Kh ms fs := by
 unfold HG
 rw [take_length]; rfl
theorem SX (sv : List Sv) (st : Int) : Eu sv st ≤ sv.length := length_filter_le _ _
theorem Zs {j k : Nat} (h : zt j = zt k) : j = k := by
 rcases Nat.lt_trichotomy j k with g | g | g
 ·have := IB g; omega
 ·exact g
 ·have := IB g; omega
theorem EK {rows : List O8} {i k : Nat} {v : Value} {r1 r2 : O8} (hi : i < rows.length) (hk : k < 8) (h : (Cb r1).set k v = Cb r2) : ((rows.set i r1).flatMap Cb).set (i * 8 + k) v = (rows.set i r2).flatMap Cb := by
 have h1 := FB (rows := rows.set i r1) (i := i) (k := k) (v := v) (r := r2) (by simpa using hi) hk (by rw [getElem_set_self]; exact h)
 rw [set_set] at h1
 exact h1
theorem V3 (a b c : HP) : CI b (CG [a, b, c]) := fun w hw => by
 obtain ⟨h1, h2, _, a1, a2, _, h3⟩ := hw
 obtain ⟨h4, e4, p4⟩ := AZ h3
 exact ⟨h4, fun b o e => a2 b o (e4 b o e), p4⟩
def J4 (v : Value) (es : List En) (q : HP) : HP := CG [AV 42 11 v es.length (es.flatMap BX), Aj entR es, q]
theorem Kq (v : Value) (es : List En) (q : HP) : CI q (J4 v es q) := CI.more [_, _] q
theorem Vi {v : Value} {es : List En} {q : HP} : ∀ h : Hp, J4 v es q h → B5 11 h v es.length (es.flatMap BX) := fun h hp => by
 obtain ⟨h1, e1, p1⟩ := AZ hp
 exact Bm (AE p1) e1
theorem W9 {v : Value} {es : List En} {q : HP} {e : En} (he : e ∈ es) (hk : Sg e) (hg : EnG e) : MU (J4 v es q) e :=
 MU.grow (q := Aj entR es) ⟨AAZ he hk hg, fun y hy => ⟨none, 0, 0, (hk.subs y hy).2⟩⟩ (V3 _ _ _)
theorem WS {H : List En} (hH : Hz H) {a c : Int} (hW : Iq (BO H a c)) {k : Nat} (hk : k ≤ 4) {ae : Option Addr} {ce : Nat} {es : List En} {q : HP} (hes : es.map En.pl = Hk (BO H a c) (zt k)) (hek : ∀ e ∈ es, Sg e) :
  Ka H (J4 (.slice ae es.length ce) es q) (MW 4 2 (zt k) (.slice ae es.length ce) es) (.sync (zt k) H.length) := by
 obtain ⟨-, hg⟩ := HT hW hes
 have hpl := hes.trans (Eh hH a c k)
 have hl : es.length ≤ 200 := by
  have := congrArg List.length hpl
  rw [length_map, length_map, length_drop] at this
  have := hH.few
  omega
 refine ⟨V0 dQ dQ (FU om) rfl Vi om (fun e he => W9 he (hek e he) (hg e he)), rfl, rfl, rfl, rfl, Nat.le_refl _, fun j _ hz => ?_⟩
 rw [take_length, ← Zs hz]
 exact hpl
theorem Zv {H : List En} {j : Nat} (hj : j < H.length) (h4 : 4 ≤ j) {e : En} (he : e.pl = H[j].pl) {q : HP} {ev : Value} (hl : ∀ h : Hp, q h → B5 11 h ev 1 (BX e)) (hc : AD ev = true) (hx : MU q e) : Ka H q (MW 7 0 0 ev [e]) (.prop j) :=
 ⟨V0 dQ dQ dQ hc (fun h hp => by have := hl h hp; simpa using this) (by simp) (fun x hx2 => by rw [mem_singleton] at hx2; rw [hx2]; exact hx), rfl, h4, hj, e, rfl, he⟩
theorem AAO {H : List En} {q : HP} : Ka H q (FK 2 2 0) .ep := ⟨SZ dQ dQ dQ, rfl, rfl⟩
theorem AAF {H : List En} {q : HP} {z : Int} (hz : I64 z) : Ka H q (FK 6 0 z) (.up z) := ⟨SZ dQ dQ hz, rfl, rfl⟩
theorem AAA {H : List En} {q : HP} {z : Int} (hz : I64 z) : Ka H q (FK 9 0 z) (.com z) := ⟨SZ dQ dQ hz, rfl, rfl⟩
theorem Zr {H : List En} {q : HP} {z : Int} (hz : I64 z) : Ka H q (FK 10 0 z) (.ping z) := ⟨SZ dQ dQ hz, rfl, rfl⟩
def Cg {α : Type} (f : α → α) (l : List α) (i : Nat) : List α := (l.take i).map f ++ l.drop i
theorem IT {α : Type} (f : α → α) (l : List α) : Cg f l 0 = l := by unfold Cg; simp
theorem D0 {α : Type} (f : α → α) (l : List α) (i : Nat) : (Cg f l i).length = l.length := by
 unfold Cg
 rw [length_append, length_map, length_take, length_drop]; omega
theorem Jt {α : Type} (f : α → α) (l : List α) : Cg f l l.length = l.map f := by unfold Cg; simp
theorem JG {α : Type} (f : α → α) {l : List α} {i : Nat} (hi : i < l.length) (h : i < (Cg f l i).length) : (Cg f l i)[i] = l[i] := by
 have e : (Cg f l i)[i]? = some l[i] := by
  unfold Cg
  rw [List.getElem?_append_right (by rw [length_map, length_take]; omega), List.getElem?_drop, length_map, length_take, show i + (i - min i l.length) = i by omega, List.getElem?_eq_getElem hi]
 rw [List.getElem?_eq_getElem h] at e
 exact Option.some.inj e
theorem GW {α : Type} (f : α → α) {l : List α} {i : Nat} (hi : i < l.length) : Cg f l (i + 1) = (Cg f l i).set i (f l[i]) := by
 unfold Cg
 have hl : ((l.take i).map f).length = i := by rw [length_map, length_take]; omega
 rw [take_succ_eq_append_getElem hi, map_append, map_singleton, drop_eq_getElem_cons hi, append_assoc, set_append_right _ _ om, hl, Nat.sub_self]
 rfl
theorem Gd {α : Type} (f : α → α) {l : List α} {i : Nat} (hi : i < l.length) (h : f l[i] = l[i]) : Cg f l (i + 1) = Cg f l i := by
 rw [GW f hi, h]
 have h2 : i < (Cg f l i).length := by rw [D0]; exact hi
 rw [← JG f hi h2, set_getElem_self]
def WA (s : Sv) : Sv := if s.st = 1 then s.to 2 else s
def E0 (L : La) (i : Nat) : La := ⟨1, L.com, L.h, Cg WA L.sv i⟩
def Ep (sv : List Sv) (i : Nat) : Lo := ((sv.take i).filter fun s => decide (s.st = 1)).map fun s => (s.id, FK 2 2 0)
theorem Wo (L : La) : E0 L L.sv.length = (Fh L).1 := by unfold E0; rw [Jt]; rfl
theorem Kw (L : La) {i : Nat} (hi : i < L.sv.length) (h : L.sv[i].st = 1) : E0 L (i + 1) = (E0 L i).set i (L.sv[i].to 2) := by
 unfold E0 La.set
 rw [GW WA hi, show WA L.sv[i] = L.sv[i].to 2 from if_pos h]
theorem XT (L : La) {i : Nat} (hi : i < L.sv.length) (h : ¬ L.sv[i].st = 1) : E0 L (i + 1) = E0 L i := by
 unfold E0
 rw [Gd WA hi (if_neg h)]
theorem XF {sv : List Sv} {i : Nat} {q : Sv → Bool} {f : Sv → Int × Ms} (hi : i < sv.length) (h : q sv[i] = true) : ((sv.take (i + 1)).filter q).map f = ((sv.take i).filter q).map f ++ [f sv[i]] := by
 rw [take_succ_eq_append_getElem hi, filter_append, map_append, filter_cons, if_pos h]; rfl
theorem ZH {sv : List Sv} {i : Nat} {q : Sv → Bool} {f : Sv → Int × Ms} (hi : i < sv.length) (h : q sv[i] = false) : ((sv.take (i + 1)).filter q).map f = ((sv.take i).filter q).map f := by
 rw [take_succ_eq_append_getElem hi, filter_append, map_append, filter_cons, if_neg (by rw [h]; decide)]; simp
theorem Wx {sv : List Sv} {i : Nat} {q : Sv → Bool} {f : Sv → Int × Dn} (hi : i < sv.length) (h : q sv[i] = true) : ((sv.take (i + 1)).filter q).map f = ((sv.take i).filter q).map f ++ [f sv[i]] := by
 rw [take_succ_eq_append_getElem hi, filter_append, map_append, filter_cons, if_pos h]; rfl
theorem XL {sv : List Sv} {i : Nat} {q : Sv → Bool} {f : Sv → Int × Dn} (hi : i < sv.length) (h : q sv[i] = false) : ((sv.take (i + 1)).filter q).map f = ((sv.take i).filter q).map f := by
 rw [take_succ_eq_append_getElem hi, filter_append, map_append, filter_cons, if_neg (by rw [h]; decide)]; simp
theorem QG (sv : List Sv) (i : Nat) : (Ep sv i).length ≤ sv.length := by
 unfold Ep
 rw [length_map]
 exact Nat.le_trans (length_filter_le _ _) (by rw [length_take]; omega)
theorem AAf {H : List En} {q : HP} (L : La) : Gp H q (Ep L.sv L.sv.length) (Fh L).2 := by
 unfold Ep
 rw [take_length]
 exact Gp.all AAO _
def Wg (h : Nat) (s : Sv) : Sv := if s.st = 3 then s.sent (zt h) else s
def EC (L : La) (i : Nat) : La := ⟨2, L.com, L.h, Cg (Wg L.h) L.sv i⟩
def Mi (L : La) (i : Nat) : Ou := ((L.sv.take i).filter fun s => decide (s.st = 3)).map fun s => (s.id, .sync (s.marks.headD 0) L.h)
theorem Pu (L : La) (i : Nat) : (Mi L i).length ≤ L.sv.length := by
 unfold Mi
 rw [length_map]
 exact Nat.le_trans (length_filter_le _ _) (by rw [length_take]; omega)
theorem Wm (L : La) : EC L L.sv.length = (Cc L).1 := by unfold EC; rw [Jt]; rfl
theorem O7 (L : La) : Mi L L.sv.length = (Cc L).2 := by unfold Mi; rw [take_length]; rfl
theorem Up (L : La) {i : Nat} (hi : i < L.sv.length) (h : L.sv[i].st = 3) : EC L (i + 1) = (EC L i).set i (L.sv[i].sent (zt L.h)) := by
 unfold EC La.set
 rw [GW (Wg L.h) hi, show Wg L.h L.sv[i] = L.sv[i].sent (zt L.h) from if_pos h]
theorem XX (L : La) {i : Nat} (hi : i < L.sv.length) (h : ¬ L.sv[i].st = 3) : EC L (i + 1) = EC L i := by
 unfold EC
 rw [Gd (Wg L.h) hi (if_neg h)]
def FS (L : La) (i : Nat) : List Int := zt L.h :: (L.sv.take i).map (·.ack)
theorem UD (L : La) {i : Nat} (hi : i < L.sv.length) : FS L (i + 1) = FS L i ++ [L.sv[i].ack] := by
 unfold FS
 rw [take_succ_eq_append_getElem hi, map_append]; rfl
theorem VW (L : La) : FS L L.sv.length = BD L := by unfold FS; rw [take_length]; rfl
theorem Mj (L : La) : (BD L).length = L.sv.length + 1 := by unfold BD; rw [length_cons, length_map]
def Ck (l : List Int) : Int := (Bw l).getD (l.length - 1 - l.length / 2) 0
theorem Zp (L : La) {j : Nat} (hj : j = L.sv.length - (L.sv.length + 1) / 2) (h : j < (Bw (BD L)).length) : (Bw (BD L))[j] = Ck (BD L) := by
 unfold Ck
 rw [Mj, getD_eq_getElem?_getD, show L.sv.length + 1 - 1 - (L.sv.length + 1) / 2 = j by omega, List.getElem?_eq_getElem h]; rfl
theorem OQ : ∀ l : List Int, l ≠ [] → Ck l ∈ l := fun l hl => by
 have h1 : 0 < l.length := length_pos_iff.2 hl
 have h2 : l.length - 1 - l.length / 2 < (Bw l).length := by rw [Gs]; omega
 unfold Ck
 rw [getD_eq_getElem?_getD, List.getElem?_eq_getElem h2, Option.getD_some]
 exact Tr.1 (getElem_mem h2)
structure FX (L : La) : Prop where
 ph : 0 ≤ L.ph ∧ L.ph ≤ 3
 h : 4 ≤ L.h ∧ L.h ≤ 200
 n : L.sv.length ≤ 6
 ids : ∀ j (h : j < L.sv.length), L.sv[j].id = (j : Int) + 1
 told : ∀ r ∈ L.sv, r.st = 1 → r.ep = 1
 ans : ∀ r ∈ L.sv, r.st = 3 → ∃ k, k ≤ 4 ∧ r.marks = AS k
 ack : ∀ r ∈ L.sv, 0 ≤ r.ack ∧ r.ack ≤ zt L.h
 bro : ∀ r ∈ L.sv, 0 ≤ r.bro ∧ r.bro ≤ zt L.h
 com : 0 ≤ L.com ∧ L.com ≤ zt L.h
theorem FX.acks {L : La} (h : FX L) : ∀ z ∈ BD L, 0 ≤ z ∧ z ≤ zt L.h := fun z hz => by
 rcases mem_cons.1 hz with rfl | hz
 ·exact ⟨Co _, Int.le_refl _⟩
 ·obtain ⟨s, hs, rfl⟩ := mem_map.1 hz
  exact h.ack s hs
theorem FX.i64 {L : La} (h : FX L) : ∀ z ∈ BD L, I64 z := fun z hz => by
 have h1 := h.acks z hz
 have h2 := FU (j := L.h) (by have := h.h; omega)
 exact ⟨by omega, by have := h2.2; omega⟩
theorem FX.com64 {L : La} (h : FX L) : I64 L.com := by
 have h1 := h.com
 have h2 := FU (j := L.h) (by have := h.h; omega)
 exact ⟨by omega, by have := h2.2; omega⟩
theorem FX.map {L : La} (h : FX L) {ph com : Int} {f : Sv → Sv} (hp : 0 ≤ ph ∧ ph ≤ 3) (hc : 0 ≤ com ∧ com ≤ zt L.h) (hf : ∀ s ∈ L.sv, (f s).id = s.id ∧ ((f s).st = 1 → (f s).ep = 1) ∧ ((f s).st = 3 → ∃ k, k ≤ 4 ∧ (f s).marks = AS k) ∧ (0 ≤ (f s).ack ∧ (f s).ack ≤ zt L.h) ∧ (0 ≤ (f s).bro ∧ (f s).bro ≤ zt L.h)) : FX ⟨ph, com, L.h, L.sv.map f⟩ := by
 have key : ∀ r ∈ L.sv.map f, ∃ s ∈ L.sv, r = f s := fun r hr => by
  obtain ⟨s, hs, e⟩ := mem_map.1 hr
  exact ⟨s, hs, e.symm⟩
 refine ⟨hp, h.h, by show (L.sv.map f).length ≤ 6; rw [length_map]; exact h.n, fun j hj => ?_, fun r hr => ?_, fun r hr => ?_, fun r hr => ?_, fun r hr => ?_, hc⟩
 ·have hj2 : j < L.sv.length := by simpa using hj
  show ((L.sv.map f)[j]'hj).id = _
  rw [getElem_map, (hf _ (getElem_mem hj2)).1]; exact h.ids j hj2
 ·obtain ⟨s, hs, rfl⟩ := key r hr; exact (hf s hs).2.1
 ·obtain ⟨s, hs, rfl⟩ := key r hr; exact (hf s hs).2.2.1
 ·obtain ⟨s, hs, rfl⟩ := key r hr; exact (hf s hs).2.2.2.1
 ·obtain ⟨s, hs, rfl⟩ := key r hr; exact (hf s hs).2.2.2.2
theorem FX.rows {L : La} (h : FX L) {ph com : Int} (hp : 0 ≤ ph ∧ ph ≤ 3) (hc : 0 ≤ com ∧ com ≤ zt L.h) : FX ⟨ph, com, L.h, L.sv⟩ := ⟨hp, h.h, h.n, h.ids, h.told, h.ans, h.ack, h.bro, hc⟩
theorem FX.set {L : La} (h : FX L) {i : Nat} (hi : i < L.sv.length) {s : Sv} (h1 : s.id = (i : Int) + 1) (h2 : s.st = 1 → s.ep = 1) (h3 : s.st = 3 → ∃ k, k ≤ 4 ∧ s.marks = AS k) (h4 : 0 ≤ s.ack ∧ s.ack ≤ zt L.h) (h5 : 0 ≤ s.bro ∧ s.bro ≤ zt L.h) : FX (L.set i s) := by
 have key : ∀ r ∈ L.sv.set i s, r ∈ L.sv ∨ r = s := fun r hr => mem_or_eq_of_mem_set hr
 refine ⟨h.ph, h.h, by rw [L.set_len]; exact h.n, fun j hj => ?_, fun r hr => ?_, fun r hr => ?_, fun r hr => ?_, fun r hr => ?_, h.com⟩
 ·have hj2 : j < L.sv.length := by rw [L.set_len] at hj; exact hj
  show ((L.sv.set i s)[j]'(by simpa using hj2)).id = _
  rw [getElem_set]
  split
  ·rename_i e; subst e; exact h1
  ·exact h.ids j hj2
 ·rcases key r hr with g | rfl
  ·exact h.told r g
  ·exact h2
 ·rcases key r hr with g | rfl
  ·exact h.ans r g
  ·exact h3
 ·rcases key r hr with g | rfl
  ·exact h.ack r g
  ·exact h4
 ·rcases key r hr with g | rfl
  ·exact h.bro r g
  ·exact h5
theorem FX.asked {L : La} (h : FX L) : FX (Fh L).1 := h.map ⟨by decide, by decide⟩ h.com fun s hs => by
 have h1 := h.told s hs
 have h2 := h.ans s hs
 have h3 := h.ack s hs
 have h4 := h.bro s hs
 by_cases e : s.st = 1
 ·rw [if_pos e]; exact ⟨rfl, fun g => absurd (show (2 : Int) = 1 from g) dQ, fun g => absurd (show (2 : Int) = 3 from g) dQ, h3, h4⟩
 ·rw [if_neg e]; exact ⟨rfl, h1, h2, h3, h4⟩
theorem FX.adopted {L : La} (h : FX L) : FX (Cc L).1 := h.map ⟨by decide, by decide⟩ h.com fun s hs => by
 have h1 := h.told s hs
 have h2 := h.ans s hs
 have h3 := h.ack s hs
 have h4 := h.bro s hs
 by_cases e : s.st = 3
 ·rw [if_pos e]; exact ⟨rfl, fun g => absurd (show (4 : Int) = 1 from g) dQ, fun g => absurd (show (4 : Int) = 3 from g) dQ, h3, Co _, Int.le_refl _⟩
 ·rw [if_neg e]; exact ⟨rfl, h1, h2, h3, h4⟩
theorem FX.upped {L : La} (h : FX L) : FX (Sw L).1 := h.rows ⟨by decide, by decide⟩ ⟨Co _, Int.le_refl _⟩
theorem FX.comd {L : La} (h : FX L) : FX (CN Ck L).1 := by
 unfold CN
 split
 ·exact h.rows h.ph (h.acks _ (OQ _ (by unfold BD; simp)))
 ·exact h
theorem FX.prop1 {L : La} (h : FX L) (hl : L.h + 1 ≤ 200) : FX (Cz L).1 := by
 have hz : zt L.h ≤ zt (L.h + 1) := KD (Nat.le_succ _)
 have hc := h.com
 have hh := h.h
 exact ⟨h.ph, ⟨by show 4 ≤ L.h + 1; omega, hl⟩, h.n, h.ids, h.told, h.ans, fun r hr => ⟨(h.ack r hr).1, Int.le_trans (h.ack r hr).2 hz⟩, fun r hr => ⟨(h.bro r hr).1, Int.le_trans (h.bro r hr).2 hz⟩, ⟨hc.1, Int.le_trans hc.2 hz⟩⟩
def KS (L : La) (H : List En) (s : Ld) (N C : Int) : Prop := Em s H (if L.ph = 0 then 1 else 2) (if L.ph ≤ 1 then 1 else 2) N C
theorem KS.more {L : La} {H : List En} {s : Ld} {N C M D : Int} (h : KS L H s N C) (hN : N ≤ M) (hC : C ≤ D) : KS L H s M D := Em.more h hN hC
theorem KS.last {L : La} {H : List En} {s : Ld} {N C : Int} (h : KS L H s N C) (hH : Hz H) (hh : L.h = H.length) : A5 s.Λ = zt L.h := by
 have h1 := Em.Λ h
 rw [h1, D4 hH, hh]
structure HC (H : List En) (pq : HP) (R : La × Ou) (o : Lo) (s : Ld) (q : HP) (N C : Int) (k : Nat) : Prop where
 ou : Gp H q o R.2
 gr : CI pq q
 le : FX R.1
 ls : KS R.1 H s (N + 4000000 * R.1.ph) (C + 2 * R.1.ph)
 hh : R.1.h = H.length
 len : o.length ≤ k
theorem HC.more {H : List En} {pq : HP} {R : La × Ou} {o : Lo} {s : Ld} {q : HP} {N C M D : Int} {k j : Nat} (g : HC H pq R o s q N C k) (hN : N ≤ M) (hC : C ≤ D) (hk : k ≤ j) : HC H pq R o s q M D j := ⟨g.ou, g.gr, g.le, g.ls.more om om, g.hh, Nat.le_trans g.len hk⟩
theorem Fs {b : Bool} {f : La → La × Ou} {R : La × Ou} (hb : b = false) : Aw b f R = R := by unfold Aw; rw [if_neg (by rw [hb]; decide)]
theorem Ej {b : Bool} {f : La → La × Ou} {R : La × Ou} (hb : b = true) : Aw b f R = ((f R.1).1, R.2 ++ (f R.1).2) := by unfold Aw; rw [if_pos hb]
theorem IR {H : List En} {pq : HP} {R : La × Ou} {o : Lo} {s : Ld} {q : HP} {N C : Int} {k : Nat} {b : Bool} {f : La → La × Ou} (hb : b = false) (g : HC H pq R o s q N C k) : HC H pq (Aw b f R) o s q N C k := by rw [Fs hb]; exact g
theorem X6 {H : List En} {pq : HP} {R : La × Ou} {o : Lo} {s : Ld} {q : HP} {N C : Int} {k : Nat} {b : Bool} (hb : b = true) (h0 : R.1.ph = 0) (hC : C < 4294967295) (g : HC H pq R o s q N C k) : HC H pq (Aw b Fh R) (o ++ Ep R.1.sv R.1.sv.length) (AR s 2).1 q N C (k + 6) := by
 rw [Ej hb]
 have h1 := g.ls
 unfold KS at h1
 rw [if_pos h0, if_pos om] at h1
 obtain ⟨-, h2⟩ := FO (n := 2) h1 om ⟨by decide, by decide⟩
 have hl := QG R.1.sv R.1.sv.length
 have hn := g.le.n
 exact ⟨g.ou.app (AAf R.1), g.gr, g.le.asked, h2.more (by show _ ≤ N + 4000000 * 1; omega) (by show _ ≤ C + 2 * 1; omega), g.hh, by rw [length_append]; have := g.len; omega⟩
theorem TS {H : List En} {pq : HP} {R : La × Ou} {o o2 : Lo} {s : Ld} {q q2 : HP} {N C : Int} {k : Nat} {b : Bool} (hb : b = true) (h0 : R.1.ph = 1) (hC : C + 3 < 4294967295) (g : HC H pq R o s q N C k) (hO : Gp H q2 o2 (Cc R.1).2) (hG : CI q q2) : HC H pq (Aw b Cc R) (o ++ o2) (AY s 2).1 q2 N C (k + 6) := by
 rw [Ej hb]
 have h1 := g.ls
 unfold KS at h1
 rw [if_neg om, if_pos om] at h1
 obtain ⟨-, h2⟩ := GV (n := 2) h1 om ⟨by decide, by decide⟩
 have hl := hO.len
 have h3 := Pu R.1 R.1.sv.length
 rw [O7] at h3
 have hn := g.le.n
 exact ⟨(g.ou.grow hG).app hO, g.gr.trans hG, g.le.adopted, h2.more (by show _ ≤ N + 4000000 * 2; omega) (by show _ ≤ C + 2 * 2; omega), g.hh, by rw [length_append]; have := g.len; omega⟩
theorem Zy {H : List En} {pq : HP} {R : La × Ou} {o : Lo} {s : Ld} {q : HP} {N C : Int} {k : Nat} {b : Bool} (hb : b = true) (h0 : R.1.ph = 2) (g : HC H pq R o s q N C k) : HC H pq (Aw b Sw R) (o ++ CQ R.1.sv 5 (FK 6 0 (zt R.1.h))) s q N C (k + 6) := by
 rw [Ej hb]
 have h1 := g.ls
 unfold KS at h1
 rw [if_neg om, if_neg om] at h1
 have hl : (CQ R.1.sv 5 (FK 6 0 (zt R.1.h))).length ≤ 6 := by
  unfold CQ
  rw [length_map]
  exact Nat.le_trans (length_filter_le _ _) g.le.n
 have hh := g.le.h
 exact ⟨g.ou.app (Gp.tell (AAF (FU om)) _ _), g.gr, g.le.upped, h1.more (by show _ ≤ N + 4000000 * 3; omega) (by show _ ≤ C + 2 * 3; omega), g.hh, by rw [length_append]; have := g.len; omega⟩
theorem XV {H : List En} {pq : HP} {R : La × Ou} {o o2 : Lo} {s : Ld} {q : HP} {N C : Int} {k : Nat} {b : Bool} (hb : b = true) (h0 : R.1.ph = 3) (g : HC H pq R o s q N C k) (hO : Gp H q o2 (CN Ck R.1).2) : HC H pq (Aw b (CN Ck) R) (o ++ o2) s q N C (k + 6) := by
 rw [Ej hb]
 have hp : (CN Ck R.1).1.ph = R.1.ph := by unfold CN; split <;> rfl
 have hh : (CN Ck R.1).1.h = R.1.h := by unfold CN; split <;> rfl
 have h1 : KS (CN Ck R.1).1 H s (N + 4000000 * (CN Ck R.1).1.ph) (C + 2 * (CN Ck R.1).1.ph) := by unfold KS; rw [hp]; exact g.ls
 have hl := hO.len
 have h3 : (CN Ck R.1).2.length ≤ 6 := by
  unfold CN
  split
  ·unfold JR
   rw [length_map]
   exact Nat.le_trans (length_filter_le _ _) g.le.n
  ·exact Nat.zero_le _
 exact ⟨g.ou.app hO, g.gr, g.le.comd, h1, hh.trans g.hh, by rw [length_append]; have := g.len; omega⟩
structure Nm (q : HP) (m : Ms) (u : Um) : Prop where
 a : Or q m
 is : match u with
  | .info => m.kind = 1 ∧ m.ep = 1
  | .ack b k => m.kind = 3 ∧ m.ep = 2 ∧ m.nu = (if b then 1 else -1) ∧ (∃ a c, m.mv = .slice a (AS k).length c) ∧ ∀ h : Hp, q h → B5 1 h m.mv (AS k).length (Aq (AS k))
  | .synced => m.kind = 5 ∧ m.ep = 2
  | .acked z => m.kind = 8 ∧ m.zx = z
  | .pong => m.kind = 11
theorem Nm.grow {q q2 : HP} {m : Ms} {u : Um} (h : Nm q m u) (g : CI q q2) : Nm q2 m u := by
 refine ⟨h.a.grow g, ?_⟩
 have := h.is
 cases u with
 | ack b k => exact ⟨this.1, this.2.1, this.2.2.1, this.2.2.2.1, g.rd this.2.2.2.2⟩
 | info => exact this
 | synced => exact this
 | acked z => exact this
 | pong => exact this
theorem Nm.k1 {q : HP} {m : Ms} {u : Um} (h : Nm q m u) (e : m.kind = 1) : u = .info := by
 have := h.is
 cases u <;> first | rfl | (have := this.1; omega) | (have this : m.kind = 11 := this; omega)
theorem Nm.k3 {q : HP} {m : Ms} {u : Um} (h : Nm q m u) (e : m.kind = 3) : ∃ b k, u = .ack b k := by
 have := h.is
 cases u <;> first | exact ⟨_, _, rfl⟩ | (have := this.1; omega) | (have this : m.kind = 11 := this; omega)
theorem Nm.k5 {q : HP} {m : Ms} {u : Um} (h : Nm q m u) (e : m.kind = 5) : u = .synced := by
 have := h.is
 cases u <;> first | rfl | (have := this.1; omega) | (have this : m.kind = 11 := this; omega)
theorem Nm.k8 {q : HP} {m : Ms} {u : Um} (h : Nm q m u) (e : m.kind = 8) : ∃ z, u = .acked z ∧ m.zx = z := by
 have := h.is
 cases u <;> first | exact ⟨_, rfl, this.2⟩ | (have := this.1; omega) | (have this : m.kind = 11 := this; omega)
theorem Nm.k0 {q : HP} {m : Ms} {u : Um} (h : Nm q m u) (e1 : ¬ m.kind = 1) (e3 : ¬ m.kind = 3) (e5 : ¬ m.kind = 5) (e8 : ¬ m.kind = 8) : u = .pong := by
 have := h.is
 cases u <;> first | rfl | (have := this.1; omega)
def Ga (L : La) (s : Sv) : Um → Prop
 | .info => True
 | .ack b k => s.st = 2 → b = true ∧ k ≤ 4 ∧ 1 ≤ L.ph
 | .synced => s.st = 4 ∧ 2 ≤ L.ph
 | .acked z => s.st = 5 ∧ 2 ≤ L.ph ∧ z ≤ zt L.h
 | .pong => True
theorem OX {L : La} {cv : Nat → Cv} (g : BJ L cv) {i : Nat} (hi : i < L.sv.length) {u : Um} {U : List Um} (hU : (cv i).U = u :: U) : Ga L L.sv[i] u := by
 have hc := g.conv i hi
 have hlo := hc.lo
 cases u with
 | info => trivial
 | ack b k =>
  intro h2
  obtain ⟨h3, h4, -⟩ := PK hU h2 hc
  refine ⟨h3, h4, ?_⟩
  have hp := g.ph
  by_cases e : L.ph < 1
  ·have := hlo.2.2.1 e; omega
  ·omega
 | synced =>
  obtain ⟨h4, -⟩ := ME hU g.com hc
  refine ⟨h4, ?_⟩
  by_cases e : L.ph < 2
  ·have := hlo.2.2.2.1 e; omega
  ·omega
 | acked z =>
  obtain ⟨h5, h6, -⟩ := K4 hU hc
  refine ⟨h5, ?_, h6⟩
  by_cases e : L.ph < 2
  ·have := hlo.2.2.2.1 e; omega
  ·omega
 | pong => trivial
theorem La.set2 (L : La) (i : Nat) (s r : Sv) : (L.set i s).set i r = L.set i r := by
 unfold La.set
 rw [set_set]
theorem La.set_at (L : La) {i : Nat} (s : Sv) (h : i < (L.set i s).sv.length) : (L.set i s).sv[i] = s := getElem_set_self h
theorem La.set_same (L : La) {i : Nat} (h : i < L.sv.length) : L.set i L.sv[i] = L := by
 unfold La.set
 rw [set_getElem_self]
theorem MQ (l : List Int) : ∀ y ∈ Aq l, AD y = true := fun y hy => by
 obtain ⟨z, -, rfl⟩ := mem_map.1 hy
 rfl
theorem FX.heard {L : La} (h : FX L) {i : Nat} (hi : i < L.sv.length) (t : Int) : FX (L.set i (L.sv[i].hrd t)) := by
 have h1 := h.ids i hi
 have h2 := h.told _ (getElem_mem hi)
 have h3 := h.ans _ (getElem_mem hi)
 have h4 := h.ack _ (getElem_mem hi)
 have h5 := h.bro _ (getElem_mem hi)
 exact h.set hi h1 h2 h3 h4 h5
theorem FX.hearW {L : La} (h : FX L) {i : Nat} (hi : i < L.sv.length) {u : Um} (hw : Ga L L.sv[i] u) (t : Int) : FX (L.set i (A2 L (L.sv[i].hrd t) u).1) := by
 have h1 := h.ids i hi
 have h2 := h.told _ (getElem_mem hi)
 have h3 := h.ans _ (getElem_mem hi)
 have h4 := h.ack _ (getElem_mem hi)
 have h5 := h.bro _ (getElem_mem hi)
 have same : FX (L.set i (L.sv[i].hrd t)) := h.heard hi t
 cases u with
 | info =>
  unfold A2
  dsimp only
  split
  ·exact h.set hi h1 (fun _ => rfl) (fun g => absurd (show (1 : Int) = 3 from g) dQ) h4 h5
  ·exact h.set hi h1 (fun g => absurd (show (2 : Int) = 1 from g) dQ) (fun g => absurd (show (2 : Int) = 3 from g) dQ) h4 h5
 | ack b k =>
  unfold A2
  dsimp only
  split
  ·exact same
  ·rename_i g
   obtain ⟨-, hk, -⟩ := hw (Decidable.byContradiction fun e => g e)
   split
   ·exact h.set hi h1 (fun g => absurd (show (4 : Int) = 1 from g) dQ) (fun g => absurd (show (4 : Int) = 3 from g) dQ) h4 ⟨Co _, Int.le_refl _⟩
   ·exact h.set hi h1 (fun g => absurd (show (3 : Int) = 1 from g) dQ) (fun _ => ⟨k, hk, rfl⟩) h4 h5
 | synced => exact h.set hi h1 (fun g => absurd (show (5 : Int) = 1 from g) dQ) (fun g => absurd (show (5 : Int) = 3 from g) dQ) h5 h5
 | acked z =>
  unfold A2
  dsimp only
  split
  ·rename_i g
   have g : L.sv[i].st = 5 ∧ L.sv[i].ack < z ∧ z ≤ zt L.h := g
   exact h.set hi h1 h2 h3 ⟨by show 0 ≤ z; omega, g.2.2⟩ h5
  ·exact same
 | pong => exact same
theorem Ga.hrd {L : La} {i : Nat} (hi : i < L.sv.length) {t : Int} {u : Um} (h : Ga L L.sv[i] u) : Ga (L.set i (L.sv[i].hrd t)) (L.sv[i].hrd t) u := by cases u <;> exact h
theorem JV (L : La) (i : Nat) (s r : Sv) (u : Um) : A2 (L.set i s) r u = A2 L r u := by cases u <;> rfl
theorem FR {H : List En} {pq : HP} {L : La} {s : Ld} {N C : Int} (hL : FX L) (hS : KS L H s (N + 4000000 * L.ph) (C + 2 * L.ph)) (hh : L.h = H.length) {i : Nat} (hi : i < L.sv.length) {u : Um} (hw : Ga L L.sv[i] u) (t : Int) {o : Lo} {q : HP} (ho : Gp H q o ((A2 L (L.sv[i].hrd t) u).2.map fun d => (L.sv[i].id, d))) (hg : CI pq q) (hl : o.length ≤ 1) : HC H pq (CR L i (L.sv[i].hrd t) u) o s q N C 1 :=
 ⟨ho, hg, hL.hearW hi hw t, hS, hh, hl⟩
theorem LH {H : List En} {pq q q2 : HP} {R : La × Ou} {o o2 : Lo} {s s2 : Ld} {N N2 C C2 : Int} {k k2 : Nat} (g : HC H pq R o s q N C k) (g2 : HC H q (Dl Ck R.1) o2 s2 q2 N2 C2 k2) : HC H pq ((Dl Ck R.1).1, R.2 ++ (Dl Ck R.1).2) (o ++ o2) s2 q2 N2 C2 (k + k2) :=
 ⟨(g.ou.grow g2.gr).app g2.ou, g.gr.trans g2.gr, g2.le, g2.ls, g2.hh, by rw [length_append]; have := g.len; have := g2.len; omega⟩
theorem NX (sv : List Sv) (st : Int) (m : Ms) : (CQ sv st m).length ≤ sv.length := by
 unfold CQ
 rw [length_map]
 exact length_filter_le _ _
theorem WC {H : List En} {pq : HP} {L : La} {s : Ld} {N C : Int} (hL : FX L) (hS : KS L H s (N + 4000000 * L.ph) (C + 2 * L.ph)) (hh : L.h = H.length) : HC H pq (L, KF L) (CQ L.sv 4 (FK 10 0 L.com)) s pq N C 6 :=
 ⟨Gp.tell (Zr hL.com64) _ _, CI.rfl pq, hL, hS, hh, Nat.le_trans (NX _ _ _) hL.n⟩
theorem VL {H : List En} {e : En} {pq q : HP} {L : La} {s : Ld} {N C : Int} (hL : FX L) (h3 : L.ph = 3) (hS : Em s (H ++ [e]) 2 2 (N + 4000000 * L.ph) (C + 2 * L.ph)) (hh : L.h = H.length) (h200 : L.h + 1 ≤ 200) {ev : Value} (hl : ∀ h : Hp, q h → B5 11 h ev 1 (BX e)) (hc : AD ev = true) (hx : MU q e) (hg : CI pq q) : HC (H ++ [e]) pq (Cz L) (CQ L.sv 4 (MW 7 0 0 ev [e])) s q N C 6 := by
 refine ⟨Gp.tell ?_ _ _, hg, hL.prop1 h200, ?_, by rw [length_append]; exact congrArg (· + 1) hh, Nat.le_trans (NX _ _ _) hL.n⟩
 ·have h4 := hL.h
  refine Zv (j := L.h) (H := H ++ [e]) (by rw [length_append, length_singleton]; omega) h4.1 ?_ hl hc hx
  simp [hh]
 ·have e3 : (Cz L).1.ph = 3 := h3
  unfold KS
  rw [e3]
  rw [h3] at hS; exact hS
def IG (T : TypeId) (sz : Nat) (v : Value) (n : Nat) (xs : List Value) : HP := fun h =>
 (v = .slice none 0 0 ∧ n = 0 ∧ xs = []) ∨
 ∃ b off cap pre rest fr, v = .slice (some ⟨b, off, none⟩) n cap ∧ h b = some (.cells (List.toArray (pre ++ (xs ++ rest))) T fr) ∧ pre.length = off ∧ xs.length = n * sz ∧ cap * sz ≤ xs.length + rest.length ∧ n ≤ cap ∧ Rj fr off (cap * sz)
theorem YE (T : TypeId) (sz : Nat) (h : Hp) : IG T sz (.slice none 0 0) 0 [] h := .inl ⟨rfl, rfl, rfl⟩
theorem IM {T : TypeId} {sz : Nat} {v : Value} {n : Nat} {xs : List Value} {h : Hp} (hs : IG T sz v n xs h) : B5 sz h v n xs := by
 rcases hs with ⟨rfl, rfl, rfl⟩ | ⟨b, off, cap, pre, rest, fr, hv, hb, hp, h1, h2, h3, h4⟩
 ·exact .inl ⟨rfl, rfl, none, 0, rfl⟩
 ·refine .inr ⟨b, off, cap, pre ++ (xs ++ rest), T, fr, hv, hb, ?_, by simp; omega, h3⟩
  rw [← hp, drop_left, ← h1, take_left]
theorem Ji {T : TypeId} {sz : Nat} {v : Value} {n : Nat} {xs : List Value} {h : Hp} (hs : IG T sz v n xs h) : ∃ a c, v = .slice a n c := by
 rcases hs with ⟨rfl, rfl, -⟩ | ⟨b, off, cap, pre, rest, fr, hv, -⟩
 ·exact ⟨_, _, rfl⟩
 ·exact ⟨_, _, hv⟩
theorem Us {T : TypeId} {sz n c : Nat} {a : Option Addr} {xs : List Value} {h : Hp} (hs : IG T sz (.slice a (n + 1) c) (n + 1) xs h) : IG T sz (.slice (if c = 1 then a else a.map (·.add (1 * sz))) n (c - 1)) n (xs.drop sz) h := by
 rcases hs with ⟨hv, -, -⟩ | ⟨b, off, cap, pre, rest, fr, hv, hb, hp, h1, h2, h3, h4⟩
 ·simp at hv
 ·simp only [Value.slice.injEq, true_and] at hv
  obtain ⟨rfl, rfl⟩ := hv
  have e1 : (n + 1) * sz = n * sz + sz := Nat.succ_mul n sz
  by_cases hc : c = 1
  ·subst hc
   have hn : n = 0 := by omega
   subst hn
   rw [if_pos rfl]
   refine .inr ⟨b, off, 0, pre, xs ++ rest, fr, rfl, ?_, hp, ?_, by simp, Nat.le_refl _, fun i q1 q2 => absurd q2 om⟩
   ·rw [drop_eq_nil_of_le om, nil_append]; exact hb
   ·rw [length_drop]; omega
  ·rw [if_neg hc]
   have e2 : c * sz = (c - 1) * sz + sz := by
    have : c = (c - 1) + 1 := by omega
    conv => lhs; rw [this, Nat.succ_mul]
   refine .inr ⟨b, off + sz, c - 1, pre ++ xs.take sz, rest, fr, by simp [Addr.add_eq], ?_, ?_, ?_, ?_, by omega, fun i q1 q2 => h4 i om om⟩
   ·rw [hb]
    congr 3
    rw [append_assoc, ← append_assoc (xs.take sz), take_append_drop]
   ·rw [length_append, length_take]; omega
   ·rw [length_drop]; omega
   ·rw [length_drop]; omega
section
variable {P : Program} {ty : TypeId} {E : By}
theorem AI.appendQ {t tx e : TypeId} {x y : Operand} {v u : Value} {n m sz by' : Nat} {xs ys : List Value} {z : Value} {zl : List Value} {p : HP} {ts : Array TypeId} (hts : ts = #[t, tx]) (hx : ev E x = some v) (hy : ev E y = some u) (ht : Ah P t = some (e, sz, by')) (htx : (∃ e', P.underlying tx = some (.slice e')) ∨ P.underlying tx = some .string)
  (hz : Av P e = some z) (hzc : z.cells = zl.toArray) (hzl : zl.length = sz) (hcell : ∀ y ∈ ys, AD y = true) (hrd : ∀ h : Hp, p h → Iw sz h u m ys) (hb : (n + m) * by' ≤ 140737488355328) (hb0 : 0 < by') :
  AI P ⟨none, .call { callee := .builtin .append, args := #[x, y], argTypes := ts }, ty, "", #[], none⟩ E [IG e sz v n xs, p] fun v' L' => (∃ a c, v' = .slice a (n + m) c) ∧ L' = [IG e sz v' (n + m) (xs ++ ys), p] := by
 intro ρ w F ha hs
 subst hts
 have hs2 : St (p :: IG e sz v n xs :: F) w := DL hs
 obtain ⟨hp1, ap, hpp⟩ := AZ hs2
 have hru : Iw sz (fun b => w.heap[b]?) u m ys := JY (hrd _ hpp) ap
 obtain ⟨hv1, av, hvv⟩ := AZ hs
 have hrv : B5 sz (fun b => w.heap[b]?) v n xs := Bm (IM hvv) av
 unfold Ah at ht
 split at ht <;> (try cases ht)
 rename_i e' hu
 split at ht <;> (try cases ht)
 rename_i inf hin
 have hti : ∀ w : World, (typeInfo e).run P w = .ok inf w := fun w => by simp [typeInfo, program, Bind.bind, Sem.bind, Pure.pure, Sem.run, hin]
 have hsz : ∀ w : World, (sizeOf e).run P w = .ok inf.size w := fun w => Bn (by simp [Ai, hin])
 have hlen : (Builtin.lenOf u).run P w = .ok m w := Jy hru
 obtain ⟨a, sCap, hva⟩ : ∃ a sCap, v = .slice a n sCap := Ji hvv
 have main : ∃ v' w', (Builtin.append_ #[t, tx] ty #[v, u]).run P w = .ok v' w' ∧ St (IG e inf.size v' (n + m) (xs ++ ys) :: p :: F) w' ∧ Az w w' := by
  rcases htx with ⟨e', htx⟩ | htx
  all_goals
   unfold Builtin.append_
   simp only [List.getElem?_toArray, List.getElem?_cons_zero, List.getElem?_cons_succ]
   subst hva
   rw [run_bind (AJ hu)]
   dsimp only
   rw [run_bind (hsz w)]
   rw [run_bind (AJ htx), run_bind Be]
   dsimp only
   simp only [Bool.false_eq_true, if_false, Bool.not_false, if_true]
   rw [run_bind hlen]
   by_cases hroom : n + m ≤ sCap
   ·rw [if_pos hroom, run_bind (Kl hru)]
    rcases hvv with ⟨hv0, rfl, rfl⟩ | ⟨b, off, cap, pre, rest, fr, hv0, hb1, hpl, hl1, hl2, hl3, hl4⟩
    ·simp only [Value.slice.injEq] at hv0
     obtain ⟨rfl, -, rfl⟩ := hv0
     have hm0 : m = 0 := by omega
     subst hm0
     have hys : ys = [] := by
      have := Di hru; simpa using this
     subst hys
     refine ⟨_, w, rfl, ?_, .refl _⟩
     exact hs
    ·simp only [Value.slice.injEq] at hv0
     obtain ⟨rfl, -, rfl⟩ := hv0
     have hyl := Di hru
     have hbw := av _ _ hb1
     have hmul : n * inf.size + m * inf.size ≤ sCap * inf.size := by rw [← Nat.add_mul]; exact Nat.mul_le_mul_right _ hroom
     have hst := DP (P := P) ys w (pre ++ (xs ++ rest)) (off + n * inf.size) 0 hbw (by simp; omega) hcell (fun i h1 h2 => hl4 i om om)
     dsimp only
     rw [Addr.add_eq, run_bind hst]
     refine ⟨_, _, rfl, ?_, Az.upd _ _ _⟩
     rw [Nat.add_zero]
     have hspl : HJ (pre ++ (xs ++ rest)) (off + n * inf.size) ys = pre ++ ((xs ++ ys) ++ rest.drop ys.length) := by
      have e1 : pre ++ (xs ++ rest) = (pre ++ xs) ++ rest := by rw [append_assoc]
      have e2 : off + n * inf.size = (pre ++ xs).length := by rw [length_append]; omega
      have e3 : ((pre ++ xs) ++ rest).drop ((pre ++ xs).length + ys.length) = rest.drop ys.length := by
       rw [drop_append, drop_eq_nil_of_le om, nil_append]
       congr 1; omega
      unfold HJ
      rw [e1, e2, take_left, e3]
      simp only [append_assoc]
     rw [hspl]
     obtain ⟨g1, g2, gd, b1, b2, gp, gL⟩ := hs
     rcases gp with ⟨gv, -, -⟩ | ⟨b', off', cap', pre', rest', fr', gv, gb, -⟩
     ·simp at gv
     ·simp only [Value.slice.injEq, Option.some.injEq, Addr.mk.injEq] at gv
      obtain ⟨⟨rfl, -, -⟩, -, rfl⟩ := gv
      have h2b : g2 b = none := (gd b).resolve_left (by rw [gb]; simp)
      refine ⟨fun c => if c = b then some (.cells (pre ++ ((xs ++ ys) ++ rest.drop ys.length)).toArray e fr) else none, g2, fun c => ?_, fun c o ec => ?_, fun c o ec => ?_, ?_, gL⟩
      ·by_cases ec : c = b
       ·exact .inr (ec ▸ h2b)
       ·exact .inl (if_neg ec)
      ·by_cases hc : c = b
       ·subst hc; simp only [if_true] at ec; injection ec with ec; rw [← ec]; exact Kb hbw
       ·simp [hc] at ec
      ·have hc : c ≠ b := by rintro rfl; rw [h2b] at ec; cases ec
       have := b2 _ _ ec
       simpa [upd, Ne.symm hc] using this
      ·refine .inr ⟨b, off, sCap, pre, rest.drop ys.length, fr, rfl, by simp, hpl, ?_, ?_, hroom, hl4⟩
       ·simp [hl1, hyl, Nat.add_mul]
       ·simp; omega
   ·rw [if_neg hroom]
    have hn1 : ¬ (((n + m : Nat) : Int) > IntKind.i64.max ∧ (False ∨ inf.bytes = 0)) := by
     rintro ⟨-, h⟩
     rcases h with h | h
     ·cases h
     ·omega
    rw [run_bind (hti w)]
    rw [if_neg hn1]
    rw [run_bind (hti w)]
    have hfit := growslice_fits (need := n + m) (old := sCap) (bytes := inf.bytes) om hb
    rw [if_neg om]
    let q : Question := .appendCap (n + m) sCap e
    let cap := q.cut (w.tape w.drawn q)
    have hcap : n + m ≤ cap := by show n + m ≤ n + m + _; omega
    let w1 : World := { w with drawn := w.drawn + 1 }
    have hch : (choose (.appendCap (n + m) sCap e)).run P w = .ok cap w1 := by simp [choose, Sem.run, Question.forced, cap, q, w1]
    rw [run_bind hch, run_bind (hti w1), run_bind (run_askRoom (P := P) (w := w1) _)]
    have hrv1 : B5 inf.size (fun b => w1.heap[b]?) (.slice a n sCap) n xs := hrv
    have hru1 : Iw inf.size (fun b => w1.heap[b]?) u m ys := hru
    rw [run_bind (ID hrv1), run_bind (Kl hru1), run_bind (El hz)]
    have hzs : (Builtin.zeroCells z.cells (cap - (n + m))) = ((List.range ((cap - (n + m)) * zl.length)).map fun i => zl[i % zl.length]!).toArray := by
     unfold Builtin.zeroCells
     rw [hzc]
     apply Array.ext'
     simp [List.getElem!_toArray]
    rw [hzs]
    let rest := (List.range ((cap - (n + m)) * zl.length)).map fun i => zl[i % zl.length]!
    have hcells : xs.toArray ++ ys.toArray ++ rest.toArray = ((xs ++ ys) ++ rest).toArray := by simp
    rw [show xs.toArray ++ ys.toArray ++ ((List.range ((cap - (n + m)) * zl.length)).map fun i => zl[i % zl.length]!).toArray = ((xs ++ ys) ++ rest).toArray from hcells]
    rw [run_bind (Cy e _)]
    refine ⟨_, _, rfl, ?_, (Az.drew w).trans (Az.new w1 _)⟩
    have hsF : St (p :: F) w1 := (St.tail hs).drew
    have h1 := St.new hsF (.cells ((xs ++ ys) ++ rest).toArray e (0, 0))
    refine BS (fun h hp => ?_) h1
    refine .inr ⟨w1.heap.size, 0, cap, [], rest, (0, 0), rfl, hp, rfl, ?_, ?_, hcap, Bk _ _⟩
    ·simp [FG hrv, Di hru, Nat.add_mul]
    ·simp only [length_append, FG hrv, Di hru, rest, length_map, length_range, hzl]
     rw [← Nat.add_mul, ← Nat.add_mul]
     exact Nat.le_of_eq (by congr 1; omega)
 obtain ⟨v', w', hr, h1, h2⟩ := main
 have hrun : (execOp ρ ⟨none, .call { callee := .builtin .append, args := #[x, y], argTypes := #[t, tx] }, ty, "", #[], none⟩).run P w = .ok (.value v') w' := by
  rw [CZ]
  refine Ct ?_
  simp only [map_toArray, map_cons, map_nil]
  rw [ha x _ hx, ha y _ hy]; exact hr
 obtain ⟨hq1, -, hqq⟩ := AZ h1
 unfold Du; rw [hrun]
 exact ⟨_, ⟨Ji hqq, rfl⟩, h1, h2⟩
end
theorem AI.append1Q {P : Program} {E : By} {ty : TypeId} {t e : TypeId} {x y : Operand} {v : Value} {b n m c sz by' : Nat} {xs l : List Value} {T : TypeId} {z : Value} {zl : List Value} {ts : Array TypeId} (hts : ts = #[t, t]) (hx : ev E x = some v) (hy : ev E y = some (.slice (some ⟨b, 0, none⟩) m c)) (ht : Ah P t = some (e, sz, by'))
  (hz : Av P e = some z) (hzc : z.cells = zl.toArray) (hzl : zl.length = sz) (hcell : ∀ y ∈ l, AD y = true) (hl : l.length = m * sz) (hmc : m ≤ c) (hb : (n + m) * by' ≤ 140737488355328) (hb0 : 0 < by') :
  AI P ⟨none, .call { callee := .builtin .append, args := #[x, y], argTypes := ts }, ty, "", #[], none⟩ E [IG e sz v n xs, Ar b l T] fun v' L' => (∃ a c, v' = .slice a (n + m) c) ∧ L' = [IG e sz v' (n + m) (xs ++ l)] := by
 have ht' : ∃ e', P.underlying t = some (.slice e') := by
  unfold Ah at ht
  split at ht <;> (try cases ht)
  rename_i e' hu
  exact ⟨e', hu⟩
 refine AI.post (AI.appendQ (p := Ar b l T) (ys := l) (m := m) hts hx hy ht (.inl ht') hz hzc hzl hcell (fun h hp => .inl (Qs hp (by rw [drop_zero, ← hl, take_length]) om hmc)) hb hb0) ?_
 rintro v' L' ⟨h1, rfl⟩
 exact ⟨_, ⟨h1, rfl⟩, fun F w hs => Es (DL hs)⟩
structure Lq where
 fr : Int
 to : Int
 l : List Ms
abbrev Mx := Lq × Value
def B3 (r : Mx) : List Value := [AA r.1.fr, AA r.1.to, r.2]
def Mc (r : Mx) : HP := IG 67 19 r.2 r.1.l.length (r.1.l.flatMap BF)
structure HB (rows : List Mx) (k : List Lq) : Prop where
 fst : rows.map Prod.fst = k
 cell : ∀ r ∈ rows, AD r.2 = true
def lnL (v : Value) (rows : List Mx) : List HP := [AV 49 3 v rows.length (rows.flatMap B3), Aj Mc rows]
def Ke (v : Value) (k : List Lq) : HP := fun h => ∃ rows : List Mx, HB rows k ∧ CG (lnL v rows) h
theorem WT {T : TypeId} {sz : Nat} {v : Value} {n : Nat} {xs : List Value} {h h' : Hp} (hs : IG T sz v n xs h) (hle : ∀ b o, h b = some o → h' b = some o) : IG T sz v n xs h' := by
 rcases hs with hs | ⟨b, off, cap, pre, rest, fr, hv, hb, hr⟩
 ·exact .inl hs
 ·exact .inr ⟨b, off, cap, pre, rest, fr, hv, hle _ _ hb, hr⟩
section
variable {W : World} {n : Nat} {ds : List Deferred} {E : By} {K R : List HP} {X : Act → World → Prop}
theorem G.lnOpen {v : Value} {k : List Lq} (hL : BT (Ke v k) K R) (h : ∀ rows, HB rows k → G W n ds E (AV 49 3 v rows.length (rows.flatMap B3) :: Aj Mc rows :: R) X) : G W n ds E K X :=
 G.focus hL (G.open (q := fun rows : List Mx => lnL v rows) (φ := fun rows : List Mx => HB rows k) (fun _ hp => hp) fun rows hy => h rows hy)
theorem G.lnFold {v : Value} (k : List Lq) {rows : List Mx} {xs : List Value} {m : Nat} (hr : HB rows k) (hL : Am [AV 49 3 v m xs, Aj Mc rows] K R) (hm : m = rows.length) (hx : xs = rows.flatMap B3) (h : G W n ds E (Ke v k :: R) X) : G W n ds E K X := by
 subst hm; subst hx
 exact G.fold hL (fun _ hp => ⟨rows, hr, hp⟩) h
theorem G.lnCast {v v' : Value} {k k' : List Lq} (hL : BT (Ke v k) K R) (h1 : v = v') (h2 : k = k') (h : G W n ds E (Ke v' k' :: R) X) : G W n ds E K X := by
 subst h1; subst h2; exact G.perm hL.perm h
theorem G.lqShape {T : TypeId} {sz m : Nat} {v : Value} {xs : List Value} (hL : BT (IG T sz v m xs) K R) (hm : 0 < m) (h : ∀ b off c, v = .slice (some ⟨b, off, none⟩) m c → m ≤ c → G W n ds E K X) : G W n ds E K X := by
 intro a w he hk hs
 obtain ⟨h1, -, hp⟩ := AZ (hs.pick hL)
 rcases hp with ⟨-, h2, -⟩ | ⟨b, off, cap, pre, rest, fr, hv, -, -, -, -, h3, -⟩
 ·omega
 ·exact h b off cap hv h3 a w he hk hs
theorem G.lqDrop {T : TypeId} {sz m c : Nat} {a : Option Addr} {xs : List Value} (hL : BT (IG T sz (.slice a (m + 1) c) (m + 1) xs) K R) (h : G W n ds E (IG T sz (.slice (if c = 1 then a else a.map (·.add (1 * sz))) m (c - 1)) m (xs.drop sz) :: R) X) : G W n ds E K X :=
 G.fold (p := IG T sz (.slice (if c = 1 then a else a.map (·.add (1 * sz))) m (c - 1)) m (xs.drop sz)) (q := [IG T sz (.slice a (m + 1) c) (m + 1) xs]) (.cons hL .nil) (fun _ hp => by obtain ⟨h1, e1, p1⟩ := AZ hp; exact WT (Us p1) e1) h
end
theorem BP {α : Type} {f : α → List Value} {sz : Nat} {l : List α} (hf : ∀ x, (f x).length = sz) {i : Nat} (hi : i < l.length) {k : Nat} (hk : k < sz) : (l.flatMap f)[i * sz + k]? = (f l[i])[k]? := by
 have h := BE (f := f) (sz := sz) (l := l) (i := i) (fun x _ => hf x) hi
 have h2 := congrArg (fun l : List Value => l[k]?) h
 rw [List.getElem?_take_of_lt hk, List.getElem?_drop] at h2
 exact h2
theorem Xt {α : Type} {f : α → List Value} {sz : Nat} {l : List α} (hf : ∀ x, (f x).length = sz) {i : Nat} (hi : i < l.length) {j k : Nat} (hk : j + k = sz) : ((l.flatMap f).drop (i * sz + j)).take k = (f l[i]).drop j := by
 have h := BE (f := f) (sz := sz) (l := l) (i := i) (fun x _ => hf x) hi
 have h2 := congrArg (fun l : List Value => l.drop j) h
 rw [← h2, drop_take, drop_drop]
 congr 1; omega
theorem DU {rows : List Mx} {k : List Lq} (h : HB rows k) : rows.length = k.length := by rw [← h.fst, length_map]
theorem GP {rows : List Mx} {k : List Lq} (h : HB rows k) {i : Nat} (hi : i < rows.length) (hj : i < k.length) : rows[i].1 = k[i] := by
 obtain ⟨h, -⟩ := h
 subst h
 rw [getElem_map]
theorem HB.set {rows : List Mx} {k : List Lq} (h : HB rows k) (i : Nat) {s : Lq} {v : Value} (hv : AD v = true) : HB (rows.set i (s, v)) (k.set i s) := by
 refine ⟨by rw [map_set, h.fst], fun r hr => ?_⟩
 rcases mem_or_eq_of_mem_set hr with g | g
 ·exact h.cell r g
 ·rw [g]; exact hv
theorem IP {rows : List Mx} {i c : Nat} {v : Value} {r : Mx} (hi : i < rows.length) (hk : c < 3) (h : (B3 rows[i]).set c v = B3 r) : (rows.flatMap B3).set (i * 3 + c) v = (rows.set i r).flatMap B3 := Qp (fun _ => rfl) hi hk h
theorem G.lqAt {W : World} {n : Nat} {ds : List Deferred} {E : By} {K R : List HP} {X : Act → World → Prop} {rows : List Mx} {i : Nat} (hi : i < rows.length) (hL : BT (Aj Mc rows) K R) (hg : G W n ds E (IG 67 19 rows[i].2 rows[i].1.l.length (rows[i].1.l.flatMap BF) :: Aj Mc (rows.eraseIdx i) :: R) X) : G W n ds E K X := G.bigAt (f := Mc) hi hL hg
/-! ### What is XY -/
def D6 (fr : Int) (x : Int × Ms) (r : Lq) : Lq := if r.fr = fr ∧ r.to = x.1 then ⟨r.fr, r.to, r.l ++ [x.2]⟩ else r
def EL (fr : Int) (k : List Lq) (o : Lo) : List Lq := o.foldl (fun k x => k.map (D6 fr x)) k
theorem Lj (fr : Int) : ∀ (o : Lo) (k : List Lq), (EL fr k o).length = k.length
 | [], _ => rfl
 | x :: o, k => by
  show (EL fr (k.map (D6 fr x)) o).length = _
  rw [Lj fr o, length_map]
theorem S8 (fr : Int) (k : List Lq) {o : Lo} {i : Nat} (hi : i < o.length) : EL fr k (o.take (i + 1)) = (EL fr k (o.take i)).map (D6 fr o[i]) := by
 unfold EL
 rw [take_succ_eq_append_getElem hi, foldl_append]; rfl
theorem Xr (fr : Int) {M : Nat} : ∀ (o : Lo) (k : List Lq), (∀ r ∈ k, r.l.length ≤ M) → ∀ r ∈ EL fr k o, r.l.length ≤ M + o.length := by
 intro o
 induction o generalizing M with
 | nil => intro k h r hr; exact h r hr
 | cons x o ih =>
  intro k h r hr
  have h1 : ∀ r ∈ k.map (D6 fr x), r.l.length ≤ M + 1 := fun r hr => by
   obtain ⟨q, hq, rfl⟩ := mem_map.1 hr
   have := h q hq
   unfold D6
   split
   ·show (q.l ++ [x.2]).length ≤ _; rw [length_append, length_singleton]; omega
   ·omega
  have := ih (k.map (D6 fr x)) h1 r hr
  rw [length_cons]; omega
def Df (to : Int) (o : Lo) : List Ms := (o.filter fun x => decide (x.1 = to)).map (·.2)
theorem OR (fr : Int) : ∀ (o : Lo) (k : List Lq), EL fr k o = k.map fun r => if r.fr = fr then ⟨r.fr, r.to, r.l ++ Df r.to o⟩ else r
 | [], k => by
  show k = _
  have : (fun r : Lq => if r.fr = fr then (⟨r.fr, r.to, r.l ++ Df r.to []⟩ : Lq) else r) = id := by
   funext r
   split
   ·show (⟨r.fr, r.to, r.l ++ []⟩ : Lq) = r
    rw [append_nil]
   ·rfl
  rw [this, map_id]
 | x :: o, k => by
  show EL fr (k.map (D6 fr x)) o = _
  rw [OR fr o, map_map]
  congr 1
  funext r
  show (if (D6 fr x r).fr = fr then (⟨(D6 fr x r).fr, (D6 fr x r).to, (D6 fr x r).l ++ Df (D6 fr x r).to o⟩ : Lq) else D6 fr x r) = _
  by_cases e : r.fr = fr
  ·by_cases g : r.to = x.1
   ·have hl : D6 fr x r = ⟨r.fr, r.to, r.l ++ [x.2]⟩ := if_pos ⟨e, g⟩
    have ha : Df r.to (x :: o) = x.2 :: Df r.to o := by
     unfold Df
     rw [filter_cons, if_pos (by simpa using g.symm)]; rfl
    rw [hl, if_pos e, if_pos e, ha]
    simp
   ·have hl : D6 fr x r = r := if_neg fun q => g q.2
    have ha : Df r.to (x :: o) = Df r.to o := by
     unfold Df
     rw [filter_cons, if_neg (by simpa using fun q : x.1 = r.to => g q.symm)]
    rw [hl, if_pos e, if_pos e, ha]
  ·have hl : D6 fr x r = r := if_neg fun q => e q.1
   rw [hl, if_neg e, if_neg e]
/-! ### The lines of a leader and its followers -/
def As (n : Nat) (U D : Nat → List Ms) : List Lq := (List.range n).flatMap fun i : Nat => [⟨(i : Int) + 1, (n : Int) + 1, U i⟩, ⟨(n : Int) + 1, (i : Int) + 1, D i⟩]
theorem N1 {α β : Type} {f : α → List β} : ∀ {l : List α}, (∀ x ∈ l, (f x).length = 2) → (l.flatMap f).length = 2 * l.length
 | [], _ => rfl
 | x :: l, h => by
  rw [flatMap_cons, length_append, h x (mem_cons_self ..), N1 fun y hy => h y (mem_cons_of_mem _ hy), length_cons]; omega
theorem AL (n : Nat) (U D : Nat → List Ms) : (As n U D).length = 2 * n := by
 unfold As
 rw [N1 (fun _ _ => rfl), length_range]
theorem Rt {α β : Type} {f : α → List β} : ∀ {l : List α} (_ : ∀ x ∈ l, (f x).length = 2) {i : Nat} (hi : i < l.length) (j : Nat) (_ : j < 2), (l.flatMap f)[2 * i + j]? = (f l[i])[j]?
 | [], _, i, hi, _, _ => absurd hi (Nat.not_lt_zero _)
 | x :: l, hf, 0, _, j, hj => by
  rw [flatMap_cons, List.getElem?_append_left (by rw [hf x (mem_cons_self ..)]; omega)]
  simp
 | x :: l, hf, i + 1, hi, j, hj => by
  rw [flatMap_cons, List.getElem?_append_right (by rw [hf x (mem_cons_self ..)]; omega), hf x (mem_cons_self ..), show 2 * (i + 1) + j - 2 = 2 * i + j by omega]
  rw [Rt (fun y hy => hf y (mem_cons_of_mem _ hy)) (by simpa using hi) j hj]; rfl
theorem EM {n : Nat} {U D : Nat → List Ms} {i : Nat} (hi : i < n) (h : 2 * i < (As n U D).length) : (As n U D)[2 * i] = ⟨(i : Int) + 1, (n : Int) + 1, U i⟩ := by
 have h1 := Rt (f := fun i : Nat => ([⟨(i : Int) + 1, (n : Int) + 1, U i⟩, ⟨(n : Int) + 1, (i : Int) + 1, D i⟩] : List Lq)) (l := List.range n) (fun _ _ => rfl) (i := i) (by rw [length_range]; exact hi) 0 dQ
 rw [getElem_range] at h1
 have h2 : (As n U D)[2 * i]? = some ⟨(i : Int) + 1, (n : Int) + 1, U i⟩ := h1
 rw [List.getElem?_eq_getElem h] at h2
 exact Option.some.inj h2
theorem D9 {n : Nat} {U D : Nat → List Ms} {i : Nat} (hi : i < n) (h : 2 * i + 1 < (As n U D).length) : (As n U D)[2 * i + 1] = ⟨(n : Int) + 1, (i : Int) + 1, D i⟩ := by
 have h1 := Rt (f := fun i : Nat => ([⟨(i : Int) + 1, (n : Int) + 1, U i⟩, ⟨(n : Int) + 1, (i : Int) + 1, D i⟩] : List Lq)) (l := List.range n) (fun _ _ => rfl) (i := i) (by rw [length_range]; exact hi) 1 dQ
 rw [getElem_range] at h1
 have h2 : (As n U D)[2 * i + 1]? = some ⟨(n : Int) + 1, (i : Int) + 1, D i⟩ := h1
 rw [List.getElem?_eq_getElem h] at h2
 exact Option.some.inj h2
def A0 {α : Type} (f : Nat → α) (i : Nat) (x : α) : Nat → α := fun j => if j = i then x else f j
theorem FH (n : Nat) (U D : Nat → List Ms) (o : Lo) : EL ((n : Int) + 1) (As n U D) o = As n U fun i => D i ++ Df ((i : Int) + 1) o := by
 rw [OR]
 unfold As
 rw [map_flatMap]
 refine congrArg List.flatten (map_congr_left fun i hi => ?_)
 have hi := mem_range.1 hi
 simp only [map_cons, map_nil]
 rw [if_neg om, if_pos True.intro]
theorem GL {n : Nat} (U D : Nat → List Ms) {i : Nat} (hi : i < n) {o : Lo} (ho : ∀ x ∈ o, x.1 = (n : Int) + 1) : EL ((i : Int) + 1) (As n U D) o = As n (A0 U i (U i ++ o.map (·.2))) D := by
 rw [OR]
 unfold As
 rw [map_flatMap]
 refine congrArg List.flatten (map_congr_left fun j hj => ?_)
 have hj := mem_range.1 hj
 simp only [map_cons, map_nil]
 rw [if_neg (c := (n : Int) + 1 = (i : Int) + 1) om]
 unfold A0
 by_cases e : j = i
 ·subst e
  rw [if_pos rfl, if_pos rfl]
  have : Df ((n : Int) + 1) o = o.map (·.2) := by
   unfold Df
   rw [filter_eq_self.2 (fun x hx => by simpa using ho x hx)]
  rw [this]
 ·rw [if_neg om, if_neg e]
theorem Hr {n : Nat} (U D : Nat → List Ms) {i : Nat} (hi : i < n) (q : List Ms) : (As n U D).set (2 * i) ⟨(i : Int) + 1, (n : Int) + 1, q⟩ = As n (A0 U i q) D := by
 apply ext_getElem
 ·rw [length_set, AL, AL]
 ·intro j h1 h2
  rw [length_set] at h1
  have hj : j < 2 * n := by rw [AL] at h1; exact h1
  rw [getElem_set]
  obtain ⟨a, ha⟩ : ∃ a, j = 2 * a ∨ j = 2 * a + 1 := ⟨j / 2, by omega⟩
  rcases ha with ha | ha <;> subst ha
  ·rw [EM om h2, EM om h1]
   unfold A0
   by_cases e : a = i
   ·subst e; rw [if_pos rfl, if_pos rfl]
   ·rw [if_neg om, if_neg e]
  ·rw [D9 om h2, D9 om h1, if_neg om]
theorem Hl {n : Nat} (U D : Nat → List Ms) {i : Nat} (hi : i < n) (q : List Ms) : (As n U D).set (2 * i + 1) ⟨(n : Int) + 1, (i : Int) + 1, q⟩ = As n U (A0 D i q) := by
 apply ext_getElem
 ·rw [length_set, AL, AL]
 ·intro j h1 h2
  rw [length_set] at h1
  have hj : j < 2 * n := by rw [AL] at h1; exact h1
  rw [getElem_set]
  obtain ⟨a, ha⟩ : ∃ a, j = 2 * a ∨ j = 2 * a + 1 := ⟨j / 2, by omega⟩
  rcases ha with ha | ha <;> subst ha
  ·rw [EM om h2, EM om h1, if_neg om]
  ·rw [D9 om h2, D9 om h1]
   unfold A0
   by_cases e : a = i
   ·subst e; rw [if_pos rfl, if_pos rfl]
   ·rw [if_neg om, if_neg e]
structure Fl where
 f : Nat
 g : Nat
 x : Nat
 d : Nat
 Φ : Fw
 s : Ld
def flL (y : Fl) : List HP := [G4 y.f y.g y.Φ, BW y.g y.x y.s.Λ, CX y.x y.d y.s.ω, Bg y.d y.s.δ]
def G0 (y : Fl) : HP := CG (flL y)
section
variable {W : World} {n : Nat} {ds : List Deferred} {E : By} {K R : List HP} {X : Act → World → Prop}
theorem G.flAt {fs : List Fl} {i : Nat} (hi : i < fs.length) (hL : BT (Aj G0 fs) K R) (h : G W n ds E (G4 fs[i].f fs[i].g fs[i].Φ :: BW fs[i].g fs[i].x fs[i].s.Λ :: CX fs[i].x fs[i].d fs[i].s.ω :: Bg fs[i].d fs[i].s.δ :: Aj G0 (fs.eraseIdx i) :: R) X) : G W n ds E K X :=
 G.bigAt (f := G0) hi hL (G.unfold (q := flL fs[i]) (fun _ hp => hp) h)
theorem G.flTo {fs : List Fl} {i : Nat} (hi : i < fs.length) (y : Fl) (hL : Am [G4 y.f y.g y.Φ, BW y.g y.x y.s.Λ, CX y.x y.d y.s.ω, Bg y.d y.s.δ, Aj G0 (fs.eraseIdx i)] K R) (h : G W n ds E (Aj G0 (fs.set i y) :: R) X) : G W n ds E K X := by
  cases hL with
  | cons h1 hL => cases hL with
    | cons h2 hL => cases hL with
      | cons h3 hL => cases hL with
        | cons h4 hL =>
          refine G.fold (p := G0 y) (q := flL y) (.cons h1 (.cons h2 (.cons h3 (.cons h4 .nil)))) (fun _ hp => hp) ?_
          exact G.bigTo (f := G0) hi y rfl (.cons .here hL) h
theorem G.flSame {fs : List Fl} {i : Nat} (hi : i < fs.length) (hL : Am [G4 fs[i].f fs[i].g fs[i].Φ, BW fs[i].g fs[i].x fs[i].s.Λ, CX fs[i].x fs[i].d fs[i].s.ω, Bg fs[i].d fs[i].s.δ, Aj G0 (fs.eraseIdx i)] K R) (h : G W n ds E (Aj G0 fs :: R) X) : G W n ds E K X :=
 G.flTo hi fs[i] hL (by rw [set_getElem_self]; exact h)
end
def R5 (v : Value) (es : List En) : HP := CG [AV 42 11 v es.length (es.flatMap BX), Aj entR es]
theorem RA {v : Value} {es : List En} : ∀ h : Hp, R5 v es h → B5 11 h v es.length (es.flatMap BX) := fun h hp => by
 obtain ⟨h1, e1, p1⟩ := AZ hp
 exact Bm (AE p1) e1
theorem Uw (a b : HP) : CI b (CG [a, b]) := fun w hw => by
 obtain ⟨h1, h2, _, a1, a2, _, h3⟩ := hw
 obtain ⟨h4, e4, p4⟩ := AZ h3
 exact ⟨h4, fun b o e => a2 b o (e4 b o e), p4⟩
theorem Sq {v : Value} {es : List En} {e : En} (he : e ∈ es) (hk : Sg e) (hg : EnG e) : Uy (R5 v es) e :=
 (MU.grow (q := Aj entR es) ⟨AAZ he hk hg, fun y hy => ⟨none, 0, 0, (hk.subs y hy).2⟩⟩ (Uw _ _)).l
theorem Y2 {sz n m c : Nat} {a : Option Addr} {xs : List Value} {h : Hp} (hr : B5 sz h (.slice a n c) n xs) (hm : m ≤ n) (hxs : xs.length = n * sz) : B5 sz h (.slice a m c) m (xs.take (m * sz)) := by
 rcases hr with ⟨h0, h1, h2⟩ | ⟨b, off, cap, l, T, fr, hv, hb, hx, h3, h4⟩
 ·have : m = 0 := by omega
  subst this
  exact .inl ⟨rfl, by simp, a, c, rfl⟩
 ·simp only [Value.slice.injEq, true_and] at hv
  obtain ⟨rfl, rfl⟩ := hv
  have hms : m * sz ≤ n * sz := Nat.mul_le_mul_right _ hm
  refine .inr ⟨b, off, _, l, T, fr, rfl, hb, ?_, by omega, by omega⟩
  rw [← hx, take_take, Nat.min_eq_left hms]
theorem Qk {α : Type} {f : α → List Value} {sz : Nat} (hf : ∀ x, (f x).length = sz) : ∀ {l : List α}, (l.flatMap f).length = l.length * sz
 | [] => by simp
 | x :: l => by rw [flatMap_cons, length_append, hf, Qk hf, length_cons, Nat.succ_mul]; omega
theorem Uk {a : Option Addr} {c k : Nat} {es : List En} (hk : k ≤ es.length) : ∀ h : Hp, R5 (.slice a es.length c) es h → B5 11 h (.slice a (es.take k).length c) (es.take k).length ((es.take k).flatMap BX) := fun h hp => by
 have hl : (es.take k).length = k := by rw [length_take]; omega
 have h1 := Y2 (RA h hp) hk (Qk (f := BX) (sz := 11) (fun _ => rfl))
 rw [hl]
 have h2 : (es.flatMap BX).take (k * 11) = (es.take k).flatMap BX := by
  conv => lhs; rw [← take_append_drop k es, flatMap_append]
  rw [take_left' (by rw [Qk (f := BX) (sz := 11) (fun _ => rfl), hl])]
 rw [h2] at h1
 exact h1
/-! ### Weights: what comes of a word weighs less -/
def wD : Dn → Nat
 | .ep => 17 | .sync _ _ => 9 | .prop _ => 8 | .up _ => 1 | .com _ => 1 | .ping _ => 8
def wU : Um → Nat
 | .info => 24 | .ack _ _ => 16 | .synced => 8 | .acked _ => 7 | .pong => 7
def dw (l : List Dn) : Nat := (l.map wD).sum
def uw (l : List Um) : Nat := (l.map wU).sum
def ow (o : Ou) : Nat := dw (o.map (·.2))
theorem Uv (l k : List Dn) : dw (l ++ k) = dw l + dw k := by unfold dw; rw [map_append, sum_append]
theorem U5 (l k : List Um) : uw (l ++ k) = uw l + uw k := by unfold uw; rw [map_append, sum_append]
theorem MF (o p : Ou) : ow (o ++ p) = ow o + ow p := by unfold ow; rw [map_append, Uv]
theorem Wz : ∀ l : List Dn, l.length ≤ dw l
 | [] => Nat.zero_le _
 | d :: l => by
  have := Wz l
  have h1 : dw (d :: l) = wD d + dw l := rfl
  have h2 : 1 ≤ wD d := by cases d <;> simp [wD]
  rw [length_cons]; omega
theorem Wv : ∀ l : List Um, l.length ≤ uw l
 | [] => Nat.zero_le _
 | u :: l => by
  have := Wv l
  have h1 : uw (u :: l) = wU u + uw l := rfl
  have h2 : 1 ≤ wU u := by cases u <;> simp [wU]
  rw [length_cons]; omega
theorem Vl {w : Nat} : ∀ {l : List Dn}, (∀ d ∈ l, wD d ≤ w) → dw l ≤ w * l.length
 | [], _ => Nat.zero_le _
 | d :: l, h => by
  have h1 : dw (d :: l) = wD d + dw l := rfl
  have h2 := Vl (l := l) fun x hx => h x (mem_cons_of_mem _ hx)
  have h3 := h d (mem_cons_self ..)
  rw [length_cons, Nat.mul_succ]; omega
/-! ### All lines -/
def Fm (f : Nat → Nat) : Nat → Nat
 | 0 => 0
 | n + 1 => Fm f n + f n
theorem Sc {f g : Nat → Nat} : ∀ n, (∀ i, i < n → f i ≤ g i) → Fm f n ≤ Fm g n
 | 0, _ => Nat.le_refl _
 | n + 1, h => Nat.add_le_add (Sc n fun i hi => h i om) (h n om)
theorem Kt (f g : Nat → Nat) : ∀ n, Fm (fun i => f i + g i) n = Fm f n + Fm g n
 | 0 => rfl
 | n + 1 => by show Fm _ n + (f n + g n) = _; rw [Kt f g n]; show _ = (Fm f n + f n) + (Fm g n + g n); omega
theorem SK (f : Nat → Nat) {i : Nat} : ∀ n, i < n → f i ≤ Fm f n
 | 0, h => absurd h (Nat.not_lt_zero _)
 | n + 1, h => by
  show _ ≤ Fm f n + f n
  by_cases e : i = n
  ·subst e; omega
  ·have := SK f n (i := i) om; omega
theorem QJ (f : Nat → Nat) (i x : Nat) : ∀ n, Fm (fun j => if j = i then x else f j) n + (if i < n then f i else 0) = Fm f n + (if i < n then x else 0)
 | 0 => by simp [Fm]
 | n + 1 => by
  have ih := QJ f i x n
  show Fm _ n + (if n = i then x else f n) + _ = Fm f n + f n + _
  by_cases e : n = i
  ·subst e
   rw [if_pos rfl, if_pos om, if_pos om]
   rw [if_neg om, if_neg om] at ih
   omega
  ·rw [if_neg e]
   by_cases g : i < n
   ·rw [if_pos om, if_pos om]; rw [if_pos g, if_pos g] at ih; omega
   ·rw [if_neg om, if_neg om]; rw [if_neg g, if_neg g] at ih; omega
def cw (c : Cv) : Nat := uw c.U + dw c.D
def G7 (n : Nat) (cv : Nat → Cv) : Nat := Fm (fun i => cw (cv i)) n
theorem ZT (x : Int × Dn) (o : Ou) (i : Nat) : dw (Dz i (x :: o)) = (if x.1 = (i : Int) + 1 then wD x.2 else 0) + dw (Dz i o) := by
 unfold Dz
 rw [filter_cons]
 by_cases e : x.1 = (i : Int) + 1
 ·rw [if_pos (by simpa using e), if_pos e]; rfl
 ·rw [if_neg (by simpa using e), if_neg e, Nat.zero_add]
theorem QF (x : Int) (w : Nat) : ∀ n : Nat, Fm (fun i => if x = (i : Int) + 1 then w else 0) n ≤ if 1 ≤ x ∧ x ≤ n then w else 0
 | 0 => Nat.zero_le _
 | n + 1 => by
  have ih := QF x w n
  show Fm _ n + (if x = (n : Int) + 1 then w else 0) ≤ _
  by_cases e : x = (n : Int) + 1
  ·rw [if_pos e, if_pos om]; rw [if_neg om] at ih; omega
  ·rw [if_neg e]
   split at ih
   ·rw [if_pos om]; omega
   ·omega
theorem QI (n : Nat) : ∀ o : Ou, Fm (fun i => dw (Dz i o)) n ≤ ow o
 | [] => by
  have : (fun i => dw (Dz i [])) = fun _ => 0 := rfl
  rw [this]
  induction n with
  | zero => exact Nat.le_refl _
  | succ n ih => exact ih
 | x :: o => by
  have h1 : (fun i => dw (Dz i (x :: o))) = fun i : Nat => (if x.1 = (i : Int) + 1 then wD x.2 else 0) + dw (Dz i o) := funext fun i => ZT x o i
  rw [h1, Kt]
  have h2 := QF x.1 (wD x.2) n
  have h3 := QI n o
  have h4 : ow (x :: o) = wD x.2 + ow o := rfl
  split at h2 <;> omega
theorem Ur (n : Nat) (cv : Nat → Cv) (o : Ou) : G7 n (down cv o) ≤ G7 n cv + ow o := by
 have h1 : (fun i => cw (down cv o i)) = fun i => cw (cv i) + dw (Dz i o) := by
  funext i
  show uw (cv i).U + dw ((cv i).D ++ Dz i o) = uw (cv i).U + dw (cv i).D + _
  rw [Uv]; omega
 unfold G7
 rw [h1, Kt]
 have := QI n o
 omega
theorem Vt {n : Nat} (cv : Nat → Cv) {i : Nat} (hi : i < n) (c : Cv) : G7 n (B7 cv i c) + cw (cv i) = G7 n cv + cw c := by
 have h := QJ (fun j => cw (cv j)) i (cw c) n
 rw [if_pos hi, if_pos hi] at h
 have h1 : (fun j => cw (B7 cv i c j)) = fun j => if j = i then cw c else cw (cv j) := by
  funext j
  unfold B7
  split <;> rfl
 unfold G7
 rw [h1]; exact h
theorem ZW {n : Nat} (cv : Nat → Cv) {i : Nat} (hi : i < n) : (cv i).U.length ≤ G7 n cv ∧ (cv i).D.length ≤ G7 n cv := by
 have h := SK (fun j => cw (cv j)) n hi
 have h1 := Wv (cv i).U
 have h2 := Wz (cv i).D
 have h3 : cw (cv i) = uw (cv i).U + dw (cv i).D := rfl
 have h4 : cw (cv i) ≤ G7 n cv := h
 omega
/-! ### The leader's share -/
def Hh (ph : Int) : Nat := if ph = 0 then 162 else if ph = 1 then 60 else if ph = 2 then 6 else 0
theorem Jq {w : Nat} {sv : List Sv} (hn : sv.length ≤ 6) {q : Sv → Bool} {d : Sv → Dn} (h : ∀ s, wD (d s) ≤ w) : ow ((sv.filter q).map fun s => (s.id, d s)) ≤ w * 6 := by
 have h1 : (((sv.filter q).map fun s => (s.id, d s)).map (·.2)).length ≤ 6 := by
  rw [length_map, length_map]
  exact Nat.le_trans (length_filter_le _ _) hn
 refine Nat.le_trans (Vl (w := w) fun x hx => ?_) (Nat.mul_le_mul_left w h1)
 rw [map_map] at hx
 obtain ⟨s, -, rfl⟩ := mem_map.1 hx
 exact h s
theorem RG {b : Bool} {f : La → La × Ou} {r : La × Ou} {M : Nat} (h : ow r.2 + Hh r.1.ph ≤ M) (hn : r.1.sv.length ≤ 6) (hf : b = true → ow (f r.1).2 + Hh (f r.1).1.ph ≤ Hh r.1.ph ∧ (f r.1).1.sv.length ≤ 6) : ow (Aw b f r).2 + Hh (Aw b f r).1.ph ≤ M ∧ (Aw b f r).1.sv.length ≤ 6 := by
 unfold Aw
 split
 ·rename_i hb
  obtain ⟨h1, h2⟩ := hf hb
  refine ⟨?_, h2⟩
  show ow (r.2 ++ (f r.1).2) + Hh (f r.1).1.ph ≤ _
  rw [MF]; omega
 ·exact ⟨h, hn⟩
theorem Yz (κ : List Int → Int) (L : La) (hn : L.sv.length ≤ 6) : ow (Dl κ L).2 + Hh (Dl κ L).1.ph ≤ Hh L.ph + 6 := by
 have e0 : ow (L, ([] : Ou)).2 + Hh (L, ([] : Ou)).1.ph ≤ Hh L.ph := by show 0 + Hh L.ph ≤ _; omega
 have e1 := RG (b := decide (L.ph = 0) && Cq L 1) (f := Fh) e0 hn fun hb => by
  rw [Bool.and_eq_true] at hb
  have p : L.ph = 0 := by simpa using hb.1
  have h := Jq (w := 17) hn (q := fun s => decide (s.st = 1)) (d := fun _ => .ep) (fun s => Nat.le_refl _)
  refine ⟨?_, by show (L.sv.map _).length ≤ 6; rw [length_map]; exact hn⟩
  show ow ((L.sv.filter fun s => decide (s.st = 1)).map fun s => (s.id, .ep)) + Hh 1 ≤ Hh L.ph
  rw [p]
  show _ + 60 ≤ 162
  omega
 have e2 := RG (b := decide ((CL L).1.ph = 1) && Cq (CL L).1 3) (f := Cc) e1.1 e1.2 fun hb => by
  rw [Bool.and_eq_true] at hb
  have p : (CL L).1.ph = 1 := by simpa using hb.1
  have h := Jq (w := 9) e1.2 (q := fun s => decide (s.st = 3)) (d := fun s => .sync (s.marks.headD 0) (CL L).1.h) (fun s => Nat.le_refl _)
  refine ⟨?_, by show ((CL L).1.sv.map _).length ≤ 6; rw [length_map]; exact e1.2⟩
  show ow (((CL L).1.sv.filter fun s => decide (s.st = 3)).map fun s => (s.id, .sync (s.marks.headD 0) (CL L).1.h)) + Hh 2 ≤ Hh (CL L).1.ph
  rw [p]
  show _ + 6 ≤ 60
  have h : ow (((CL L).1.sv.filter fun s => decide (s.st = 3)).map fun s => (s.id, .sync (s.marks.headD 0) (CL L).1.h)) ≤ 9 * 6 := h
  omega
 have e3 := RG (b := decide ((DD (CL L)).1.ph = 2) && Cq (DD (CL L)).1 5) (f := Sw) e2.1 e2.2 fun hb => by
  rw [Bool.and_eq_true] at hb
  have p : (DD (CL L)).1.ph = 2 := by simpa using hb.1
  have h := Jq (w := 1) e2.2 (q := fun s => decide ((5 : Int) ≤ s.st)) (d := fun _ => .up (zt (DD (CL L)).1.h)) (fun s => Nat.le_refl _)
  refine ⟨?_, e2.2⟩
  show ow (((DD (CL L)).1.sv.filter fun s => decide ((5 : Int) ≤ s.st)).map fun s => (s.id, .up (zt (DD (CL L)).1.h))) + Hh 3 ≤ Hh (DD (CL L)).1.ph
  rw [p]
  show _ + 0 ≤ 6
  have h : ow (((DD (CL L)).1.sv.filter fun s => decide ((5 : Int) ≤ s.st)).map fun s => (s.id, .up (zt (DD (CL L)).1.h))) ≤ 1 * 6 := h
  omega
 obtain ⟨r, hr⟩ : ∃ r, Do (DD (CL L)) = r := ⟨_, rfl⟩
 have e3 : ow r.2 + Hh r.1.ph ≤ Hh L.ph ∧ r.1.sv.length ≤ 6 := by rw [← hr]; exact e3
 have hg : Dl κ L = Gx κ r := by unfold Dl; rw [hr]
 rw [hg]
 unfold Gx Aw
 split
 ·rename_i hb
  have hb : r.1.ph = 3 := by simpa using hb
  show ow (r.2 ++ (CN κ r.1).2) + Hh (CN κ r.1).1.ph ≤ _
  rw [MF]
  have hp : (CN κ r.1).1.ph = r.1.ph := by unfold CN; split <;> rfl
  have hc : ow (CN κ r.1).2 ≤ 6 := by
   unfold CN
   split
   ·exact Jq (w := 1) e3.2 (q := fun s => decide ((5 : Int) ≤ s.st)) (d := fun _ => .com (κ (BD r.1))) (fun s => Nat.le_refl _)
   ·exact Nat.zero_le _
  rw [hp]; omega
 ·have := e3.1
  omega
theorem W8 (L : La) (s : Sv) (u : Um) : dw (A2 L s u).2 + 7 ≤ wU u := by
 cases u <;> unfold A2 <;> dsimp only <;> repeat' split
 all_goals simp [dw, wD, wU]
theorem Y1 (κ : List Int → Int) (L : La) (i : Nat) (s : Sv) (u : Um) (hn : L.sv.length ≤ 6) : ow (CW κ L i s u).2 + Hh (CW κ L i s u).1.ph + 1 ≤ Hh L.ph + wU u := by
 have h1 := W8 L s u
 have h2 := Yz κ (CR L i s u).1 (by show (L.set i _).sv.length ≤ 6; rw [L.set_len]; exact hn)
 have h3 : ow (CR L i s u).2 = dw (A2 L s u).2 := by
  show dw (((A2 L s u).2.map fun d => (s.id, d)).map (·.2)) = _
  rw [map_map]
  exact congrArg dw (map_id _)
 unfold CW
 show ow ((CR L i s u).2 ++ _) + _ + 1 ≤ _
 rw [MF]
 have h4 : Hh (CR L i s u).1.ph = Hh L.ph := rfl
 dsimp only
 omega
theorem XE {F F1 : Jc} {d : Dn} {o : List Um} (h : Bz F d = some (F1, o)) : uw o + 1 ≤ wD d := by
 cases d <;> unfold Bz at h <;> dsimp only at h <;> split at h <;> cases h
 all_goals first | exact Nat.le_refl _ | decide
/-! ### Messages and words, line by line -/
def Dj (q : HP) : List Ms → List Um → Prop
 | [], [] => True
 | m :: l, u :: k => Nm q m u ∧ Dj q l k
 | _, _ => False
def Dm (H : List En) (q : HP) : List Ms → List Dn → Prop
 | [], [] => True
 | m :: l, d :: k => Ka H q m d ∧ Dm H q l k
 | _, _ => False
theorem Dj.app {q : HP} : ∀ {l k : List Ms} {p r : List Um}, Dj q l p → Dj q k r → Dj q (l ++ k) (p ++ r)
 | [], _, [], _, _, h => h
 | _ :: _, _, _ :: _, _, ⟨a, b⟩, h => ⟨a, Dj.app b h⟩
theorem Dj.grow {q q2 : HP} (g : CI q q2) : ∀ {l : List Ms} {p : List Um}, Dj q l p → Dj q2 l p
 | [], [], _ => trivial
 | _ :: _, _ :: _, ⟨a, b⟩ => ⟨a.grow g, Dj.grow g b⟩
theorem Dj.len {q : HP} : ∀ {l : List Ms} {p : List Um}, Dj q l p → l.length = p.length
 | [], [], _ => rfl
 | _ :: _, _ :: _, ⟨_, b⟩ => congrArg (· + 1) (Dj.len b)
theorem Dj.top {q : HP} {m : Ms} {l : List Ms} {p : List Um} (h : Dj q (m :: l) p) : ∃ u k, p = u :: k ∧ Nm q m u ∧ Dj q l k := by
 cases p with
 | nil => exact h.elim
 | cons u k => exact ⟨u, k, rfl, h.1, h.2⟩
theorem Dj.nil {q : HP} {p : List Um} (h : Dj q [] p) : p = [] := by
 cases p with
 | nil => rfl
 | cons u k => exact h.elim
theorem Dm.app {H : List En} {q : HP} : ∀ {l k : List Ms} {p r : List Dn}, Dm H q l p → Dm H q k r → Dm H q (l ++ k) (p ++ r)
 | [], _, [], _, _, h => h
 | _ :: _, _, _ :: _, _, ⟨a, b⟩, h => ⟨a, Dm.app b h⟩
theorem Dm.grow {H : List En} {q q2 : HP} (g : CI q q2) : ∀ {l : List Ms} {p : List Dn}, Dm H q l p → Dm H q2 l p
 | [], [], _ => trivial
 | _ :: _, _ :: _, ⟨a, b⟩ => ⟨a.grow g, Dm.grow g b⟩
theorem Dm.hist {H : List En} {q : HP} (e : En) : ∀ {l : List Ms} {p : List Dn}, Dm H q l p → Dm (H ++ [e]) q l p
 | [], [], _ => trivial
 | _ :: _, _ :: _, ⟨a, b⟩ => ⟨a.hist e, Dm.hist e b⟩
theorem Dm.len {H : List En} {q : HP} : ∀ {l : List Ms} {p : List Dn}, Dm H q l p → l.length = p.length
 | [], [], _ => rfl
 | _ :: _, _ :: _, ⟨_, b⟩ => congrArg (· + 1) (Dm.len b)
theorem Dm.top {H : List En} {q : HP} {m : Ms} {l : List Ms} {p : List Dn} (h : Dm H q (m :: l) p) : ∃ d k, p = d :: k ∧ Ka H q m d ∧ Dm H q l k := by
 cases p with
 | nil => exact h.elim
 | cons d k => exact ⟨d, k, rfl, h.1, h.2⟩
theorem Dm.nil {H : List En} {q : HP} {p : List Dn} (h : Dm H q [] p) : p = [] := by
 cases p with
 | nil => rfl
 | cons u k => exact h.elim
theorem Gp.on {H : List En} {q : HP} (i : Nat) : ∀ {o : Lo} {p : Ou}, Gp H q o p → Dm H q (Df ((i : Int) + 1) o) (Dz i p)
 | [], [], _ => trivial
 | x :: l, y :: p, ⟨a, b, c⟩ => by
  have ih := Gp.on i c
  unfold Df Dz at ih ⊢
  rw [filter_cons, filter_cons]
  by_cases e : x.1 = (i : Int) + 1
  ·rw [if_pos (by simpa using e), if_pos (by simpa using a ▸ e)]
   exact ⟨b, ih⟩
  ·rw [if_neg (by simpa using e), if_neg (by simpa using a ▸ e)]
   exact ih
theorem Gp.cells {H : List En} {q : HP} : ∀ {o : Lo} {p : Ou}, Gp H q o p → ∀ x ∈ o, ∀ v ∈ BF x.2, AD v = true
 | [], [], _ => fun _ h => by cases h
 | x :: l, y :: p, ⟨_, b, c⟩ => fun z hz => by
  rcases mem_cons.1 hz with rfl | hz
  ·exact b.a.cells
  ·exact Gp.cells c z hz
/-! ### What a follower says, as a message -/
def Zu (m : Mo) (mv : Value) : Ms := ⟨m.kind, m.ep, m.zx, m.nu, 0, mv, [], BK, [], AA 0, AA 0, AU [], AU [], BK, AA 0, AA 0, .bool false, BK, BK, BK⟩
theorem AAr {q : HP} {u : Um} (hz : ∀ z, u = .acked z → I64 z) {mv : Value} (hs : ∃ a c, mv = .slice a (Mb u).marks.length c) (hr : ∀ h : Hp, q h → B5 1 h mv (Mb u).marks.length (Aq (Mb u).marks)) : Nm q (Zu (Mb u) mv) u := by
 have hc : AD mv = true := by obtain ⟨a, c, rfl⟩ := hs; rfl
 have hcells : ∀ v ∈ BF (Zu (Mb u) mv), AD v = true := by
  intro v h
  simp only [BF, Zu, mem_cons, not_mem_nil, or_false] at h
  rcases h with h | h | h | h | h | h | h | h | h | h | h | h | h | h | h | h | h | h | h <;> subst h <;> first | rfl | assumption
 have h0 : ∀ h : Hp, q h → B5 11 h BK 0 [] := fun _ _ => .inl ⟨rfl, rfl, _, _, rfl⟩
 have i0 : I64 0 := by decide
 have i1 : I64 1 := by decide
 have im : I64 (-1) := by decide
 have i2 : I64 2 := by decide
 have i3 : I64 3 := by decide
 have i5 : I64 5 := by decide
 have i8 : I64 8 := by decide
 have i11 : I64 11 := by decide
 have A : ∀ {k e z n : Int}, I64 k → I64 e → I64 z → I64 n → (Mb u).kind = k → (Mb u).ep = e → (Mb u).zx = z → (Mb u).nu = n → Or q (Zu (Mb u) mv) := fun a b c d e1 e2 e3 e4 =>
  ⟨show I64 (Mb u).kind from e1 ▸ a, show I64 (Mb u).ep from e2 ▸ b, show I64 (Mb u).zx from e3 ▸ c, show I64 (Mb u).nu from e4 ▸ d, hcells, Nat.zero_le _, h0, Nat.zero_le _, fun _ h => by cases h⟩
 cases u with
 | info => exact ⟨A i1 i1 i0 i0 rfl rfl rfl rfl, rfl, rfl⟩
 | ack b k =>
  refine ⟨?_, rfl, rfl, rfl, hs, hr⟩
  cases b
  ·exact A i3 i2 i0 im rfl rfl rfl rfl
  ·exact A i3 i2 i0 i1 rfl rfl rfl rfl
 | synced => exact ⟨A i5 i2 i0 i0 rfl rfl rfl rfl, rfl, rfl⟩
 | acked z => exact ⟨A i8 i0 (hz z rfl) i0 rfl rfl rfl rfl, rfl, rfl⟩
 | pong => exact ⟨A i11 i0 i0 i0 rfl rfl rfl rfl, rfl⟩
def G8 (mq : Option Mo) (ld : Int) (q : HP) (o : Lo) (q2 : HP) : Prop :=
 (mq = none ∧ o = [] ∧ q2 = q) ∨ ∃ m mv, mq = some m ∧ o = [(ld, Zu m mv)] ∧ q2 = CG [Cr mv m.marks, q] ∧ ∃ a c, mv = .slice a m.marks.length c
theorem G8.len {mq : Option Mo} {ld : Int} {q q2 : HP} {o : Lo} (h : G8 mq ld q o q2) : o.length = Tm mq ∧ o.length ≤ 1 := by
 rcases h with ⟨rfl, rfl, -⟩ | ⟨m, mv, rfl, rfl, -⟩
 ·exact ⟨rfl, by decide⟩
 ·exact ⟨rfl, Nat.le_refl _⟩
theorem G8.grow {mq : Option Mo} {ld : Int} {q q2 : HP} {o : Lo} (h : G8 mq ld q o q2) : CI q q2 := by
 rcases h with ⟨-, -, rfl⟩ | ⟨m, mv, -, -, rfl, -⟩
 ·exact CI.rfl _
 ·exact CI.more [_] q
theorem G8.to {mq : Option Mo} {ld : Int} {q q2 : HP} {o : Lo} (h : G8 mq ld q o q2) : ∀ x ∈ o, x.1 = ld := by
 rcases h with ⟨-, rfl, -⟩ | ⟨m, mv, -, rfl, -⟩
 ·intro x hx; cases hx
 ·intro x hx; rw [mem_singleton] at hx; rw [hx]
theorem G8.words {mq : Option Mo} {ld : Int} {q q2 : HP} {o : Lo} (h : G8 mq ld q o q2) {w : List Um} (hw : mq = w.head?.map Mb) (hl : w.length ≤ 1) (hz : ∀ u ∈ w, ∀ z, u = .acked z → I64 z) : Dj q2 (o.map (·.2)) w := by
 cases w with
 | nil =>
  rcases h with ⟨-, rfl, -⟩ | ⟨m, mv, e, -⟩
  ·exact trivial
  ·rw [e] at hw; cases hw
 | cons u w =>
  have : w = [] := eq_nil_of_length_eq_zero (by simpa using hl)
  subst this
  rcases h with ⟨e, -⟩ | ⟨m, mv, e, rfl, rfl, hs⟩
  ·rw [e] at hw; cases hw
  ·have em : m = Mb u := by rw [e] at hw; exact Option.some.inj hw
   subst em
   refine ⟨AAr (hz u (mem_cons_self ..)) hs fun h hp => ?_, trivial⟩
   obtain ⟨h1, e1, p1⟩ := AZ hp
   exact Bm (AE p1) e1
theorem G8.cells {mq : Option Mo} {ld : Int} {q q2 : HP} {o : Lo} (h : G8 mq ld q o q2) : ∀ x ∈ o, ∀ v ∈ BF x.2, AD v = true := by
 rcases h with ⟨-, rfl, -⟩ | ⟨m, mv, -, rfl, -, ⟨a, c, rfl⟩⟩
 ·intro x hx; cases hx
 ·intro x hx v hv
  rw [mem_singleton] at hx
  subst hx
  simp only [BF, Zu, mem_cons, not_mem_nil, or_false] at hv
  rcases hv with h | h | h | h | h | h | h | h | h | h | h | h | h | h | h | h | h | h | h <;> subst h <;> rfl
section
variable {W : World} {n : Nat} {ds : List Deferred} {E : By} {K R : List HP} {X : Act → World → Prop}
end
structure Sy where
 H : List En
 L : La
 t : Int
 sL : Ld
 q : HP
 U : Nat → List Ms
 D : Nat → List Ms
 fs : List Fl
def NF : Int := 1000000000
def CF : Int := 1000
def ZB (n : Nat) (H : List En) (F : Jc) (Φ : Fw) (s : Ld) : Prop := Mf ((n : Int) + 1) H F Φ s (NF + 600000000 * F.ph + 4000000 * F.k) (CF + 300 * F.ph + 2 * F.k)
structure C9 (n : Nat) (S : Sy) (cv : Nat → Cv) (N C : Int) (M : Nat) : Prop where
 hH : Hz S.H
 hh : S.L.h = S.H.length
 le : FX S.L
 ls : KS S.L S.H S.sL (N + 4000000 * S.L.ph) (C + 2 * S.L.ph)
 len : S.L.sv.length = n
 inv : BJ S.L cv
 st : GA Ck S.L
 fl : S.fs.length = n
 fo : ∀ i (h : i < S.fs.length), ZB n S.H (cv i).F S.fs[i].Φ S.fs[i].s ∧ 0 ≤ S.fs[i].Φ.sil
 up : ∀ i, i < n → Dj S.q (S.U i) (cv i).U
 dn : ∀ i, i < n → Dm S.H S.q (S.D i) (cv i).D
 w : G7 n cv + Hh S.L.ph ≤ M
theorem C9.few {n : Nat} {S : Sy} {cv : Nat → Cv} {N C : Int} {M : Nat} (g : C9 n S cv N C M) : ∀ r ∈ As n S.U S.D, r.l.length ≤ M := fun r hr => by
 unfold As at hr
 obtain ⟨i, hi, hr⟩ := mem_flatMap.1 hr
 have hi := mem_range.1 hi
 have h1 := (g.up i hi).len
 have h2 := (g.dn i hi).len
 have h3 := ZW cv hi
 have h4 := g.w
 simp only [mem_cons, not_mem_nil, or_false] at hr
 rcases hr with rfl | rfl
 ·show (S.U i).length ≤ M; omega
 ·show (S.D i).length ≤ M; omega
theorem C9.agree {n : Nat} {S : Sy} {cv : Nat → Cv} {N C : Int} {M : Nat} (g : C9 n S cv N C M) : ∀ y ∈ S.fs, ∃ (k : Nat) (ka kc : Int), k ≤ S.H.length ∧ y.s.Λ = BO (S.H.take k) ka kc ∧ Iq y.s.Λ := fun y hy => by
 obtain ⟨i, hi, rfl⟩ := mem_iff_getElem.1 hy
 obtain ⟨h, -⟩ := g.fo i hi
 exact ⟨_, _, _, h.k, h.lg.Λ, h.lg.w.w⟩
theorem JD {b : Bool} {f : La → La × Ou} {r : La × Ou} (hf : ∀ L, (f L).1.sv.length = L.sv.length) : (Aw b f r).1.sv.length = r.1.sv.length := by
 unfold Aw
 split
 ·exact hf _
 ·rfl
theorem Qo (κ : List Int → Int) (L : La) : (Dl κ L).1.sv.length = L.sv.length := by
 unfold Dl Gx Do DD CL
 rw [JD (fun L => by unfold CN; split <;> rfl), JD (fun L => rfl), JD (fun L => by show (L.sv.map _).length = _; rw [length_map]), JD (fun L => by show (L.sv.map _).length = _; rw [length_map])]
theorem WF (κ : List Int → Int) (L : La) (i : Nat) (s : Sv) (u : Um) : (CW κ L i s u).1.sv.length = L.sv.length := by
 show (Dl κ (CR L i s u).1).1.sv.length = _
 rw [Qo]; exact L.set_len i _
theorem RF : ∀ l : List Int, l ≠ [] → Ck l ∈ l := fun _ h => OQ _ h
section
variable {n : Nat} {S : Sy} {cv : Nat → Cv} {N C : Int} {M : Nat}
theorem C9.topU (g : C9 n S cv N C M) {i : Nat} (hi : i < n) {m : Ms} {Q : List Ms} (hQ : S.U i = m :: Q) : ∃ u V, (cv i).U = u :: V ∧ Nm S.q m u ∧ Dj S.q Q V := by
 have h := g.up i hi
 rw [hQ] at h
 exact h.top
theorem C9.topD (g : C9 n S cv N C M) {i : Nat} (hi : i < n) {m : Ms} {Q : List Ms} (hQ : S.D i = m :: Q) : ∃ d V, (cv i).D = d :: V ∧ Ka S.H S.q m d ∧ Dm S.H S.q Q V := by
 have h := g.dn i hi
 rw [hQ] at h
 exact h.top
theorem C9.hear (g : C9 n S cv N C M) {i : Nat} (hi : i < n) (hil : i < S.L.sv.length) {u : Um} {V : List Um} {Q : List Ms} (hU : (cv i).U = u :: V) (hV : Dj S.q Q V) {o2 : Lo} {s2 : Ld} {q2 : HP} (hG : HC S.H S.q (CW Ck S.L i (S.L.sv[i].hrd S.t) u) o2 s2 q2 N C 31) :
  C9 n ⟨S.H, (CW Ck S.L i (S.L.sv[i].hrd S.t) u).1, S.t, s2, q2, A0 S.U i Q, fun j => S.D j ++ Df ((j : Int) + 1) o2, S.fs⟩ (down (B7 cv i ((cv i).rest V)) (CW Ck S.L i (S.L.sv[i].hrd S.t) u).2) N C M := by
 have hI := BJ.hear RF g.inv hil hU S.t
 refine ⟨g.hH, hG.hh, hG.le, hG.ls, (WF ..).trans g.len, hI.1, hI.2, g.fl, fun j hj => ?_, fun j hj => ?_, fun j hj => ?_, ?_⟩
 ·have e : (down (B7 cv i ((cv i).rest V)) (CW Ck S.L i (S.L.sv[i].hrd S.t) u).2 j).F = (cv j).F := by
   show (B7 cv i ((cv i).rest V) j).F = _
   unfold B7
   split
   ·rename_i e; rw [e]; rfl
   ·rfl
  rw [e]; exact g.fo j hj
 ·show Dj q2 (A0 S.U i Q j) (B7 cv i ((cv i).rest V) j).U
  unfold A0 B7
  by_cases e : j = i
  ·rw [if_pos e, if_pos e]; exact hV.grow hG.gr
  ·rw [if_neg e, if_neg e]; exact (g.up j hj).grow hG.gr
 ·show Dm S.H q2 (S.D j ++ _) ((B7 cv i ((cv i).rest V) j).D ++ Dz j _)
  have e : (B7 cv i ((cv i).rest V) j).D = (cv j).D := by
   unfold B7
   split
   ·rename_i e; rw [e]; rfl
   ·rfl
  rw [e]
  exact ((g.dn j hj).grow hG.gr).app (hG.ou.on j)
 ·have h1 := Ur n (B7 cv i ((cv i).rest V)) (CW Ck S.L i (S.L.sv[i].hrd S.t) u).2
  have h2 := Vt cv hi ((cv i).rest V)
  have h3 := Y1 Ck S.L i (S.L.sv[i].hrd S.t) u g.le.n
  have h4 : cw (cv i) = wU u + uw V + dw (cv i).D := by unfold cw; rw [hU]; rfl
  have h5 : cw ((cv i).rest V) = uw V + dw (cv i).D := rfl
  have h6 := g.w
  show G7 n (down (B7 cv i ((cv i).rest V)) (CW Ck S.L i (S.L.sv[i].hrd S.t) u).2) + Hh (CW Ck S.L i (S.L.sv[i].hrd S.t) u).1.ph ≤ M
  omega
theorem C9.fhear (g : C9 n S cv N C M) {i : Nat} (hi : i < n) (hif : i < S.fs.length) {d : Dn} {V : List Dn} {m : Ms} {Q : List Ms} (hD : (cv i).D = d :: V) (hm : Ka S.H S.q m d) (hV : Dm S.H S.q Q V) {o : Lo} {q2 : HP} (hO : G8 (AX S.fs[i].Φ S.fs[i].s m).2.2 S.fs[i].Φ.ld S.q o q2) :
  ∃ F1 w, Bz (cv i).F d = some (F1, w) ∧ (∀ x ∈ o, x.1 = (n : Int) + 1) ∧ C9 n ⟨S.H, S.L, S.t, S.sL, q2, A0 S.U i (S.U i ++ o.map (·.2)), A0 S.D i Q, S.fs.set i ⟨S.fs[i].f, S.fs[i].g, S.fs[i].x, S.fs[i].d, (AX S.fs[i].Φ S.fs[i].s m).1, (AX S.fs[i].Φ S.fs[i].s m).2.1⟩⟩ (B7 cv i ⟨F1, (cv i).U ++ w, V⟩) N C M ∧ (AX S.fs[i].Φ S.fs[i].s m).1.sil = 0 := by
 obtain ⟨F1, w, ha, hI⟩ := g.inv.fhear (i := i) (by rw [g.len]; exact hi) hD
 obtain ⟨hfo, -⟩ := g.fo i hif
 have hr := hfo.rng
 have hk := hfo.k
 have hfew := g.hH.few
 obtain ⟨y1, y2, y3, y4⟩ := VN g.hH hfo (by unfold CF; omega) hm ha
 have hld : S.fs[i].Φ.ld = (n : Int) + 1 := hfo.ld
 have hz : ∀ u ∈ w, ∀ z, u = .acked z → I64 z := fun u hu z e => by
  subst e
  cases d <;> unfold Bz at ha <;> dsimp only at ha <;> split at ha <;> cases ha <;> try (rw [mem_singleton] at hu; cases hu; done)
  all_goals try (cases hu; done)
  rw [mem_singleton] at hu
  cases hu
  obtain ⟨-, -, hj, -⟩ := hm.is
  exact FU om
 refine ⟨F1, w, ha, fun x hx => (hO.to x hx).trans hld, ⟨g.hH, g.hh, g.le, g.ls, g.len, hI, g.st, by rw [length_set]; exact g.fl, fun j hj => ?_, fun j hj => ?_, fun j hj => ?_, ?_⟩, y2⟩
 ·have hj2 : j < S.fs.length := by rw [length_set] at hj; exact hj
  show ZB n S.H (B7 cv i _ j).F ((S.fs.set i _)[j]'hj).Φ ((S.fs.set i _)[j]'hj).s ∧ 0 ≤ ((S.fs.set i _)[j]'hj).Φ.sil
  rw [getElem_set]
  unfold B7
  by_cases e : i = j
  ·subst e
   rw [if_pos rfl, if_pos rfl]
   refine ⟨?_, by show 0 ≤ (AX S.fs[i].Φ S.fs[i].s m).1.sil; omega⟩
   refine ⟨y1.ld, y1.ph, y1.com, y1.ep, y1.heard, y1.rng, y1.k, y1.k4, y1.lg.more ?_ ?_⟩
   ·show _ ≤ NF + 600000000 * F1.ph + 4000000 * F1.k; omega
   ·show _ ≤ CF + 300 * F1.ph + 2 * F1.k; omega
  ·rw [if_neg e, if_neg (fun q => e q.symm)]
   exact g.fo j hj2
 ·show Dj q2 (A0 S.U i _ j) (B7 cv i _ j).U
  unfold A0 B7
  by_cases e : j = i
  ·subst e
   rw [if_pos rfl, if_pos rfl]
   exact ((g.up j hj).grow hO.grow).app (hO.words y3 y4 hz)
  ·rw [if_neg e, if_neg e]; exact (g.up j hj).grow hO.grow
 ·show Dm S.H q2 (A0 S.D i Q j) (B7 cv i _ j).D
  unfold A0 B7
  by_cases e : j = i
  ·subst e
   rw [if_pos rfl, if_pos rfl]; exact hV.grow hO.grow
  ·rw [if_neg e, if_neg e]; exact (g.dn j hj).grow hO.grow
 ·have h2 := Vt cv hi ⟨F1, (cv i).U ++ w, V⟩
  have h3 := XE ha
  have h4 : cw (cv i) = uw (cv i).U + (wD d + dw V) := by unfold cw; rw [hD]; rfl
  have h5 : cw ⟨F1, (cv i).U ++ w, V⟩ = uw (cv i).U + uw w + dw V := by unfold cw; dsimp only; rw [U5]
  have h6 := g.w
  show G7 n (B7 cv i ⟨F1, (cv i).U ++ w, V⟩) + Hh S.L.ph ≤ M
  omega
theorem C9.ftick (g : C9 n S cv N C M) {i : Nat} (hi : i < n) (hif : i < S.fs.length) (hs : S.fs[i].Φ.sil ≤ 5) {o : Lo} {q2 : HP} (hO : G8 (Bl S.fs[i].Φ S.fs[i].s []).2 S.fs[i].Φ.ld S.q o q2) :
  ∃ cv2, (∀ x ∈ o, x.1 = (n : Int) + 1) ∧ C9 n ⟨S.H, S.L, S.t, S.sL, q2, A0 S.U i (S.U i ++ o.map (·.2)), S.D, S.fs.set i ⟨S.fs[i].f, S.fs[i].g, S.fs[i].x, S.fs[i].d, (Bl S.fs[i].Φ S.fs[i].s []).1, S.fs[i].s⟩⟩ cv2 N C (M + 24) ∧ (Bl S.fs[i].Φ S.fs[i].s []).1.sil = S.fs[i].Φ.sil + 1 := by
 obtain ⟨hfo, hsil⟩ := g.fo i hif
 obtain ⟨y1, y2, y3⟩ := WD hfo ⟨hsil, hs⟩
 have hld : S.fs[i].Φ.ld = (n : Int) + 1 := hfo.ld
 obtain ⟨w, hw, hl, hI, hz, hww⟩ : ∃ w : List Um, (Bl S.fs[i].Φ S.fs[i].s []).2 = w.head?.map Mb ∧ w.length ≤ 1 ∧ BJ S.L (B7 cv i ⟨(cv i).F, (cv i).U ++ w, (cv i).D⟩) ∧ (∀ u ∈ w, ∀ z, u = .acked z → I64 z) ∧ uw w ≤ 24 := by
  rcases y3 with e | ⟨e0, e⟩
  ·refine ⟨[], e, Nat.zero_le _, ?_, (fun u hu => by cases hu), Nat.zero_le _⟩
   rw [append_nil]
   have : B7 cv i ⟨(cv i).F, (cv i).U, (cv i).D⟩ = cv := by
    funext j
    unfold B7
    split
    ·rename_i e; rw [e]
    ·rfl
   rw [this]; exact g.inv
  ·exact ⟨[.info], e, Nat.le_refl _, g.inv.again e0, (fun u hu z e => by rw [mem_singleton] at hu; rw [hu] at e; cases e), Nat.le_refl _⟩
 refine ⟨B7 cv i ⟨(cv i).F, (cv i).U ++ w, (cv i).D⟩, fun x hx => (hO.to x hx).trans hld, ⟨g.hH, g.hh, g.le, g.ls, g.len, hI, g.st, by rw [length_set]; exact g.fl, fun j hj => ?_, fun j hj => ?_, fun j hj => ?_, ?_⟩, y2⟩
 ·have hj2 : j < S.fs.length := by rw [length_set] at hj; exact hj
  show ZB n S.H (B7 cv i _ j).F ((S.fs.set i _)[j]'hj).Φ ((S.fs.set i _)[j]'hj).s ∧ 0 ≤ ((S.fs.set i _)[j]'hj).Φ.sil
  rw [getElem_set]
  unfold B7
  by_cases e : i = j
  ·subst e
   rw [if_pos rfl, if_pos rfl]
   exact ⟨y1, by show 0 ≤ (Bl S.fs[i].Φ S.fs[i].s []).1.sil; omega⟩
  ·rw [if_neg e, if_neg (fun q => e q.symm)]
   exact g.fo j hj2
 ·show Dj q2 (A0 S.U i _ j) (B7 cv i _ j).U
  unfold A0 B7
  by_cases e : j = i
  ·subst e
   rw [if_pos rfl, if_pos rfl]
   exact ((g.up j hj).grow hO.grow).app (hO.words hw hl hz)
  ·rw [if_neg e, if_neg e]; exact (g.up j hj).grow hO.grow
 ·show Dm S.H q2 (S.D j) (B7 cv i _ j).D
  have e : (B7 cv i ⟨(cv i).F, (cv i).U ++ w, (cv i).D⟩ j).D = (cv j).D := by
   unfold B7
   split
   ·rename_i e; rw [e]
   ·rfl
  rw [e]; exact (g.dn j hj).grow hO.grow
 ·have h2 := Vt cv hi ⟨(cv i).F, (cv i).U ++ w, (cv i).D⟩
  have h5 : cw ⟨(cv i).F, (cv i).U ++ w, (cv i).D⟩ = uw (cv i).U + uw w + dw (cv i).D := by unfold cw; dsimp only; rw [U5]
  have h4 : cw (cv i) = uw (cv i).U + dw (cv i).D := rfl
  have h6 := g.w
  show G7 n (B7 cv i ⟨(cv i).F, (cv i).U ++ w, (cv i).D⟩) + Hh S.L.ph ≤ M + 24
  omega
theorem C9.lead (g : C9 n S cv N C M) {R : La × Ou} {t2 N2 C2 : Int} {H2 : List En} {M2 : Nat} (hH2 : Hz H2) (hHe : H2 = S.H ∨ ∃ e, H2 = S.H ++ [e]) (hl : R.1.sv.length = n) (hI : BJ R.1 (down cv R.2)) (hS : GA Ck R.1) (hw : ow R.2 + Hh R.1.ph + M ≤ Hh S.L.ph + M2) {o2 : Lo} {s2 : Ld} {q2 : HP} {k : Nat} (hG : HC H2 S.q R o2 s2 q2 N2 C2 k) :
  C9 n ⟨H2, R.1, t2, s2, q2, S.U, fun j => S.D j ++ Df ((j : Int) + 1) o2, S.fs⟩ (down cv R.2) N2 C2 M2 := by
 have hD : ∀ j, j < n → Dm H2 S.q (S.D j) (cv j).D := fun j hj => by
  rcases hHe with rfl | ⟨e, rfl⟩
  ·exact g.dn j hj
  ·exact (g.dn j hj).hist e
 refine ⟨hH2, hG.hh, hG.le, hG.ls, hl, hI, hS, g.fl, fun j hj => ?_, fun j hj => (g.up j hj).grow hG.gr, fun j hj => ((hD j hj).grow hG.gr).app (hG.ou.on j), ?_⟩
 ·obtain ⟨h1, h2⟩ := g.fo j hj
  refine ⟨?_, h2⟩
  rcases hHe with rfl | ⟨e, rfl⟩
  ·exact h1
  ·exact Mf.hist h1 e
 ·have h1 := Ur n cv R.2
  have h6 := g.w
  show G7 n (down cv R.2) + Hh R.1.ph ≤ M2
  omega
theorem C9.tick (g : C9 n S cv N C M) {o2 : Lo} {s2 : Ld} {q2 : HP} {k : Nat} (hG : HC S.H S.q ((Dl Ck S.L).1, KF S.L ++ (Dl Ck S.L).2) o2 s2 q2 N C k) :
  C9 n ⟨S.H, (Dl Ck S.L).1, S.t + 1, s2, q2, S.U, fun j => S.D j ++ Df ((j : Int) + 1) o2, S.fs⟩ (down cv (KF S.L ++ (Dl Ck S.L).2)) N C (M + 60) := by
 refine g.lead (R := ((Dl Ck S.L).1, KF S.L ++ (Dl Ck S.L).2)) g.hH (.inl rfl) ((Qo _ _).trans g.len) ?_ ?_ ?_ hG
 ·dsimp only
  rw [I8, g.st.go]
  dsimp only
  rw [down_nil]; exact g.inv.ping
 ·dsimp only
  rw [g.st.go]; exact g.st
 ·dsimp only
  have h1 := Yz Ck S.L g.le.n
  have h2 : ow (KF S.L) ≤ 8 * 6 := Jq (w := 8) g.le.n (q := fun s => decide ((4 : Int) ≤ s.st)) (d := fun _ => .ping S.L.com) (fun s => Nat.le_refl _)
  rw [MF]; omega
theorem C9.prop (g : C9 n S cv N C M) (hn : 1 ≤ n) {R : La × Ou} {H2 : List En} (hH2 : Hz H2) (hR : R = (S.L, []) ∧ H2 = S.H ∨ S.L.ph = 3 ∧ R = KI Ck S.L ∧ ∃ e, H2 = S.H ++ [e]) {o2 : Lo} {s2 : Ld} {q2 : HP} {k : Nat} (hG : HC H2 S.q R o2 s2 q2 (N + 4000000) (C + 2) k) :
  C9 n ⟨H2, R.1, S.t, s2, q2, S.U, fun j => S.D j ++ Df ((j : Int) + 1) o2, S.fs⟩ (down cv R.2) (N + 4000000) (C + 2) (M + 60) := by
 rcases hR with ⟨rfl, rfl⟩ | ⟨h3, rfl, e, rfl⟩
 ·refine g.lead (R := (S.L, [])) hH2 (.inl rfl) g.len ?_ g.st ?_ hG
  ·dsimp only
   rw [down_nil]; exact g.inv
  ·show 0 + Hh S.L.ph + M ≤ _; omega
 ·have hI := BJ.prop RF g.inv h3 (by rw [g.len]; exact hn)
  refine g.lead hH2 (.inr ⟨e, rfl⟩) ?_ hI.1 hI.2 ?_ hG
  ·show (Dl Ck (Cz S.L).1).1.sv.length = n
   rw [Qo]; exact g.len
  ·have h1 := Yz Ck (Cz S.L).1 g.le.n
   have h2 : ow (Cz S.L).2 ≤ 8 * 6 := Jq (w := 8) g.le.n (q := fun s => decide ((4 : Int) ≤ s.st)) (d := fun _ => .prop S.L.h) (fun s => Nat.le_refl _)
   have h3 : Hh (Cz S.L).1.ph = Hh S.L.ph := rfl
   show ow ((Cz S.L).2 ++ (Dl Ck (Cz S.L).1).2) + Hh (Dl Ck (Cz S.L).1).1.ph + M ≤ _
   rw [MF]; omega
end
theorem G.doneT5 {P : Program} {fn : Func} {post : Value → List HP → Prop} {F : List HP} {W : World} {n : Nat} {E : By} {L L' R : List HP} {v0 v1 v2 v3 v4 : Value} {t0 t1 t2 t3 t4 : Nat}
  (hl : fn.results = #[.tmp t0, .tmp t1, .tmp t2, .tmp t3, .tmp t4]) (h0 : look E t0 = some v0) (h1 : look E t1 = some v1) (h2 : look E t2 = some v2) (h3 : look E t3 = some v3) (h4 : look E t4 = some v4) (hp : post (.tuple #[v0, v1, v2, v3, v4]) L') (hL : Am L' L R) (hF : H0 F R) : G W n [] E L (Tt P fn post F W .ret) := by
 intro a w he hk hs
 have hg : ∀ t u, look E t = some u → a.tmps.getD t undef = u := fun t u hu => by simp [he.slots t u hu]
 have hr : (results fn a.tmps).run P w = .ok (.tuple #[v0, v1, v2, v3, v4]) w := by
  simp [results, hl, ← hg _ _ h0, ← hg _ _ h1, ← hg _ _ h2, ← hg _ _ h3, ← hg _ _ h4]
 exact ⟨he.defers, _, hr, _, L', hp, rfl, hF.st (hs.picks hL), hk⟩
/-! ### The first example -/
def PD (k e : Int) : Ms := ⟨k, e, 0, 0, 0, BK, [], BK, [], AA 0, AA 0, AU [], AU [], BK, AA 0, AA 0, .bool false, BK, BK, BK⟩
theorem PU {k e : Int} (hk : I64 k) (he : I64 e) : Or JW (PD k e) :=
 ⟨hk, he, by show I64 0; decide, by show I64 0; decide, by intro v hv; simp only [BF, PD, mem_cons, not_mem_nil, or_false] at hv; rcases hv with h | h | h | h | h | h | h | h | h | h | h | h | h | h | h | h | h | h | h <;> subst h <;> rfl, Nat.zero_le _, fun h _ => .inl ⟨rfl, rfl, _, _, rfl⟩, Nat.zero_le _, fun e he => by cases he⟩
def LF : Ld := ⟨(Ad (Dk.new 512)).1, (Fj (Dk.new 512)).2.1, RI⟩
def Qv (ld : Int) : Fw := ⟨ld, 0, 0, 0, 0, []⟩
def Om : Fz := AX (Qv 2) LF (PD 2 3)
def RC : Fz := AX Om.1 Om.2.1 (PD 4 3)
def fr3 : Fz := AX RC.1 RC.2.1 (PD 6 0)
theorem AAQ : (Om.2.2.map (·.kind), RC.2.2.map (·.kind), fr3.1.ph) = (some 3, some 5, 3) := by kernel_rfl
theorem ZJ : (∃ m, Om.2.2 = some m ∧ m.kind = 3) ∧ (∃ m, RC.2.2 = some m ∧ m.kind = 5) ∧ fr3.1.ph = 3 := by
 have h := AAQ
 simp only [Prod.mk.injEq, Option.map_eq_some_iff] at h
 obtain ⟨⟨a, h1, h2⟩, ⟨b, h3, h4⟩, h5⟩ := h
 exact ⟨⟨a, h1, h2⟩, ⟨b, h3, h4⟩, h5⟩
theorem SC (n : Int) : (Dk.new n).now.length = n.toNat := by simp [Dk.new]
theorem U9 (ld : Int) : (∃ ω, (Ad (Dk.new 512)).2 = some ω) ∧ P0 (Qv ld) LF 6000000 0 := by
 obtain ⟨ω, h1, -⟩ := JL (n := 512) dQ
 have hnl : (Dk.new 512).now.length = 512 := SC 512
 obtain ⟨-, -, h3, -⟩ := QM (δ := Dk.new 512) (by rw [hnl]; decide) (N := 0) (Int.le_refl 0)
 have h4 := h3 ω h1
 rw [F7 h1] at h4
 exact ⟨⟨ω, h1⟩, ⟨GU.more (show GU LF (0 + 5000000) from h4) dQ, ⟨.inr (show (0 : Int) ≤ 0 ∧ (0 : Int) ≤ 7 by decide), Nat.zero_le _⟩, fun h => by rcases h with h | h <;> exact absurd (show (0 : Int) = _ from h) dQ, fun h => absurd (show (0 : Int) = _ from h) dQ, fun _ _ => rfl⟩⟩
theorem AAx : P0 Om.1 Om.2.1 (6000000 + 3000000000000) 0 ∧ P0 RC.1 RC.2.1 (6000000 + 3000000000000 + 3000000000000) 0 := by
 have h1 := (U2 (U9 2).2 (PU (k := 2) (e := 3) dQ dQ)).1.k
 exact ⟨h1, (U2 h1 (PU (k := 4) (e := 3) dQ dQ)).1.k⟩
end Go.Proofs.YtjhlofbhpjakgaaGreat
/-
 DERIVED: THE SHELF's CONTRACTS AT THIS DUMP, IN PLAIN WORDS (tools/lay-plain.mjs out of 'YtjhlofbhpjakgaaGreatLayK.lean', which tools/lay-shelf.mjs wrote): THE SAME DECLARATIONS UNDER THE SAME NAMES: 'import', 'namespace', 'open', 'def', 'theorem' AND NOTHING ELSE: no command of the shelf's: FOR A HAND-IN. Each laying: the table of numbers ('.._ren') and one theorem, a field a fact of the dump's own or the kernel's comparison; each MG: ONE APPLICATION.
-/
namespace Go.Proofs
open Go List Go.Proofs.Tryz Go.Shelf
def Tryz.compactA_ren : Go.Shelf.Ren := ⟨fun | 20 => 47 | n => n, fun | 22 => 22 | 3 => 3 | 4 => 4 | 0 => 0 | n => n, fun | n => n⟩
theorem Tryz.compactA : Go.Proofs.Lays2.n20 prog Tryz.compactA_ren := {
 mixed := by kernel_rfl
 f20 := func47.trans (congrArg some (by kernel_rfl))
 t0 := underlying0
 a0 := Tryz.isAgg0
 z0 := Tryz.sizeOf0
 v0 := Tryz.zeroValue0
 t3 := underlying3
 a3 := Tryz.isAgg3
 z3 := Tryz.sizeOf3
 v3 := Tryz.zeroValue3
 t4 := underlying4
 a4 := Tryz.isAgg4
 z4 := Tryz.sizeOf4
 v4 := Tryz.zeroValue4
 t22 := underlying22
 a22 := Tryz.isAgg22
 z22 := Tryz.sizeOf22
 v22 := Tryz.zeroValue22
 i3 := by kernel_rfl }
end Go.Proofs
namespace Go.Proofs.YtjhlofbhpjakgaaGreat
open Go List Go.Proofs.Tryz 
theorem Z5 (m : Mo) {mv : Value} (h : AD mv = true) : ∀ v ∈ IE m mv, AD v = true := by
 intro v hv
 simp only [IE, mem_cons, not_mem_nil, or_false] at hv
 rcases hv with h1 | h1 | h1 | h1 | h1 | h1 | h1 | h1 | h1 | h1 | h1 | h1 | h1 | h1 | h1 | h1 | h1 | h1 | h1 <;> subst h1 <;> first | rfl | exact h
theorem Uq (ld : Int) (s0 s1 s2 s3 s4 s5 s6 s7 s8 s9 s10 s11 s12 s13 s14 s15 s16 s17 s18 : Value) : Instr.fill (fun i => [(0, 1), (1, 19)].toArray[i]?) ([.int .i64 0, .int .i64 0, .int .i64 0, .int .i64 0, .int .i64 0, .int .i64 0, .slice none 0 0, .string (bs []), .slice none 0 0, .int .i64 0, .int .i64 0, .string (bs []), .string (bs []), .slice none 0 0, .int .i64 0, .int .i64 0, .bool false, .slice none 0 0, .slice none 0 0, .slice none 0 0] : List Value).toArray [(0, AA ld), (1, .agg ([s0, s1, s2, s3, s4, s5, s6, s7, s8, s9, s10, s11, s12, s13, s14, s15, s16, s17, s18] : List Value).toArray)] = some ((AA ld :: [s0, s1, s2, s3, s4, s5, s6, s7, s8, s9, s10, s11, s12, s13, s14, s15, s16, s17, s18] : List Value).toArray) := by kernel_rfl
theorem Ec (f g : Nat) (Φ : Fw) (m : Mo) (mv : Value) (hmv : AD mv = true) : Fn prog 40 #[AG f, .agg (IE m mv).toArray] [G4 f g Φ] fun v L => ∃ b, v = .slice (some ⟨b, 0, none⟩) 1 1 ∧ L = [KT v Φ.ld m mv, G4 f g Φ] := by
 refine Fn.intro func40 Y Y fun F W => ?_
 refine .fwOpen (f := f) O fun ha hc => (.sr (.oq (.box Y) ?_))
 rintro v L' ⟨b3, rfl, rfl⟩
 refine .a Y (.nil (.ptCast (b := b3) (l' := IE m mv) O (by exact rfl) (.then_n (.seq (.draw [6] [[0, 1, 2, 3, 4, 5, 6], [7]] mixed kQ (.g0 (.mv Y Y (.nf Y Y Y Xh (.kv Y (.ld Y AF) (.kv Y (.loadAs (vs := IE m mv) Y DJ O (by simp [IE]) Y) (.kv Y (.to (v' := .agg (AA Φ.ld :: IE m mv).toArray) (.buildN (pl := [(0, 1), (1, 19)]) (us := [(0, AA Φ.ld), (1, .agg (IE m mv).toArray)]) (cells := AA Φ.ld :: IE m mv) underlying77 kQ J9 Y (Uq _ _ _ _ _ _ _ _ _ _ _ _ _ _ _ _ _ _ _ _)) Y) (.hh Y (.buildSlice (vs := [_]) G6 J9 Y Y Y Y cQ dQ) ?_))))))))))))
 rintro v L' ⟨b6, rfl, rfl⟩
 refine D.ph (.g0 (.kv Y (.assign Y) (.pf (.ret (.fwFold (f := f) (g := g) (ha := ha) (hc := hc) (m := Φ.heard.length) Φ O (by exact rfl) (by exact rfl) (by exact rfl) (.ptCast (b := b6) (l' := AA Φ.ld :: IE m mv) O (by simp [Value.cells, IE]) (.fold (p := KT (.slice (some ⟨b6, 0, none⟩) 1 1) Φ.ld m mv) (.cons (p := Ar b6 _ _) O .nil) (fun h hp => HI (n := 1) (sz := 20) (HX hp) Y) ?_)))))))
 exact .dn Y Y ⟨b6, Y, Y⟩
theorem NG (f g : Nat) (Φ : Fw) (m : Mo) (mv : Value) (hmv : AD mv = true) (ha : Option Addr) (hc : Nat) : Fn prog 40 #[AG f, .agg (IE m mv).toArray] [Ar f [AA Φ.ld, AG g, AA Φ.ph, AA Φ.ep, AA Φ.com, AA Φ.sil, .slice ha Φ.heard.length hc] 98, Cr (.slice ha Φ.heard.length hc) Φ.heard] fun v L => ∃ b, v = .slice (some ⟨b, 0, none⟩) 1 1 ∧ L = [KT v Φ.ld m mv, G4 f g Φ] := by
 intro F w hs
 have hs' : St ([G4 f g Φ] ++ F) w := BS (p := CG [Ar f [AA Φ.ld, AG g, AA Φ.ph, AA Φ.ep, AA Φ.com, AA Φ.sil, .slice ha Φ.heard.length hc] 98, Cr (.slice ha Φ.heard.length hc) Φ.heard]) (fun _ hp => ⟨(ha, hc), trivial, hp⟩) (Ee (L1 := [Ar f [AA Φ.ld, AG g, AA Φ.ph, AA Φ.ep, AA Φ.com, AA Φ.sil, .slice ha Φ.heard.length hc] 98, Cr (.slice ha Φ.heard.length hc) Φ.heard]) hs)
 exact Ec f g Φ m mv hmv F w hs'
theorem A9 (f g : Nat) (Φ : Fw) : Fn prog 45 #[AG f] [G4 f g Φ] fun v L => v = .slice none 0 0 ∧ L = [G4 f g Φ.lose] := by
 refine Fn.intro func45 Y Y fun F W => ?_
 refine .fwOpen (f := f) O fun ha hc => (.sr (.an Y (.sm Y (.nf Y CA (.st Y Y Y BV ?_)))))
 refine .nt (.sr (.an Y (.ret (.fwFold (f := f) (g := g) (ha := ha) (hc := hc) (m := Φ.heard.length) Φ.lose O (by exact rfl) (by exact rfl) (by exact rfl) ?_))))
 exact .vv
theorem NN (f g : Nat) (Φ : Fw) : Fn prog 28 #[AG f] [G4 f g Φ] fun v L => v = AA Φ.com ∧ L = [G4 f g Φ] := by
 refine Fn.intro func28 Y Y fun F W => ?_
 refine .fwOpen (f := f) O fun ha hc => (.sr (.an Y (.sm Y (.nf Y Gh (.u (.ld Y AF) (.an Y (.ret (.fwFold (f := f) (g := g) (ha := ha) (hc := hc) (m := Φ.heard.length) Φ O (by exact rfl) (by exact rfl) (by exact rfl) ?_))))))))
 exact .vv
theorem PI (f g : Nat) (Φ : Fw) : Fn prog 26 #[AG f] [G4 f g Φ] fun v L => v = .bool (decide (Φ.ph = 3)) ∧ L = [G4 f g Φ] := by
 refine Fn.intro func26 Y Y fun F W => ?_
 refine .fwOpen (f := f) O fun ha hc => (.sr (.an Y (.sm Y (.nf Y CA (.u (.ld Y AF) (.ui Y Y Y (.an Y (.ret (.fwFold (f := f) (g := g) (ha := ha) (hc := hc) (m := Φ.heard.length) Φ O (by exact rfl) (by exact rfl) (by exact rfl) ?_)))))))))
 exact .vv
/- not in this seat -/
theorem NU (ld : Int) (g : Nat) : Fn prog 11 #[AA ld, AG g] [] fun v L => ∃ f, v = AG f ∧ L = [G4 f g ⟨ld, 0, 0, 0, 0, []⟩] := by
 refine Fn.intro func11 Y Y fun F W => ?_
 refine .sr (.an Y (.sm Y (.m Y (.q (.build (us := [(0, _), (1, _)]) AAY AAP Y Y (by simp [AD])) Y (.oq (.box Y) ?_)))))
 rintro v L' ⟨f, rfl, rfl⟩
 refine .an Y (.ret (.add (Ak 3 1) (.fwFold (f := f) (g := g) (ha := none) (hc := 0) (m := 0) (hs := []) ⟨ld, 0, 0, 0, 0, []⟩ O (by exact rfl) (by exact rfl) (by exact rfl) ?_)))
 exact .dn Y Y ⟨f, Y, Y⟩
theorem KO (f g x : Nat) (Φ : Fw) (δ : Dk) (ω : Wl) (Λ : Lg) : Fn prog 14 #[AG f] [G4 f g Φ, BW g x Λ] fun v L => ∃ a c, v = .slice a (Tm (E2 Φ ⟨δ, ω, Λ⟩)) c ∧ L = [G4 f g Φ, BW g x Λ, KW v Φ.ld (E2 Φ ⟨δ, ω, Λ⟩)] := by
 refine Fn.intro func14 Y Y fun F W => ?_
 refine .fwOpen (f := f) O fun ha hc => (.sr (.an Y (.seq (.sm Y (.nf Y CA (.u (.ld Y AF) (.ui Y Y Y (.nt (.condD Y (fun h7 => ?_) (fun h7 => ?_))))))))))
 ·refine .sr (.an Y (.rt ?_))
  have hr : E2 Φ ⟨δ, ω, Λ⟩ = none := by unfold E2; rw [if_pos h7]
  rw [hr]
  refine .fwFold (f := f) (g := g) (ha := ha) (hc := hc) (m := Φ.heard.length) Φ O (by exact rfl) (by exact rfl) (by exact rfl) (.outNone Φ.ld ?_)
  exact .dn Y Y ⟨_, _, Y, Y⟩
 refine .sk (.sm Y (.m Y (.nf Y C4 (.u (.ld Y B1) (.nf Y DG (.cv func41 [_] (Hm g x Λ) ?_))))))
 refine .q (.to (v' := .agg (IE ⟨1, Λ.acc, 0, 0, []⟩ (.slice none 0 0)).toArray) (.buildN (pl := [(0, 1), (1, 1), (2, 1), (3, 1), (4, 1), (5, 1), (6, 1), (7, 1), (8, 10), (18, 1)]) (us := [(0, _), (1, _)]) (cells := IE ⟨1, Λ.acc, 0, 0, []⟩ (.slice none 0 0)) underlying67 kQ CO Y Y) Y) Y (.fwFold (f := f) (g := g) (ha := ha) (hc := hc) (m := Φ.heard.length) Φ O (by exact rfl) (by exact rfl) (by exact rfl) (.add (Ak 3 1) (.oq (.c func40 [_, _] (Ec f g (Φ) ⟨1, Λ.acc, 0, 0, []⟩ (.slice none 0 0) Y)) ?_)))
 rintro v L' ⟨bs, rfl, rfl⟩
 refine .an Y (.ret ?_)
 have hr : E2 Φ ⟨δ, ω, Λ⟩ = some ⟨1, Λ.acc, 0, 0, []⟩ := by unfold E2; rw [if_neg h7]
 rw [hr]
 refine .outFold (v := .slice (some ⟨bs, 0, none⟩) 1 1) (mv := .slice none 0 0) (k := 0) ⟨1, Λ.acc, 0, 0, []⟩ O (by exact rfl) (by exact rfl) (by exact rfl) ?_
 exact .dn Y Y ⟨_, _, Y, Y⟩
def Fu (es : List En) (s0 : Ld) (i : Nat) (s : Ld) : Prop := BN es s0 = BN (es.drop i) s
theorem R6 {es : List En} {s0 s : Ld} {i : Nat} (h : Fu es s0 i s) (hi : i < es.length) (h0 : (AK s es[i]).2 = 0) : Fu es s0 (i + 1) (AK s es[i]).1 := by
 unfold Fu at h ⊢
 rw [h, drop_eq_getElem_cons hi]
 show (if _ then _ else _) = _
 rw [if_neg (fun g => g h0)]
theorem TH {es : List En} {s0 s : Ld} {i : Nat} (h : Fu es s0 i s) (hi : i < es.length) (h0 : (AK s es[i]).2 ≠ 0) : BN es s0 = AK s es[i] := by
 unfold Fu at h
 rw [h, drop_eq_getElem_cons hi]
 show (if _ then _ else _) = _
 rw [if_pos h0]
theorem TX {es : List En} {s0 s : Ld} {i : Nat} (h : Fu es s0 i s) (hi : ¬ i < es.length) : BN es s0 = AO s := by
 unfold Fu at h
 rw [h, drop_eq_nil_of_le om]
 rfl
theorem Ro (f g x d : Nat) (Φ : Fw) (δ : Dk) (ω : Wl) (Λ : Lg) (va : Value) (es : List En) (p : HP) (N : Int) (hP : GU ⟨δ, ω, Λ⟩ N) (hN : N + 10000000 + 2000000 * (es.length : Int) < 4611686018427387904) (hcells : ∀ h : Hp, p h → B5 11 h va es.length (es.flatMap BX)) (hel : es.length ≤ 1048576) (hx : ∀ e ∈ es, MU p e) : Fn prog 91 #[AG f, va] [G4 f g Φ, BW g x Λ, CX x d ω, Bg d δ, p] fun v L => v = .bool (decide ((BN es ⟨δ, ω, Λ⟩).2 = 0)) ∧ L = [G4 f g Φ, BW g x (BN es ⟨δ, ω, Λ⟩).1.Λ, CX x d (BN es ⟨δ, ω, Λ⟩).1.ω, Bg d (BN es ⟨δ, ω, Λ⟩).1.δ, p] := by
 refine Fn.intro func91 Y Y fun F W => ?_
 refine .rdAny (p := p) hcells O fun aa ca e _ => ?_
 subst e
 refine .fwOpen (f := f) O fun ha hc => (.sr (.an Y (.seq (.sm Y (.q (.slen Y underlying60 Y) Y (.m Y (.nt (.block (.loopK (ι := Nat × Ld) (fun q E => (9, AA q.1) :: E) (fun q => [BW g x (q.2).Λ, CX x d (q.2).ω, Bg d (q.2).δ]) (fun q => q.1 ≤ es.length ∧ Fu es ⟨δ, ω, Λ⟩ q.1 q.2 ∧ GU q.2 (N + q.1 * 2000000)) (fun q => es.length - q.1) (0, ⟨δ, ω, Λ⟩) (ts := [0, 7, 8]) O (⟨Nat.zero_le _, Y, hP.more (by dsimp only; omega)⟩) O O ?_)))))))))
 rintro ⟨i, s⟩ ⟨hi, ht, hL⟩
 dsimp only
 dsimp only at hi ht hL
 refine .sr (.ui Y Y Y (.nt (.seq (.condD Y (fun h10 => ?_) (fun h10 => ?_)))))
 ·have hi2 : i < es.length := by omega
  have hxe := hx _ (getElem_mem hi2)
  have hwi := hL.wk.i om
  have hli := hL.w.i
  refine .rdShape (p := p) hcells O om fun ba oa e => ?_
  subst e
  refine .sk (.seq (.block (.sr (.q (.indexAddr Y Y Fr om) Y (.q (.loadRdA (sz := 11) (j := i * 11) (k := 11) (p := p) (vs := BX es[i]) Y D3 O hcells (by simp [BX, C5]) om om (BE (f := BX) (sz := 11) (fun _ _ => Y) hi2)) Y (.oq (.allocA Et) ?_))))))
  rintro v L' ⟨b6, rfl, rfl⟩
  refine .sa Y Y H9 (by exact hxe.l.cells) ?_
  refine .nil (.ptCast (b := b6) (l' := BX es[i]) O (by exact rfl) (.then_n (.seq (.draw [5] [[0, 1, 2, 3, 4, 5], [6]] mixed kQ (.g0 (.mv Y Y (.nf Y Y Y C4 (.kv Y (.ld Y B1) (.kv Y (.loadAs (vs := BX es[i]) Y D3 O (by simp [BX, C5]) Y) (.hh Y (.c func7 [_, _] (FE g x d s.δ s.ω s.Λ es[i] p hxe hwi hli)) ?_))))))))))
  rintro v L' ⟨rfl, rfl⟩; obtain ⟨r, hr⟩ : ∃ r, AK s es[i] = r := ⟨_, rfl⟩; rw [show AK ⟨s.δ, s.ω, s.Λ⟩ es[i] = r from hr]
  refine D.ph (.g0 (.kv Y (.int Y Y Y) (.pf (.condN Y (fun h19 => ?_) (fun h19 => ?_)))))
  ·refine .sr (.an Y (.ret (.blk_r (.then_r (.then_r (.blk_r (.then_r (.fwFold (f := f) (g := g) (ha := ha) (hc := hc) (m := Φ.heard.length) Φ O (by exact rfl) (by exact rfl) (by exact rfl) ?_))))))))
   have hz : BN es ⟨δ, ω, Λ⟩ = r := (TH ht hi2 (by rw [hr]; exact h19)).trans hr
   rw [hz]
   exact .dn Y Y ⟨by rw [decide_eq_false h19], rfl⟩
  rw [← hr]
  refine .skip (.blk_n (.then_n (.region (.q (.add Y Y om) Y (.m Y (.nt ?_))))))
  exact .rk ((i + 1, (AK s es[i]).1)) (⟨by dsimp only; omega, R6 ht hi2 (by rw [hr]; exact h19), (LL hL hxe.l.w.i).more (by dsimp only; omega)⟩) (by dsimp only; omega) O
 have hwi := hL.wk.i om
 refine .xe (.sm Y (.nf Y C4 (.u (.ld Y B1) (.oq (.c func10 [_] (FN g x d s.δ s.ω s.Λ hwi)) ?_))))
 rintro v L' ⟨rfl, rfl⟩; rw [show AO ⟨s.δ, s.ω, s.Λ⟩ = AO s from rfl]
 refine .ui Y Y Y (.an Y (.ret (.fwFold (f := f) (g := g) (ha := ha) (hc := hc) (m := Φ.heard.length) Φ O (by exact rfl) (by exact rfl) (by exact rfl) ?_)))
 have hz : BN es ⟨δ, ω, Λ⟩ = AO s := TX ht om
 rw [hz]
 exact .vv
theorem He (f g x d : Nat) (Φ : Fw) (δ : Dk) (ω : Wl) (Λ : Lg) (va : Value) (es : List En) (p : HP) (N : Int) (hP : GU ⟨δ, ω, Λ⟩ N) (hN : N + 10000000 + 2000000 * (es.length : Int) < 4611686018427387904) (hcells : ∀ h : Hp, p h → B5 11 h va es.length (es.flatMap BX)) (hel : es.length ≤ 1048576) (hx : ∀ e ∈ es, MU p e) (ha : Option Addr) (hc : Nat) : Fn prog 91 #[AG f, va] [Ar f [AA Φ.ld, AG g, AA Φ.ph, AA Φ.ep, AA Φ.com, AA Φ.sil, .slice ha Φ.heard.length hc] 98, Cr (.slice ha Φ.heard.length hc) Φ.heard, BW g x Λ, CX x d ω, Bg d δ, p] fun v L => v = .bool (decide ((BN es ⟨δ, ω, Λ⟩).2 = 0)) ∧ L = [G4 f g Φ, BW g x (BN es ⟨δ, ω, Λ⟩).1.Λ, CX x d (BN es ⟨δ, ω, Λ⟩).1.ω, Bg d (BN es ⟨δ, ω, Λ⟩).1.δ, p] := by
 intro F w hs
 have hs' : St ([G4 f g Φ, BW g x Λ, CX x d ω, Bg d δ, p] ++ F) w := BS (p := CG [Ar f [AA Φ.ld, AG g, AA Φ.ph, AA Φ.ep, AA Φ.com, AA Φ.sil, .slice ha Φ.heard.length hc] 98, Cr (.slice ha Φ.heard.length hc) Φ.heard]) (fun _ hp => ⟨(ha, hc), trivial, hp⟩) (Ee (L1 := [Ar f [AA Φ.ld, AG g, AA Φ.ph, AA Φ.ep, AA Φ.com, AA Φ.sil, .slice ha Φ.heard.length hc] 98, Cr (.slice ha Φ.heard.length hc) Φ.heard]) hs)
 exact Ro f g x d Φ δ ω Λ va es p N hP hN hcells hel hx F w hs'
theorem OL (f g x d : Nat) (Φ : Fw) (δ : Dk) (ω : Wl) (Λ : Lg) (m : Ms) (p : HP) (N : Int) (hP : GU ⟨δ, ω, Λ⟩ N) (hN : N + 10000000 < 4611686018427387904) : Fn prog 53 #[AG f, .agg (BF m).toArray] [G4 f g Φ, BW g x Λ, CX x d ω, Bg d δ, p] fun v L => ∃ a c, v = .slice a (Tm (EY Φ ⟨δ, ω, Λ⟩ m).2.2) c ∧ L = [G4 f g (EY Φ ⟨δ, ω, Λ⟩ m).1, BW g x (EY Φ ⟨δ, ω, Λ⟩ m).2.1.Λ, CX x d (EY Φ ⟨δ, ω, Λ⟩ m).2.1.ω, Bg d (EY Φ ⟨δ, ω, Λ⟩ m).2.1.δ, KW v Φ.ld (EY Φ ⟨δ, ω, Λ⟩ m).2.2, p] := by
 refine Fn.intro func53 Y Y fun F W => ?_
 have hwi := hP.wk.i hN
 have hli := hP.w.i
 have hlr := (Lp hP m.ep).w.i
 refine .fwOpen (f := f) O fun ha hc => (.sr (.oq (.box Y) ?_))
 rintro v L' ⟨b3, rfl, rfl⟩
 refine .a Y (.nil (.ptCast (b := b3) (l' := BF m) O (by exact rfl) (.then_n (.seq (.seq (.draw [] [[0, 1, 2, 3, 4, 5, 6, 7, 8, 9, 10, 11, 12, 13, 14, 15, 16, 17, 18, 19, 20, 21, 22]] mixed kQ (.go [Ar f _ _, Ar b3 _ _, BW g x Λ] O (.mv Y Y (.nf Y Y Y CA (.kv Y (.ld Y AF) (.kv Y (.int Y Y Y) (.mv Y Y (.dec (t := 11) Y (fun h1_11 => ?_) (fun h1_11 => ?_))))))))))))))
 ·refine D.kDT (t := 10) Y h1_11 (.gz Y (.gz Y (.gz Y (.gz Y (.gz Y (.gz Y (.gz Y (.gz Y (.gz Y (.gz Y (.gz Y (.kv Y (.pickT Y Y) (.mv Y Y (.gz Y (.gz Y (.gz Y (.kv Y (.pickT Y Y) (.pf (.condT Y (.seq (.fwFold (f := f) (g := g) (ha := ha) (hc := hc) (m := Φ.heard.length) Φ O (by exact rfl) (by exact rfl) (by exact rfl) (.region (.m Y (.cv func45 [_] (A9 f g (Φ)) ?_))))))))))))))))))))))))
  refine .an Y (.rt ?_)
  have hr : EY Φ ⟨δ, ω, Λ⟩ m = (Φ.lose, ⟨δ, ω, Λ⟩, none) := by unfold EY; (try dsimp only); rw [if_pos (by first | exact .inl h1_11 | exact .inr (.inl h1_24) | exact .inr (.inr h28))]
  rw [hr]
  try dsimp only
  refine .outNone Φ.ld ?_
  exact .dn Y Y ⟨_, _, Y, Y⟩
 refine D.kDF (t := 10) Y h1_11 (.gv Y (.fieldAddr Y EI) (.gv Y (.ld Y AF) (.gv Y (.move Y) (.gv Y (.nilp Y) (.gv Y (.fieldAddr Y C4) (.gv Y (.ld Y B1) (.gv Y (.nilp Y) (.gv Y (.fieldAddr Y DG) (.gm (t := 11) Y Y Y kQ (.c func41 [_] (Hm g x Λ)) O ?_)))))))))
 refine D.gv Y (.max2 Y Y) (.gv Y (.int Y Y Y) (.kv Y (.pickF Y Y) (.mv Y Y (.dec (t := 24) Y (fun h1_24 => ?_) (fun h1_24 => ?_)))))
 ·refine D.kDT (t := 22) Y h1_24 (.kDT (t := 23) Y h1_24 (.gz Y (.gz Y (.gz Y (.kv Y (.pickT Y Y) (.pf (.condT Y (.seq (.fwFold (f := f) (g := g) (ha := ha) (hc := hc) (m := Φ.heard.length) Φ O (by exact rfl) (by exact rfl) (by exact rfl) (.region (.m Y (.cv func45 [_] (A9 f g (Φ)) ?_))))))))))))
  refine .an Y (.rt ?_)
  have hr : EY Φ ⟨δ, ω, Λ⟩ m = (Φ.lose, ⟨δ, ω, Λ⟩, none) := by unfold EY; (try dsimp only); rw [if_pos (by first | exact .inl h1_11 | exact .inr (.inl h1_24) | exact .inr (.inr h28))]
  rw [hr]
  try dsimp only
  refine .outNone Φ.ld ?_
  exact .dn Y Y ⟨_, _, Y, Y⟩
 refine D.kDF (t := 22) Y h1_24 (.kDF (t := 23) Y h1_24 (.gv Y (.fieldAddr Y EI) (.gv Y (.ld Y AF) (.gv Y (.int Y Y Y) (.kv Y (.pickF Y Y) (.pf (.condD Y (fun h28 => ?_) (fun h28 => ?_))))))))
 ·refine .seq (.fwFold (f := f) (g := g) (ha := ha) (hc := hc) (m := Φ.heard.length) Φ O (by exact rfl) (by exact rfl) (by exact rfl) (.region (.m Y (.cv func45 [_] (A9 f g (Φ)) ?_))))
  refine .an Y (.rt ?_)
  have hr : EY Φ ⟨δ, ω, Λ⟩ m = (Φ.lose, ⟨δ, ω, Λ⟩, none) := by unfold EY; (try dsimp only); rw [if_pos (by first | exact .inl h1_11 | exact .inr (.inl h1_24) | exact .inr (.inr h28))]
  rw [hr]
  try dsimp only
  refine .outNone Φ.ld ?_
  exact .dn Y Y ⟨_, _, Y, Y⟩
 refine .sk (.sr (.an Y (.seq (.seq (.draw [] [[0, 1, 2, 3, 4, 5, 6, 7, 8, 9]] mixed kQ (.go [Ar f _ _, Ar b3 _ _, BW g x Λ] O (.kv Y (.fieldAddr Y EI) (.kv Y (.ld Y AF) (.mv Y Y (.nf Y Y Y C4 (.kv Y (.ld Y B1) (.nf Y Y Y DG (.m Y kQ (.c func41 [_] (Hm g x Λ)) O ?_)))))))))))))
 refine D.kv Y (.int Y Y Y) (.pf (.condD Y (fun h40 => ?_) (fun h40 => ?_)))
 ·refine .seq (.seq (.draw [6] [[0, 1, 2, 3, 4, 5, 6], [7]] mixed kQ (.g0 (.mv Y Y (.nf Y Y Y C4 (.kv Y (.ld Y B1) (.kv Y (.fieldAddr Y EI) (.kv Y (.ld Y AF) (.hh Y (.c func8 [_, _] (E9 g x d δ ω Λ m.ep hwi)) ?_)))))))))
  rintro v L' ⟨rfl, rfl⟩; obtain ⟨r, hA⟩ : ∃ r, (AR ⟨δ, ω, Λ⟩ m.ep) = r := ⟨_, rfl⟩; rw [hA] at hlr ⊢
  refine D.ph (.g0 (.kv Y (.int Y Y Y) (.pf (.condN Y (fun h48 => ?_) (fun h48 => ?_)))))
  ·refine .seq (.fwFold (f := f) (g := g) (ha := ha) (hc := hc) (m := Φ.heard.length) Φ O (by exact rfl) (by exact rfl) (by exact rfl) (.region (.m Y (.cv func45 [_] (A9 f g (Φ)) ?_))))
   refine .an Y (.rt (.then_r ?_))
   have hr : EY Φ ⟨δ, ω, Λ⟩ m = (Φ.lose, r.1, none) := by unfold EY; (try dsimp only); rw [if_neg (by rintro (g1 | g1 | g1); exact h1_11 g1; exact h1_24 g1; exact h28 g1), if_pos h40, hA, if_pos h48]
   rw [hr]
   try dsimp only
   refine .outNone Φ.ld ?_
   exact .dn Y Y ⟨_, _, Y, Y⟩
  refine .sk (.region (.m Y (.nf Y C4 (.u (.ld Y B1) (.nf Y DG (.cv func85 [_] (NO g x r.1.Λ) ?_))))))
  refine .an Y (.seq (.draw [6, 9] [[0, 1, 2, 3, 4, 5, 6], [7, 8, 9]] mixed kQ (.go [Ar b3 _ _] O (.mv Y Y (.k Y (.move Y) (.k Y (.fieldAddr Y EI) (.k Y (.ld Y AF) (.nf Y Y Y CA (.hh Y (.store Y Y Y BV ?c74 (Bk _ _)) ?_)))))))))
  case c74 => first | decide | (simp; omega) | simp
  rintro v L' rfl
  refine D.ph (.g0 (.nf Y Y Y FA (.hh Y (.store Y Y Y BV ?c79 (Bk _ _)) ?_)))
  case c79 => first | decide | (simp; omega) | simp
  rintro v L' rfl
  refine D.ph (.fin (.fwFold (f := f) (g := g) (ha := ha) (hc := hc) (m := Φ.heard.length) (Φ.go 1 m.ep) O (by exact rfl) (by exact rfl) (by exact rfl) (.fwOpen (f := f) O fun ha hc => (.then_n (.seq (.draw [10, 12] [[0, 1, 2, 3, 4, 5, 6, 7, 8, 9, 10, 11], [12], [13]] mixed kQ (.go [Ar f _ _] O (.k Y (.move Y) (.k Y (.move Y) (.k Y (.nilp Y) (.k Y (.fieldAddr Y FA) (.k Y (.ld Y AF) (.k Y (.move Y) (.mv Y Y (.nf Y Y Y C4 (.kv Y (.ld Y B1) (.hh Y (.c func88 [_] (Hg g x r.1.Λ hlr)) ?_)))))))))))))))))
  rintro v L' ⟨am, cm, rfl, rfl⟩
  refine D.kv Y (.to (v' := .agg (IE ⟨3, m.ep, 0, r.1.Λ.cur, A3 r.1.Λ⟩ (.slice am (A3 r.1.Λ).length cm)).toArray) (.buildN (pl := [(0, 1), (1, 1), (2, 1), (3, 1), (4, 1), (5, 1), (6, 1), (7, 1), (8, 10), (18, 1)]) (us := [(0, _), (1, _), (3, _), (5, _)]) (cells := IE ⟨3, m.ep, 0, r.1.Λ.cur, A3 r.1.Λ⟩ (.slice am (A3 r.1.Λ).length cm)) underlying67 kQ CO Y Y) Y) (.ph (.g0 (.hh Y (.c func40 [_, _] (NG f g (Φ.go 1 m.ep) ⟨3, m.ep, 0, r.1.Λ.cur, A3 r.1.Λ⟩ (.slice am (A3 r.1.Λ).length cm) Y ha hc)) ?_)))
  rintro v L' ⟨bs, rfl, rfl⟩
  refine D.ph (.g0 (.kv Y (.assign Y) (.pf (.ret ?_))))
  have hr : EY Φ ⟨δ, ω, Λ⟩ m = (Φ.go 1 m.ep, r.1, some ⟨3, m.ep, 0, r.1.Λ.cur, A3 r.1.Λ⟩) := by unfold EY; (try dsimp only); rw [if_neg (by rintro (g1 | g1 | g1); exact h1_11 g1; exact h1_24 g1; exact h28 g1), if_pos h40, hA, if_neg (fun g1 => g1 h48)]
  rw [hr]
  try dsimp only
  refine .outFold (v := .slice (some ⟨bs, 0, none⟩) 1 1) (mv := .slice am _ cm) (k := _) ⟨3, m.ep, 0, r.1.Λ.cur, A3 r.1.Λ⟩ O (by exact rfl) (by exact rfl) (by exact rfl) ?_
  exact .dn Y Y ⟨_, _, Y, Y⟩
 refine .sk (.seq (.draw [6, 9] [[0, 1, 2, 3, 4, 5, 6], [7, 8, 9]] mixed kQ (.go [Ar b3 _ _] O (.mv Y Y (.k Y (.move Y) (.k Y (.fieldAddr Y EI) (.k Y (.ld Y AF) (.nf Y Y Y CA (.hh Y (.store Y Y Y BV ?c102 (Bk _ _)) ?_)))))))))
 case c102 => first | decide | (simp; omega) | simp
 rintro v L' rfl
 refine D.ph (.g0 (.nf Y Y Y FA (.hh Y (.store Y Y Y BV ?c107 (Bk _ _)) ?_)))
 case c107 => first | decide | (simp; omega) | simp
 rintro v L' rfl
 refine D.ph (.fin (.fwFold (f := f) (g := g) (ha := ha) (hc := hc) (m := Φ.heard.length) (Φ.go 1 m.ep) O (by exact rfl) (by exact rfl) (by exact rfl) (.fwOpen (f := f) O fun ha hc => (.then_n (.seq (.draw [10, 12] [[0, 1, 2, 3, 4, 5, 6, 7, 8, 9, 10, 11], [12], [13]] mixed kQ (.go [Ar f _ _] O (.k Y (.move Y) (.k Y (.move Y) (.k Y (.nilp Y) (.k Y (.fieldAddr Y FA) (.k Y (.ld Y AF) (.k Y (.move Y) (.mv Y Y (.nf Y Y Y C4 (.kv Y (.ld Y B1) (.hh Y (.c func88 [_] (Hg g x Λ hli)) ?_)))))))))))))))))
 rintro v L' ⟨am, cm, rfl, rfl⟩
 refine D.kv Y (.to (v' := .agg (IE ⟨3, m.ep, 0, -1, A3 Λ⟩ (.slice am (A3 Λ).length cm)).toArray) (.buildN (pl := [(0, 1), (1, 1), (2, 1), (3, 1), (4, 1), (5, 1), (6, 1), (7, 1), (8, 10), (18, 1)]) (us := [(0, _), (1, _), (3, _), (5, _)]) (cells := IE ⟨3, m.ep, 0, -1, A3 Λ⟩ (.slice am (A3 Λ).length cm)) underlying67 kQ CO Y Y) Y) (.ph (.g0 (.hh Y (.c func40 [_, _] (NG f g (Φ.go 1 m.ep) ⟨3, m.ep, 0, -1, A3 Λ⟩ (.slice am (A3 Λ).length cm) Y ha hc)) ?_)))
 rintro v L' ⟨bs, rfl, rfl⟩
 refine D.ph (.g0 (.kv Y (.assign Y) (.pf (.ret ?_))))
 have hr : EY Φ ⟨δ, ω, Λ⟩ m = (Φ.go 1 m.ep, ⟨δ, ω, Λ⟩, some ⟨3, m.ep, 0, -1, A3 Λ⟩) := by unfold EY; (try dsimp only); rw [if_neg (by rintro (g1 | g1 | g1); exact h1_11 g1; exact h1_24 g1; exact h28 g1), if_neg h40]
 rw [hr]
 try dsimp only
 refine .outFold (v := .slice (some ⟨bs, 0, none⟩) 1 1) (mv := .slice am _ cm) (k := _) ⟨3, m.ep, 0, -1, A3 Λ⟩ O (by exact rfl) (by exact rfl) (by exact rfl) ?_
 exact .dn Y Y ⟨_, _, Y, Y⟩
theorem Rg (f g x d : Nat) (Φ : Fw) (δ : Dk) (ω : Wl) (Λ : Lg) (m : Ms) (p : HP) (N : Int) (hm : Or p m) (hP : GU ⟨δ, ω, Λ⟩ N) (hN : N + 3000000000000 < 4611686018427387904) : Fn prog 54 #[AG f, .agg (BF m).toArray] [G4 f g Φ, BW g x Λ, CX x d ω, Bg d δ, p] fun v L => ∃ a c, v = .slice a (Tm (FZ Φ ⟨δ, ω, Λ⟩ m).2.2) c ∧ L = [G4 f g (FZ Φ ⟨δ, ω, Λ⟩ m).1, BW g x (FZ Φ ⟨δ, ω, Λ⟩ m).2.1.Λ, CX x d (FZ Φ ⟨δ, ω, Λ⟩ m).2.1.ω, Bg d (FZ Φ ⟨δ, ω, Λ⟩ m).2.1.δ, KW v Φ.ld (FZ Φ ⟨δ, ω, Λ⟩ m).2.2, p] := by
 refine Fn.intro func54 Y Y fun F W => ?_
 have hml := hm.len
 have hwi := hP.wk.i om
 have hli := hP.w.i
 have hup : Λ.zxs.Pairwise (· < ·) := (pairwise_cons.1 hP.w.rows.up).2
 have hsn : Λ.snap.length ≤ 65536 := hP.w.snap
 have hPc := Sa hP m.zx
 have hPh := Qc hP hm
 refine .fwOpen (f := f) O fun ha hc => (.sr (.oq (.box Y) ?_))
 rintro v L' ⟨b3, rfl, rfl⟩
 refine .a Y (.nil (.ptCast (b := b3) (l' := BF m) O (by exact rfl) (.then_n (.seq (.seq (.draw [] [[0, 1, 2, 3, 4, 5, 6, 7, 8, 9, 10, 11, 12, 13]] mixed kQ (.g0 (.mv Y Y (.nf Y Y Y CA (.kv Y (.ld Y AF) (.kv Y (.int Y Y Y) (.mv Y Y (.ndec (t := 11) Y (fun h1_11 => ?_) (fun h1_11 => ?_))))))))))))))
 ·refine D.kNT (t := 10) Y h1_11 (.gz Y (.gz Y (.gz Y (.gz Y (.gz Y (.gz Y (.gz Y (.kv Y (.pickT Y Y) (.pf (.condT Y (.seq (.fwFold (f := f) (g := g) (ha := ha) (hc := hc) (m := Φ.heard.length) Φ O (by exact rfl) (by exact rfl) (by exact rfl) (.region (.m Y (.cv func45 [_] (A9 f g (Φ)) ?_)))))))))))))))
  refine .an Y (.rt ?_)
  have hr : FZ Φ ⟨δ, ω, Λ⟩ m = (Φ.lose, ⟨δ, ω, Λ⟩, none) := by unfold FZ; (try dsimp only); rw [if_pos (by first | exact .inl h1_11 | exact .inr h19)]
  rw [hr]
  try dsimp only
  refine .outNone Φ.ld ?_
  exact .dn Y Y ⟨_, _, Y, Y⟩
 refine D.kNF (t := 10) Y h1_11 (.gv Y (.fieldAddr Y EI) (.gv Y (.ld Y AF) (.gv Y (.move Y) (.gv Y (.nilp Y) (.gv Y (.fieldAddr Y FA) (.gv Y (.ld Y AF) (.gv Y (.int Y Y Y) (.kv Y (.pickF Y Y) (.pf (.condN Y (fun h19 => ?_) (fun h19 => ?_)))))))))))
 ·refine .seq (.fwFold (f := f) (g := g) (ha := ha) (hc := hc) (m := Φ.heard.length) Φ O (by exact rfl) (by exact rfl) (by exact rfl) (.region (.m Y (.cv func45 [_] (A9 f g (Φ)) ?_))))
  refine .an Y (.rt ?_)
  have hr : FZ Φ ⟨δ, ω, Λ⟩ m = (Φ.lose, ⟨δ, ω, Λ⟩, none) := by unfold FZ; (try dsimp only); rw [if_pos (by first | exact .inl h1_11 | exact .inr h19)]
  rw [hr]
  try dsimp only
  refine .outNone Φ.ld ?_
  exact .dn Y Y ⟨_, _, Y, Y⟩
 refine .sk (.sr (.an Y (.seq (.joinK (ι := Unit) (fun q E => (5, .bool (decide ((D2 ⟨δ, ω, Λ⟩ m).2 = 0))) :: E) (fun q => [BW g x ((D2 ⟨δ, ω, Λ⟩ m).1).Λ, CX x d ((D2 ⟨δ, ω, Λ⟩ m).1).ω, Bg d ((D2 ⟨δ, ω, Λ⟩ m).1).δ, p, G4 f g Φ]) (fun q => True) (pre := [BW g x Λ, CX x d ω, Bg d δ, p, Ar f [AA Φ.ld, AG g, AA Φ.ph, AA Φ.ep, AA Φ.com, AA Φ.sil, .slice ha Φ.heard.length hc] 98, Cr (.slice ha Φ.heard.length hc) Φ.heard]) (ts := [0, 4]) O O ?_ ?_))))
 ·refine .sr (.fa Y Hi (.u (.ld Y AF) (.ui Y Y Y (.nt (.condD Y (fun h24 => ?_) (fun h24 => ?_))))))
  ·refine .draw [10] [[0, 1, 2, 3, 4, 5, 6, 7, 8, 9, 10], [11, 12]] mixed kQ (.g0 (.mv Y Y (.nf Y Y Y C4 (.kv Y (.ld Y B1) (.kv Y (.fieldAddr Y Cx) (.kv Y (.ld Y AF) (.kv Y (.fieldAddr Y YO) (.kv Y (.ld Y G9) (.kv Y (.fieldAddr Y Dq) (.kv Y (.ld Y H7) (.hh Y (.c func89 [_, _, _, _] (Mh g x d δ ω Λ m.zx m.data m.ev m.ents p hwi hm.zx hm.l om hm.x)) ?_)))))))))))
   rintro v L' ⟨rfl, rfl⟩
   refine D.ph (.g0 (.kv Y (.int Y Y Y) (.kv Y (.assign Y) (.pf ?_))))
   have hz : (D2 ⟨δ, ω, Λ⟩ m) = Au ⟨δ, ω, Λ⟩ m.zx m.data m.ents := by unfold D2; rw [if_pos h24]
   rw [hz]
   refine .fwFold (f := f) (g := g) (ha := ha) (hc := hc) (m := Φ.heard.length) Φ O (by exact rfl) (by exact rfl) (by exact rfl) ?_
   exact .mk (()) (trivial) O
  refine .draw [6, 12] [[0, 1, 2, 3, 4, 5, 6], [7, 8, 9, 10, 11, 12], [13, 14]] mixed kQ (.g0 (.mv Y Y (.nf Y Y Y C4 (.kv Y (.ld Y B1) (.kv Y (.fieldAddr Y Cx) (.kv Y (.ld Y AF) (.hh Y (.c func90 [_, _] (UL g x d δ ω Λ m.zx hwi hli hup hsn)) ?_)))))))
  rintro v L' ⟨rfl, rfl⟩
  refine D.ph (.g0 (.kv Y (.int Y Y Y) (.mv Y Y (.dec (t := 45) Y (fun h6_45 => ?_) (fun h6_45 => ?_)))))
  ·refine D.kDT (t := 44) Y h6_45 (.gv Y (.move Y) (.gv Y (.fieldAddr Y Dq) (.gv Y (.ld Y H7) (.gh (t := 45) Y Y Y kQ (.c func91 [_, _] (He f g x d Φ (CE ⟨δ, ω, Λ⟩ m.zx).1.δ (CE ⟨δ, ω, Λ⟩ m.zx).1.ω (CE ⟨δ, ω, Λ⟩ m.zx).1.Λ m.ev m.ents p (N + 2000000) hPc om hm.l hm.len hm.x ha hc)) O ?_))))
   rintro v L' ⟨rfl, rfl⟩
   refine D.ph (.g0 (.kv Y (.pickT Y Y) (.kv Y (.assign Y) (.pf ?_))))
   have hz : (D2 ⟨δ, ω, Λ⟩ m) = Ea ⟨δ, ω, Λ⟩ m.zx m.ents := by unfold D2; rw [if_neg h24]
   rw [hz]
   have hy : Ea ⟨δ, ω, Λ⟩ m.zx m.ents = BN m.ents (CE ⟨δ, ω, Λ⟩ m.zx).1 := by unfold Ea; rw [if_neg (fun g1 => g1 h6_45)]
   rw [hy]
   exact .mk (()) (trivial) O
  refine D.kDF (t := 44) Y h6_45 (.gz Y (.gz Y (.gz Y (.gz Y (.ph (.g0 (.kv Y (.pickF Y Y) (.kv Y (.assign Y) (.pf ?_)))))))))
  have hz : (D2 ⟨δ, ω, Λ⟩ m) = Ea ⟨δ, ω, Λ⟩ m.zx m.ents := by unfold D2; rw [if_neg h24]
  rw [hz]
  have hy : Ea ⟨δ, ω, Λ⟩ m.zx m.ents = CE ⟨δ, ω, Λ⟩ m.zx := by unfold Ea; rw [if_pos h6_45]
  rw [hy, decide_eq_false h6_45]
  refine .fwFold (f := f) (g := g) (ha := ha) (hc := hc) (m := Φ.heard.length) Φ O (by exact rfl) (by exact rfl) (by exact rfl) ?_
  exact .mk (()) (trivial) O
 rintro _u _
 obtain ⟨r, hH⟩ : ∃ r, (D2 ⟨δ, ω, Λ⟩ m) = r := ⟨_, rfl⟩
 rw [hH] at hPh ⊢
 have hwh := hPh.wk.i om
 have hws := (LK hPh).wk.i om
 refine .fwOpen (f := f) O fun ha hc => (.seq (.seq (.draw [11] [[0, 1, 2, 3, 4, 5, 6, 7, 8, 9, 10, 11], [12, 13]] mixed kQ (.g0 (.mv Y Y (.kv Y (.not Y) (.mv Y Y (.ndec (t := 53) Y (fun h7_53 => ?_) (fun h7_53 => ?_)))))))))
 ·refine D.kNT (t := 52) Y h7_53 (.gz Y (.gz Y (.gz Y (.gz Y (.gz Y (.gz Y (.gz Y (.gz Y (.gz Y (.ph (.g0 (.gz Y (.kv Y (.pickT Y Y) (.pf (.condT Y (.seq (.fwFold (f := f) (g := g) (ha := ha) (hc := hc) (m := Φ.heard.length) Φ O (by exact rfl) (by exact rfl) (by exact rfl) (.region (.m Y (.cv func45 [_] (A9 f g (Φ)) ?_))))))))))))))))))))
  refine .an Y (.rt ?_)
  have hr : FZ Φ ⟨δ, ω, Λ⟩ m = Gz Φ r := by unfold FZ; rw [if_neg (by rintro (g1 | g1); exact g1 h1_11; exact g1 h19), hH]
  rw [hr]
  have hr : Gz Φ r = (Φ.lose, r.1, none) := by unfold Gz; (try dsimp only); rw [if_pos h7_53]
  rw [hr]
  try dsimp only
  refine .outNone Φ.ld ?_
  exact .dn Y Y ⟨_, _, Y, Y⟩
 refine D.kNF (t := 52) Y h7_53 (.gv Y (.move Y) (.gv Y (.nilp Y) (.gv Y (.fieldAddr Y C4) (.gv Y (.ld Y B1) (.gv Y (.move Y) (.gv Y (.nilp Y) (.gv Y (.fieldAddr Y FA) (.gv Y (.ld Y AF) (.gh (t := 53) Y Y Y kQ (.c func9 [_, _] (Fx g x d r.1.δ r.1.ω r.1.Λ Φ.ep hwh hws)) O ?_)))))))))
 rintro v L' ⟨rfl, rfl⟩; obtain ⟨a, hA⟩ : ∃ a, AY r.1 Φ.ep = a := ⟨_, rfl⟩; rw [show AY ⟨r.1.δ, r.1.ω, r.1.Λ⟩ Φ.ep = a from hA]
 refine D.ph (.g0 (.gv Y (.int Y Y Y) (.kv Y (.pickF Y Y) (.pf (.condN Y (fun h64 => ?_) (fun h64 => ?_))))))
 ·refine .seq (.fwFold (f := f) (g := g) (ha := ha) (hc := hc) (m := Φ.heard.length) Φ O (by exact rfl) (by exact rfl) (by exact rfl) (.region (.m Y (.cv func45 [_] (A9 f g (Φ)) ?_))))
  refine .an Y (.rt ?_)
  have hr : FZ Φ ⟨δ, ω, Λ⟩ m = Gz Φ r := by unfold FZ; rw [if_neg (by rintro (g1 | g1); exact g1 h1_11; exact g1 h19), hH]
  rw [hr]
  have hr : Gz Φ r = (Φ.lose, a.1, none) := by unfold Gz; (try dsimp only); rw [if_neg (fun g1 => g1 h7_53), hA, if_pos h64]
  rw [hr]
  try dsimp only
  refine .outNone Φ.ld ?_
  exact .dn Y Y ⟨_, _, Y, Y⟩
 refine .sk (.sm Y (.nf Y CA (.st Y Y Y BV ?_)))
 refine .nt (.sm Y (.m Y (.nf Y FA (.u (.ld Y AF) (.q (.to (v' := .agg (IE ⟨5, Φ.ep, 0, 0, []⟩ (.slice none 0 0)).toArray) (.buildN (pl := [(0, 1), (1, 1), (2, 1), (3, 1), (4, 1), (5, 1), (6, 1), (7, 1), (8, 10), (18, 1)]) (us := [(0, _), (1, _)]) (cells := IE ⟨5, Φ.ep, 0, 0, []⟩ (.slice none 0 0)) underlying67 kQ CO Y Y) Y) Y (.fwFold (f := f) (g := g) (ha := ha) (hc := hc) (m := Φ.heard.length) (Φ.toPh 2) O (by exact rfl) (by exact rfl) (by exact rfl) (.add (Ak 3 1) (.oq (.c func40 [_, _] (Ec f g (Φ.toPh 2) ⟨5, Φ.ep, 0, 0, []⟩ (.slice none 0 0) Y)) ?_))))))))
 rintro v L' ⟨bs, rfl, rfl⟩
 refine .an Y (.ret ?_)
 have hr : FZ Φ ⟨δ, ω, Λ⟩ m = Gz Φ r := by unfold FZ; rw [if_neg (by rintro (g1 | g1); exact g1 h1_11; exact g1 h19), hH]
 rw [hr]
 have hr : Gz Φ r = (Φ.toPh 2, a.1, some ⟨5, Φ.ep, 0, 0, []⟩) := by unfold Gz; (try dsimp only); rw [if_neg (fun g1 => g1 h7_53), hA, if_neg (fun g1 => g1 h64)]
 rw [hr]
 try dsimp only
 refine .outFold (v := .slice (some ⟨bs, 0, none⟩) 1 1) (mv := .slice none 0 0) (k := 0) ⟨5, Φ.ep, 0, 0, []⟩ O (by exact rfl) (by exact rfl) (by exact rfl) ?_
 exact .dn Y Y ⟨_, _, Y, Y⟩
theorem Kk {l : List En} (h : l.length = 1) : (l.flatMap BX)[0]? = some (AA (FY l)) := by
 obtain ⟨e, rfl⟩ := Sl (fun g => g h)
 rfl
theorem VV {p : HP} {l : List En} (h : ∀ e ∈ l, MU p e) : I64 (FY l) := by
 match l, h with
 | [], _ => exact ⟨by decide, by decide⟩
 | e :: l, h => exact (h e (mem_cons_self ..)).l.w.i.zx
theorem PH {a : Int} (h : I64 a) : -9223372036854775808 ≤ a.tdiv 4294967296 ∧ a.tdiv 4294967296 ≤ 9223372036854775807 := by
 obtain ⟨h1, h2⟩ := h
 rcases Int.le_total 0 a with h3 | h3
 ·rw [Int.tdiv_eq_ediv_of_nonneg h3]; omega
 ·obtain ⟨b, rfl⟩ : ∃ b, a = -b := ⟨-a, by omega⟩
  rw [Int.neg_tdiv, Int.tdiv_eq_ediv_of_nonneg om]; omega
theorem Me (f g x d : Nat) (Φ : Fw) (δ : Dk) (ω : Wl) (Λ : Lg) (m : Ms) (p : HP) (N : Int) (hm : Or p m) (hP : GU ⟨δ, ω, Λ⟩ N) (hN : N + 3000000000000 < 4611686018427387904) : Fn prog 55 #[AG f, .agg (BF m).toArray] [G4 f g Φ, BW g x Λ, CX x d ω, Bg d δ, p] fun v L => ∃ a c, v = .slice a (Tm (DZ Φ ⟨δ, ω, Λ⟩ m).2.2) c ∧ L = [G4 f g (DZ Φ ⟨δ, ω, Λ⟩ m).1, BW g x (DZ Φ ⟨δ, ω, Λ⟩ m).2.1.Λ, CX x d (DZ Φ ⟨δ, ω, Λ⟩ m).2.1.ω, Bg d (DZ Φ ⟨δ, ω, Λ⟩ m).2.1.δ, KW v Φ.ld (DZ Φ ⟨δ, ω, Λ⟩ m).2.2, p] := by
 refine Fn.intro func55 Y Y fun F W => ?_
 have hml := hm.len
 have hz0 := VV hm.x
 refine .rdBoth (p := p) hm.l O fun aa ca hev hA => ?_
 have hev2 : ∀ h : Hp, p h → B5 11 h (.slice aa m.ents.length ca) m.ents.length (m.ents.flatMap BX) := hev ▸ hm.l
 refine .fwOpen (f := f) O fun ha hc => (.sr (.oq (.box Y) ?_))
 rintro v L' ⟨b3, rfl, rfl⟩
 refine .a Y (.nil (.ptCast (b := b3) (l' := BF m) O (by exact rfl) (.then_n (.seq (.seq (.draw [35] [[0, 1, 2, 3, 4, 5, 6, 7, 8, 9, 10, 11, 12, 13, 14, 15, 16, 17, 18, 19, 20, 21, 22, 23, 24, 25, 26, 27, 28, 29, 30, 31, 32, 33, 34, 35], [36, 37]] mixed kQ (.g0 (.mv Y Y (.nf Y Y Y CA (.kv Y (.ld Y AF) (.kv Y (.int Y Y Y) (.mv Y Y (.ndec (t := 10) Y (fun h1_10 => ?_) (fun h1_10 => ?_))))))))))))))
 ·refine D.kNT (t := 9) Y h1_10 (.gv Y (.move Y) (.gv Y (.nilp Y) (.gv Y (.fieldAddr Y CA) (.gv Y (.ld Y AF) (.gv Y (.int Y Y Y) (.kv Y (.pickT Y Y) (.mv Y Y (.ndec (t := 17) Y (fun h1_17 => ?_) (fun h1_17 => ?_)))))))))
  ·refine D.kNT (t := 15) Y h1_17 (.kNT (t := 16) Y h1_17 (.gz Y (.gz Y (.gz Y (.gz Y (.kv Y (.pickT Y Y) (.mv Y Y (.gz Y (.gz Y (.gz Y (.gz Y (.gz Y (.gz Y (.gz Y (.gz Y (.gz Y (.gz Y (.gz Y (.kv Y (.pickT Y Y) (.mv Y Y (.gz Y (.gz Y (.gz Y (.gz Y (.ph (.g0 (.gz Y (.kv Y (.pickT Y Y) (.pf (.condT Y (.seq (.fwFold (f := f) (g := g) (ha := ha) (hc := hc) (m := Φ.heard.length) Φ O (by exact rfl) (by exact rfl) (by exact rfl) (.region (.m Y (.cv func45 [_] (A9 f g (Φ)) ?_)))))))))))))))))))))))))))))))))))
   refine .an Y (.rt ?_)
   have hr : DZ Φ ⟨δ, ω, Λ⟩ m = (Φ.lose, ⟨δ, ω, Λ⟩, none) := by unfold DZ; (try dsimp only); rw [if_pos (by first | exact .inl (by rintro (g1 | g1); exact h1_10 g1; exact h1_17 g1) | exact .inr (.inl om) | exact .inr (.inr h1_36))]
   rw [hr]
   try dsimp only
   refine .outNone Φ.ld ?_
   exact .dn Y Y ⟨_, _, Y, Y⟩
  refine D.kNF (t := 15) Y h1_17 (.kNF (t := 16) Y h1_17 (.gv Y (.fieldAddr Y Dq) (.gv Y (.to (v' := .slice aa m.ents.length ca) (.load Y H7 O Y) hev) (.gv Y (.slen Y underlying60 Y) (.gv Y (.int Y Y Y) (.kv Y (.pickF Y Y) (.mv Y Y (.ndec (t := 23) Y (fun h1_23 => ?_) (fun h1_23 => ?_)))))))))
  ·refine D.kNT (t := 21) Y h1_23 (.kNT (t := 22) Y h1_23 (.gz Y (.gz Y (.gz Y (.gz Y (.gz Y (.gz Y (.gz Y (.gz Y (.gz Y (.gz Y (.gz Y (.kv Y (.pickT Y Y) (.mv Y Y (.gz Y (.gz Y (.gz Y (.gz Y (.ph (.g0 (.gz Y (.kv Y (.pickT Y Y) (.pf (.condT Y (.seq (.fwFold (f := f) (g := g) (ha := ha) (hc := hc) (m := Φ.heard.length) Φ O (by exact rfl) (by exact rfl) (by exact rfl) (.region (.m Y (.cv func45 [_] (A9 f g (Φ)) ?_)))))))))))))))))))))))))))))
   refine .an Y (.rt ?_)
   have hr : DZ Φ ⟨δ, ω, Λ⟩ m = (Φ.lose, ⟨δ, ω, Λ⟩, none) := by unfold DZ; (try dsimp only); rw [if_pos (by first | exact .inl (by rintro (g1 | g1); exact h1_10 g1; exact h1_17 g1) | exact .inr (.inl om) | exact .inr (.inr h1_36))]
   rw [hr]
   try dsimp only
   refine .outNone Φ.ld ?_
   exact .dn Y Y ⟨_, _, Y, Y⟩
  obtain ⟨ba, oa, rfl⟩ := hA om
  refine D.kNF (t := 21) Y h1_23 (.kNF (t := 22) Y h1_23 (.gv Y (.fieldAddr Y Dq) (.gv Y (.to (v' := .slice (some ⟨ba, oa, none⟩) m.ents.length ca) (.load Y H7 O Y) hev) (.gv Y (.indexAddr Y Y Fr om) (.gv Y (.fieldAddr Y EH) (.gv Y (.loadRd (sz := 11) (j := 0) (p := p) (v := AA (FY m.ents)) Y AF O hev2 om (Kk om)) (.gv Y (.quo Y Y dQ (PH hz0)) (.gv Y (.move Y) (.gv Y (.nilp Y) (.gv Y (.fieldAddr Y FA) (.gv Y (.ld Y AF) (.gv Y (.int Y Y Y) (.kv Y (.pickF Y Y) (.mv Y Y (.ndec (t := 36) Y (fun h1_36 => ?_) (fun h1_36 => ?_))))))))))))))))
  ·refine D.kNT (t := 34) Y h1_36 (.kNT (t := 35) Y h1_36 (.gz Y (.gz Y (.gz Y (.gz Y (.ph (.g0 (.gz Y (.kv Y (.pickT Y Y) (.pf (.condT Y (.seq (.fwFold (f := f) (g := g) (ha := ha) (hc := hc) (m := Φ.heard.length) Φ O (by exact rfl) (by exact rfl) (by exact rfl) (.region (.m Y (.cv func45 [_] (A9 f g (Φ)) ?_))))))))))))))))
   refine .an Y (.rt ?_)
   have hr : DZ Φ ⟨δ, ω, Λ⟩ m = (Φ.lose, ⟨δ, ω, Λ⟩, none) := by unfold DZ; (try dsimp only); rw [if_pos (by first | exact .inl (by rintro (g1 | g1); exact h1_10 g1; exact h1_17 g1) | exact .inr (.inl om) | exact .inr (.inr h1_36))]
   rw [hr]
   try dsimp only
   refine .outNone Φ.ld ?_
   exact .dn Y Y ⟨_, _, Y, Y⟩
  refine D.kNF (t := 34) Y h1_36 (.kNF (t := 35) Y h1_36 (.gv Y (.move Y) (.gv Y (.fieldAddr Y Dq) (.gv Y (.to (v' := .slice (some ⟨ba, oa, none⟩) m.ents.length ca) (.load Y H7 O Y) hev) (.gh (t := 36) Y Y Y kQ (.c func91 [_, _] (He f g x d Φ δ ω Λ (.slice (some ⟨ba, oa, none⟩) m.ents.length ca) m.ents p N hP om hev2 hm.len hm.x ha hc)) O ?_)))))
  rintro v L' ⟨rfl, rfl⟩; obtain ⟨r, hT⟩ : ∃ r, (BN m.ents ⟨δ, ω, Λ⟩) = r := ⟨_, rfl⟩; rw [hT]
  refine D.ph (.g0 (.gv Y (.not Y) (.kv Y (.pickF Y Y) (.pf (.condB Y (fun h42 => ?_) (fun h42 => ?_))))))
  ·refine .sm Y (.cv func45 [_] (A9 f g (Φ)) ?_)
   refine .an Y (.rt ?_)
   have hr : DZ Φ ⟨δ, ω, Λ⟩ m = (Φ.lose, r.1, none) := by unfold DZ; (try dsimp only); rw [if_neg (by rintro (g1 | g1 | g1); exact g1 (by first | exact .inl h1_10 | exact .inr h1_17); exact g1 om; exact g1 h1_36), hT, if_pos (by simpa using h42)]
   rw [hr]
   try dsimp only
   refine .outNone Φ.ld ?_
   exact .dn Y Y ⟨_, _, Y, Y⟩
  refine .sk (.sm Y (.fa Y Dq (.q (.to (v' := .slice (some ⟨ba, oa, none⟩) m.ents.length ca) (.load Y H7 O Y) hev) Y (.q (.indexAddr Y Y Fr om) Y (.fa Y EH (.q (.loadRd (sz := 11) (j := 0) (p := p) (v := AA (FY m.ents)) Y AF O hev2 om (Kk om)) Y (.q (.to (v' := .agg (IE ⟨8, 0, FY m.ents, 0, []⟩ (.slice none 0 0)).toArray) (.buildN (pl := [(0, 1), (1, 1), (2, 1), (3, 1), (4, 1), (5, 1), (6, 1), (7, 1), (8, 10), (18, 1)]) (us := [(0, _), (2, _)]) (cells := IE ⟨8, 0, FY m.ents, 0, []⟩ (.slice none 0 0)) underlying67 kQ CO Y Y) Y) Y (.add (Ak 3 1) (.oq (.c func40 [_, _] (Ec f g (Φ) ⟨8, 0, FY m.ents, 0, []⟩ (.slice none 0 0) Y)) ?_)))))))))
  rintro v L' ⟨bs, rfl, rfl⟩
  refine .an Y (.ret ?_)
  have hr : DZ Φ ⟨δ, ω, Λ⟩ m = (Φ, r.1, some ⟨8, 0, FY m.ents, 0, []⟩) := by unfold DZ; (try dsimp only); rw [if_neg (by rintro (g1 | g1 | g1); exact g1 (by first | exact .inl h1_10 | exact .inr h1_17); exact g1 om; exact g1 h1_36), hT, if_neg (fun g1 => g1 (by simpa using h42))]
  rw [hr]
  try dsimp only
  refine .outFold (v := .slice (some ⟨bs, 0, none⟩) 1 1) (mv := .slice none 0 0) (k := 0) ⟨8, 0, FY m.ents, 0, []⟩ O (by exact rfl) (by exact rfl) (by exact rfl) ?_
  exact .dn Y Y ⟨_, _, Y, Y⟩
 refine D.kNF (t := 9) Y h1_10 (.gz Y (.gz Y (.gz Y (.gz Y (.gz Y (.kv Y (.pickF Y Y) (.mv Y Y (.gv Y (.fieldAddr Y Dq) (.gv Y (.to (v' := .slice aa m.ents.length ca) (.load Y H7 O Y) hev) (.gv Y (.slen Y underlying60 Y) (.gv Y (.int Y Y Y) (.kv Y (.pickF Y Y) (.mv Y Y (.ndec (t := 23) Y (fun h1_23 => ?_) (fun h1_23 => ?_)))))))))))))))
 ·refine D.kNT (t := 21) Y h1_23 (.kNT (t := 22) Y h1_23 (.gz Y (.gz Y (.gz Y (.gz Y (.gz Y (.gz Y (.gz Y (.gz Y (.gz Y (.gz Y (.gz Y (.kv Y (.pickT Y Y) (.mv Y Y (.gz Y (.gz Y (.gz Y (.gz Y (.ph (.g0 (.gz Y (.kv Y (.pickT Y Y) (.pf (.condT Y (.seq (.fwFold (f := f) (g := g) (ha := ha) (hc := hc) (m := Φ.heard.length) Φ O (by exact rfl) (by exact rfl) (by exact rfl) (.region (.m Y (.cv func45 [_] (A9 f g (Φ)) ?_)))))))))))))))))))))))))))))
  refine .an Y (.rt ?_)
  have hr : DZ Φ ⟨δ, ω, Λ⟩ m = (Φ.lose, ⟨δ, ω, Λ⟩, none) := by unfold DZ; (try dsimp only); rw [if_pos (by first | exact .inl (by rintro (g1 | g1); exact h1_10 g1; exact h1_17 g1) | exact .inr (.inl om) | exact .inr (.inr h1_36))]
  rw [hr]
  try dsimp only
  refine .outNone Φ.ld ?_
  exact .dn Y Y ⟨_, _, Y, Y⟩
 obtain ⟨ba, oa, rfl⟩ := hA om
 refine D.kNF (t := 21) Y h1_23 (.kNF (t := 22) Y h1_23 (.gv Y (.fieldAddr Y Dq) (.gv Y (.to (v' := .slice (some ⟨ba, oa, none⟩) m.ents.length ca) (.load Y H7 O Y) hev) (.gv Y (.indexAddr Y Y Fr om) (.gv Y (.fieldAddr Y EH) (.gv Y (.loadRd (sz := 11) (j := 0) (p := p) (v := AA (FY m.ents)) Y AF O hev2 om (Kk om)) (.gv Y (.quo Y Y dQ (PH hz0)) (.gv Y (.move Y) (.gv Y (.nilp Y) (.gv Y (.fieldAddr Y FA) (.gv Y (.ld Y AF) (.gv Y (.int Y Y Y) (.kv Y (.pickF Y Y) (.mv Y Y (.ndec (t := 36) Y (fun h1_36 => ?_) (fun h1_36 => ?_))))))))))))))))
 ·refine D.kNT (t := 34) Y h1_36 (.kNT (t := 35) Y h1_36 (.gz Y (.gz Y (.gz Y (.gz Y (.ph (.g0 (.gz Y (.kv Y (.pickT Y Y) (.pf (.condT Y (.seq (.fwFold (f := f) (g := g) (ha := ha) (hc := hc) (m := Φ.heard.length) Φ O (by exact rfl) (by exact rfl) (by exact rfl) (.region (.m Y (.cv func45 [_] (A9 f g (Φ)) ?_))))))))))))))))
  refine .an Y (.rt ?_)
  have hr : DZ Φ ⟨δ, ω, Λ⟩ m = (Φ.lose, ⟨δ, ω, Λ⟩, none) := by unfold DZ; (try dsimp only); rw [if_pos (by first | exact .inl (by rintro (g1 | g1); exact h1_10 g1; exact h1_17 g1) | exact .inr (.inl om) | exact .inr (.inr h1_36))]
  rw [hr]
  try dsimp only
  refine .outNone Φ.ld ?_
  exact .dn Y Y ⟨_, _, Y, Y⟩
 refine D.kNF (t := 34) Y h1_36 (.kNF (t := 35) Y h1_36 (.gv Y (.move Y) (.gv Y (.fieldAddr Y Dq) (.gv Y (.to (v' := .slice (some ⟨ba, oa, none⟩) m.ents.length ca) (.load Y H7 O Y) hev) (.gh (t := 36) Y Y Y kQ (.c func91 [_, _] (He f g x d Φ δ ω Λ (.slice (some ⟨ba, oa, none⟩) m.ents.length ca) m.ents p N hP om hev2 hm.len hm.x ha hc)) O ?_)))))
 rintro v L' ⟨rfl, rfl⟩; obtain ⟨r, hT⟩ : ∃ r, (BN m.ents ⟨δ, ω, Λ⟩) = r := ⟨_, rfl⟩; rw [hT]
 refine D.ph (.g0 (.gv Y (.not Y) (.kv Y (.pickF Y Y) (.pf (.condB Y (fun h42 => ?_) (fun h42 => ?_))))))
 ·refine .sm Y (.cv func45 [_] (A9 f g (Φ)) ?_)
  refine .an Y (.rt ?_)
  have hr : DZ Φ ⟨δ, ω, Λ⟩ m = (Φ.lose, r.1, none) := by unfold DZ; (try dsimp only); rw [if_neg (by rintro (g1 | g1 | g1); exact g1 (by first | exact .inl h1_10 | exact .inr h1_17); exact g1 om; exact g1 h1_36), hT, if_pos (by simpa using h42)]
  rw [hr]
  try dsimp only
  refine .outNone Φ.ld ?_
  exact .dn Y Y ⟨_, _, Y, Y⟩
 refine .sk (.sm Y (.fa Y Dq (.q (.to (v' := .slice (some ⟨ba, oa, none⟩) m.ents.length ca) (.load Y H7 O Y) hev) Y (.q (.indexAddr Y Y Fr om) Y (.fa Y EH (.q (.loadRd (sz := 11) (j := 0) (p := p) (v := AA (FY m.ents)) Y AF O hev2 om (Kk om)) Y (.q (.to (v' := .agg (IE ⟨8, 0, FY m.ents, 0, []⟩ (.slice none 0 0)).toArray) (.buildN (pl := [(0, 1), (1, 1), (2, 1), (3, 1), (4, 1), (5, 1), (6, 1), (7, 1), (8, 10), (18, 1)]) (us := [(0, _), (2, _)]) (cells := IE ⟨8, 0, FY m.ents, 0, []⟩ (.slice none 0 0)) underlying67 kQ CO Y Y) Y) Y (.add (Ak 3 1) (.oq (.c func40 [_, _] (Ec f g (Φ) ⟨8, 0, FY m.ents, 0, []⟩ (.slice none 0 0) Y)) ?_)))))))))
 rintro v L' ⟨bs, rfl, rfl⟩
 refine .an Y (.ret ?_)
 have hr : DZ Φ ⟨δ, ω, Λ⟩ m = (Φ, r.1, some ⟨8, 0, FY m.ents, 0, []⟩) := by unfold DZ; (try dsimp only); rw [if_neg (by rintro (g1 | g1 | g1); exact g1 (by first | exact .inl h1_10 | exact .inr h1_17); exact g1 om; exact g1 h1_36), hT, if_neg (fun g1 => g1 (by simpa using h42))]
 rw [hr]
 try dsimp only
 refine .outFold (v := .slice (some ⟨bs, 0, none⟩) 1 1) (mv := .slice none 0 0) (k := 0) ⟨8, 0, FY m.ents, 0, []⟩ O (by exact rfl) (by exact rfl) (by exact rfl) ?_
 exact .dn Y Y ⟨_, _, Y, Y⟩
theorem EU (f g x d : Nat) (Φ : Fw) (δ : Dk) (ω : Wl) (Λ : Lg) (m : Ms) (p : HP) (N : Int) (hm : Or p m) (hP : GU ⟨δ, ω, Λ⟩ N) (hN : N + 3000000000000 < 4611686018427387904) : Fn prog 19 #[AG f, .agg (BF m).toArray] [G4 f g Φ, BW g x Λ, CX x d ω, Bg d δ, p] fun v L => ∃ a c, v = .slice a (Tm (AX Φ ⟨δ, ω, Λ⟩ m).2.2) c ∧ L = [G4 f g (AX Φ ⟨δ, ω, Λ⟩ m).1, BW g x (AX Φ ⟨δ, ω, Λ⟩ m).2.1.Λ, CX x d (AX Φ ⟨δ, ω, Λ⟩ m).2.1.ω, Bg d (AX Φ ⟨δ, ω, Λ⟩ m).2.1.δ, KW v Φ.ld (AX Φ ⟨δ, ω, Λ⟩ m).2.2, p] := by
 refine Fn.intro func19 Y Y fun F W => ?_
 have hli := hP.w.i
 refine .fwOpen (f := f) O fun ha hc => (.sr (.oq (.box Y) ?_))
 rintro v L' ⟨b3, rfl, rfl⟩
 refine .a Y (.nil (.ptCast (b := b3) (l' := BF m) O (by exact rfl) (.then_n (.seq (.sm Y (.nf Y CA (.u (.ld Y AF) (.ui Y Y Y (.nt (.condD Y (fun h10 => ?_) (fun h10 => ?_)))))))))))
 ·refine .sr (.an Y (.rt ?_))
  have hr : AX Φ ⟨δ, ω, Λ⟩ m = (Φ, ⟨δ, ω, Λ⟩, none) := by unfold AX; rw [if_pos h10]
  rw [hr]
  refine .fwFold (f := f) (g := g) (ha := ha) (hc := hc) (m := Φ.heard.length) Φ O (by exact rfl) (by exact rfl) (by exact rfl) (.outNone Φ.ld ?_)
  exact .dn Y Y ⟨_, _, Y, Y⟩
 refine .sk (.sm Y (.nf Y JQ (.st Y Y Y BV ?_)))
 refine .nil (.fwFold (f := f) (g := g) (ha := ha) (hc := hc) (m := Φ.heard.length) (Φ.hush 0) O (by exact rfl) (by exact rfl) (by exact rfl) ?_)
 obtain ⟨Q, hG⟩ : ∃ Q, Φ.hush 0 = Q := ⟨_, rfl⟩
 have hld : Q.ld = Φ.ld := by rw [← hG]; rfl
 rw [hG]
 refine .then_n (.seq (.sr (.fa Y Kn (.u (.ld Y AF) (.nt (.block (.seq (.block (.seq (.block (.seq (.block (.seq (.block (.seq (.block (.seq (.block (.seq (.seq (.sr (.ui Y Y Y (.an Y (.condD Y (fun h16 => ?_) (fun h16 => ?_)))))))))))))))))))))))))
 ·refine .xe (.seq (.sm Y (.q (.loadAs (vs := BF m) Y DJ O (by simp [BF]) Y) Y (.oq (.c func53 [_, _] (OL f g x d Q δ ω Λ m p N hP om)) ?_))))
  rintro v L' ⟨av, cv, rfl, rfl⟩
  refine .an Y (.rt (.blk_r (.then_r (.blk_r (.then_r (.blk_r (.then_r (.blk_r (.then_r (.blk_r (.then_r (.blk_r (.then_r ?_)))))))))))))
  have hr : AX Φ ⟨δ, ω, Λ⟩ m = EY Q ⟨δ, ω, Λ⟩ m := by unfold AX; rw [if_neg h10, hG]; unfold BL; rw [if_pos h16]
  rw [hr, ← hld]
  exact .dn Y Y ⟨_, _, Y, Y⟩
 refine .sk (.seq (.sr (.ui Y Y Y (.an Y (.condD Y (fun h18 => ?_) (fun h18 => ?_))))))
 ·refine .exit (.then_e (.then_e (.blk_o Y (.then_e (.blk_e (.then_n (.seq (.sm Y (.q (.loadAs (vs := BF m) Y DJ O (by simp [BF]) Y) Y (.oq (.c func54 [_, _] (Rg f g x d Q δ ω Λ m p N hm hP om)) ?_))))))))))
  rintro v L' ⟨av, cv, rfl, rfl⟩
  refine .an Y (.rt (.blk_r (.then_r (.blk_r (.then_r (.blk_r (.then_r (.blk_r (.then_r (.blk_r (.then_r ?_)))))))))))
  have hr : AX Φ ⟨δ, ω, Λ⟩ m = FZ Q ⟨δ, ω, Λ⟩ m := by unfold AX; rw [if_neg h10, hG]; unfold BL; rw [if_neg h16, if_pos h18]
  rw [hr, ← hld]
  exact .dn Y Y ⟨_, _, Y, Y⟩
 refine .sk (.seq (.sr (.ui Y Y Y (.an Y (.condD Y (fun h20 => ?_) (fun h20 => ?_))))))
 ·refine .exit (.then_e (.then_e (.blk_o Y (.then_e (.blk_o Y (.then_e (.blk_e (.then_n (.seq (.sm Y (.q (.loadAs (vs := BF m) Y DJ O (by simp [BF]) Y) Y (.oq (.c func55 [_, _] (Me f g x d Q δ ω Λ m p N hm hP om)) ?_))))))))))))
  rintro v L' ⟨av, cv, rfl, rfl⟩
  refine .an Y (.rt (.blk_r (.then_r (.blk_r (.then_r (.blk_r (.then_r (.blk_r (.then_r ?_)))))))))
  have hr : AX Φ ⟨δ, ω, Λ⟩ m = DZ Q ⟨δ, ω, Λ⟩ m := by unfold AX; rw [if_neg h10, hG]; unfold BL; rw [if_neg h16, if_neg h18, if_pos h20]
  rw [hr, ← hld]
  exact .dn Y Y ⟨_, _, Y, Y⟩
 refine .sk (.seq (.sr (.ui Y Y Y (.an Y (.condD Y (fun h22 => ?_) (fun h22 => ?_))))))
 ·refine .exit (.then_e (.then_e (.blk_o Y (.then_e (.blk_o Y (.then_e (.blk_o Y (.then_e (.blk_e (.then_n (.seq (.seq (.seq (.fwOpen (f := f) O fun ha hc => (.region (.m Y (.nf Y CA (.u (.ld Y AF) (.ui Y Y Y (.nt (.condD Y (fun h41 => ?_) (fun h41 => ?_))))))))))))))))))))))
  ·refine .sr (.an Y (.rt (.then_r (.blk_r (.then_r (.blk_r (.then_r (.blk_r (.then_r ?_)))))))))
   have hr : AX Φ ⟨δ, ω, Λ⟩ m = EQ Q ⟨δ, ω, Λ⟩ m := by unfold AX; rw [if_neg h10, hG]; unfold BL; rw [if_neg h16, if_neg h18, if_neg h20, if_pos h22]
   rw [hr, ← hld]
   have hr : EQ Q ⟨δ, ω, Λ⟩ m = (Q, ⟨δ, ω, Λ⟩, none) := by unfold EQ; (try dsimp only); rw [if_pos h41]
   rw [hr]
   try dsimp only
   refine .fwFold (f := f) (g := g) (ha := ha) (hc := hc) (m := Q.heard.length) Q O (by exact rfl) (by exact rfl) (by exact rfl) (.outNone Q.ld ?_)
   exact .dn Y Y ⟨_, _, Y, Y⟩
  refine .sk (.seq (.seq (.draw [] [[0, 1, 2, 3, 4, 5, 6, 7, 8, 9, 10, 11, 12, 13, 14]] mixed kQ (.go [Ar f _ _, Ar b3 _ _, BW g x Λ] O (.mv Y Y (.nf Y Y Y CA (.kv Y (.ld Y AF) (.kv Y (.int Y Y Y) (.mv Y Y (.dec (t := 47) Y (fun h16_47 => ?_) (fun h16_47 => ?_)))))))))))
  ·refine D.kDT (t := 46) Y h16_47 (.gv Y (.fieldAddr Y Cx) (.gv Y (.ld Y AF) (.gv Y (.move Y) (.gv Y (.nilp Y) (.gv Y (.fieldAddr Y C4) (.gv Y (.ld Y B1) (.gm (t := 47) Y Y Y kQ (.c func25 [_] (B2 g x Λ hli)) O ?_)))))))
   refine D.gv Y (.int Y Y Y) (.kv Y (.pickT Y Y) (.pf (.condD Y (fun h56 => ?_) (fun h56 => ?_))))
   ·refine .draw [10] [[0, 1, 2, 3, 4, 5, 6, 7, 8, 9, 10]] mixed kQ (.g0 (.mv Y Y (.mv Y Y (.nf Y Y Y Gh (.kv Y (.ld Y AF) (.kv Y (.fieldAddr Y Cx) (.kv Y (.ld Y AF) (.kv Y (.max2 Y Y) (.nf Y Y Y Gh (.hh Y (.store Y Y Y BV ?c64 (Bk _ _)) ?_))))))))))
    case c64 => first | decide | (simp; omega) | simp
    rintro v L' rfl
    refine D.pf (.sm Y (.nf Y ED (.u (.ld Y DM) (.oq (.c func56 [_] (GZ _ _ _)) ?_))))
    rintro v L' ⟨⟨ac, cc, rfl⟩, rfl⟩
    refine .an Y (.sm Y (.nf Y ED (.st Y Y Y HV ?_)))
    refine .nt (.sm Y (.m Y (.q (.to (v' := .agg (IE ⟨11, 0, 0, 0, Q.heard⟩ (.slice ac Q.heard.length cc)).toArray) (.buildN (pl := [(0, 1), (1, 1), (2, 1), (3, 1), (4, 1), (5, 1), (6, 1), (7, 1), (8, 10), (18, 1)]) (us := [(0, _), (5, _)]) (cells := IE ⟨11, 0, 0, 0, Q.heard⟩ (.slice ac Q.heard.length cc)) underlying67 kQ CO Y Y) Y) Y (.add (Ak 3 1) (.fwFold (f := f) (g := g) (ha := none) (hc := 0) (m := 0) (hs := []) ((Q.comm m.zx).hear []) O (by exact rfl) (by exact rfl) (by exact rfl) (.oq (.c func40 [_, _] (Ec f g ((Q.comm m.zx).hear []) ⟨11, 0, 0, 0, Q.heard⟩ (.slice ac Q.heard.length cc) Y)) ?_))))))
    rintro v L' ⟨bs, rfl, rfl⟩
    refine .an Y (.rt (.blk_r (.then_r (.blk_r (.then_r (.blk_r (.then_r ?_)))))))
    have hr : AX Φ ⟨δ, ω, Λ⟩ m = EQ Q ⟨δ, ω, Λ⟩ m := by unfold AX; rw [if_neg h10, hG]; unfold BL; rw [if_neg h16, if_neg h18, if_neg h20, if_pos h22]
    rw [hr, ← hld]
    have h1 : Dw Q ⟨δ, ω, Λ⟩ m = (Q.comm m.zx) := by unfold Dw; dsimp only; rw [if_pos ⟨h16_47, h56⟩]
    have hr : EQ Q ⟨δ, ω, Λ⟩ m = ((Q.comm m.zx).hear [], ⟨δ, ω, Λ⟩, some ⟨11, 0, 0, 0, Q.heard⟩) := by unfold EQ; (try dsimp only); rw [if_neg h41, h1]
    rw [hr]
    try dsimp only
    refine .outFold (v := .slice (some ⟨bs, 0, none⟩) 1 1) (mv := .slice ac _ cc) (k := _) ⟨11, 0, 0, 0, Q.heard⟩ O (by exact rfl) (by exact rfl) (by exact rfl) ?_
    exact .dn Y Y ⟨_, _, Y, Y⟩
   refine .sk (.sm Y (.nf Y ED (.u (.ld Y DM) (.oq (.c func56 [_] (GZ _ _ _)) ?_))))
   rintro v L' ⟨⟨ac, cc, rfl⟩, rfl⟩
   refine .an Y (.sm Y (.nf Y ED (.st Y Y Y HV ?_)))
   refine .nt (.sm Y (.m Y (.q (.to (v' := .agg (IE ⟨11, 0, 0, 0, Q.heard⟩ (.slice ac Q.heard.length cc)).toArray) (.buildN (pl := [(0, 1), (1, 1), (2, 1), (3, 1), (4, 1), (5, 1), (6, 1), (7, 1), (8, 10), (18, 1)]) (us := [(0, _), (5, _)]) (cells := IE ⟨11, 0, 0, 0, Q.heard⟩ (.slice ac Q.heard.length cc)) underlying67 kQ CO Y Y) Y) Y (.add (Ak 3 1) (.fwFold (f := f) (g := g) (ha := none) (hc := 0) (m := 0) (hs := []) (Q.hear []) O (by exact rfl) (by exact rfl) (by exact rfl) (.oq (.c func40 [_, _] (Ec f g (Q.hear []) ⟨11, 0, 0, 0, Q.heard⟩ (.slice ac Q.heard.length cc) Y)) ?_))))))
   rintro v L' ⟨bs, rfl, rfl⟩
   refine .an Y (.rt (.blk_r (.then_r (.blk_r (.then_r (.blk_r (.then_r ?_)))))))
   have hr : AX Φ ⟨δ, ω, Λ⟩ m = EQ Q ⟨δ, ω, Λ⟩ m := by unfold AX; rw [if_neg h10, hG]; unfold BL; rw [if_neg h16, if_neg h18, if_neg h20, if_pos h22]
   rw [hr, ← hld]
   have h1 : Dw Q ⟨δ, ω, Λ⟩ m = Q := by unfold Dw; dsimp only; rw [if_neg (fun g1 => by first | exact h16_47 g1.1 | exact h56 g1.2)]
   have hr : EQ Q ⟨δ, ω, Λ⟩ m = (Q.hear [], ⟨δ, ω, Λ⟩, some ⟨11, 0, 0, 0, Q.heard⟩) := by unfold EQ; (try dsimp only); rw [if_neg h41, h1]
   rw [hr]
   try dsimp only
   refine .outFold (v := .slice (some ⟨bs, 0, none⟩) 1 1) (mv := .slice ac _ cc) (k := _) ⟨11, 0, 0, 0, Q.heard⟩ O (by exact rfl) (by exact rfl) (by exact rfl) ?_
   exact .dn Y Y ⟨_, _, Y, Y⟩
  refine D.kDF (t := 46) Y h16_47 (.gz Y (.gz Y (.gz Y (.gz Y (.gz Y (.gz Y (.gz Y (.gz Y (.kv Y (.pickF Y Y) (.pf (.condF Y (.sk (.sm Y (.nf Y ED (.u (.ld Y DM) (.oq (.c func56 [_] (GZ _ _ _)) ?_))))))))))))))))
  rintro v L' ⟨⟨ac, cc, rfl⟩, rfl⟩
  refine .an Y (.sm Y (.nf Y ED (.st Y Y Y HV ?_)))
  refine .nt (.sm Y (.m Y (.q (.to (v' := .agg (IE ⟨11, 0, 0, 0, Q.heard⟩ (.slice ac Q.heard.length cc)).toArray) (.buildN (pl := [(0, 1), (1, 1), (2, 1), (3, 1), (4, 1), (5, 1), (6, 1), (7, 1), (8, 10), (18, 1)]) (us := [(0, _), (5, _)]) (cells := IE ⟨11, 0, 0, 0, Q.heard⟩ (.slice ac Q.heard.length cc)) underlying67 kQ CO Y Y) Y) Y (.add (Ak 3 1) (.fwFold (f := f) (g := g) (ha := none) (hc := 0) (m := 0) (hs := []) (Q.hear []) O (by exact rfl) (by exact rfl) (by exact rfl) (.oq (.c func40 [_, _] (Ec f g (Q.hear []) ⟨11, 0, 0, 0, Q.heard⟩ (.slice ac Q.heard.length cc) Y)) ?_))))))
  rintro v L' ⟨bs, rfl, rfl⟩
  refine .an Y (.rt (.blk_r (.then_r (.blk_r (.then_r (.blk_r (.then_r ?_)))))))
  have hr : AX Φ ⟨δ, ω, Λ⟩ m = EQ Q ⟨δ, ω, Λ⟩ m := by unfold AX; rw [if_neg h10, hG]; unfold BL; rw [if_neg h16, if_neg h18, if_neg h20, if_pos h22]
  rw [hr, ← hld]
  have h1 : Dw Q ⟨δ, ω, Λ⟩ m = Q := by unfold Dw; dsimp only; rw [if_neg (fun g1 => by first | exact h16_47 g1.1 | exact h56 g1.2)]
  have hr : EQ Q ⟨δ, ω, Λ⟩ m = (Q.hear [], ⟨δ, ω, Λ⟩, some ⟨11, 0, 0, 0, Q.heard⟩) := by unfold EQ; (try dsimp only); rw [if_neg h41, h1]
  rw [hr]
  try dsimp only
  refine .outFold (v := .slice (some ⟨bs, 0, none⟩) 1 1) (mv := .slice ac _ cc) (k := _) ⟨11, 0, 0, 0, Q.heard⟩ O (by exact rfl) (by exact rfl) (by exact rfl) ?_
  exact .dn Y Y ⟨_, _, Y, Y⟩
 refine .sk (.seq (.sr (.ui Y Y Y (.an Y (.condD Y (fun h24 => ?_) (fun h24 => ?_))))))
 ·refine .exit (.then_e (.then_e (.blk_o Y (.then_e (.blk_o Y (.then_e (.blk_o Y (.then_e (.blk_o Y (.then_e (.blk_e (.then_n (.seq (.seq (.fwOpen (f := f) O fun ha hc => (.region (.m Y (.nf Y CA (.u (.ld Y AF) (.ui Y Y Y (.nt (.condN Y (fun h83 => ?_) (fun h83 => ?_)))))))))))))))))))))))
  ·refine .seq (.fwFold (f := f) (g := g) (ha := ha) (hc := hc) (m := Q.heard.length) Q O (by exact rfl) (by exact rfl) (by exact rfl) (.region (.m Y (.cv func45 [_] (A9 f g (Q)) ?_))))
   refine .an Y (.rt (.blk_r (.then_r (.blk_r (.then_r ?_)))))
   have hr : AX Φ ⟨δ, ω, Λ⟩ m = RP Q ⟨δ, ω, Λ⟩ m := by unfold AX; rw [if_neg h10, hG]; unfold BL; rw [if_neg h16, if_neg h18, if_neg h20, if_neg h22, if_pos h24]
   rw [hr, ← hld]
   have hr : RP Q ⟨δ, ω, Λ⟩ m = (Q.lose, ⟨δ, ω, Λ⟩, none) := by unfold RP; (try dsimp only); rw [if_pos h83]
   rw [hr]
   try dsimp only
   refine .outNone Q.ld ?_
   exact .dn Y Y ⟨_, _, Y, Y⟩
  refine .sk (.region (.m Y (.nf Y CA (.st Y Y Y BV ?_))))
  refine .nil (.blk_n (.then_n (.seq (.seq (.seq (.draw [] [[0, 1, 2, 3, 4, 5, 6, 7, 8, 9, 10, 11, 12, 13, 14]] mixed kQ (.go [Ar f _ _, Ar b3 _ _, BW g x Λ] O (.mv Y Y (.nf Y Y Y CA (.kv Y (.ld Y AF) (.kv Y (.as (v' := .bool false) (by rfl) (.int Y Y Y)) (.mv Y Y (.gv Y (.fieldAddr Y Cx) (.gv Y (.ld Y AF) (.gv Y (.move Y) (.gv Y (.nilp Y) (.gv Y (.fieldAddr Y C4) (.gv Y (.ld Y B1) (.gm (t := 94) Y Y Y kQ (.c func25 [_] (B2 g x Λ hli)) O ?_)))))))))))))))))))
  refine D.gv Y (.int Y Y Y) (.kv Y (.pickF Y Y) (.pf (.condD Y (fun h103 => ?_) (fun h103 => ?_))))
  ·refine .seq (.fwFold (f := f) (g := g) (ha := ha) (hc := hc) (m := Q.heard.length) (Q.toPh 3) O (by exact rfl) (by exact rfl) (by exact rfl) (.region (.m Y (.cv func45 [_] (A9 f g (Q.toPh 3)) ?_))))
   refine .an Y (.rt (.then_r (.blk_r (.then_r ?_))))
   have hr : AX Φ ⟨δ, ω, Λ⟩ m = RP Q ⟨δ, ω, Λ⟩ m := by unfold AX; rw [if_neg h10, hG]; unfold BL; rw [if_neg h16, if_neg h18, if_neg h20, if_neg h22, if_pos h24]
   rw [hr, ← hld]
   have hu : RP Q ⟨δ, ω, Λ⟩ m = Ff (Q.toPh 3) ⟨δ, ω, Λ⟩ m := by unfold RP; rw [if_neg (fun g1 => g1 h83)]
   rw [hu]
   have hr : Ff (Q.toPh 3) ⟨δ, ω, Λ⟩ m = ((Q.toPh 3).lose, ⟨δ, ω, Λ⟩, none) := by unfold Ff; (try dsimp only); rw [if_pos (by first | exact .inl h24_94 | exact .inr h103)]
   rw [hr]
   try dsimp only
   refine .outNone Q.ld ?_
   exact .dn Y Y ⟨_, _, Y, Y⟩
  refine .sk (.draw [10] [[0, 1, 2, 3, 4, 5, 6, 7, 8, 9, 10]] mixed kQ (.g0 (.mv Y Y (.mv Y Y (.nf Y Y Y Gh (.kv Y (.ld Y AF) (.kv Y (.fieldAddr Y Cx) (.kv Y (.ld Y AF) (.kv Y (.max2 Y Y) (.nf Y Y Y Gh (.hh Y (.store Y Y Y BV ?c158 (Bk _ _)) ?_)))))))))))
  case c158 => first | decide | (simp; omega) | simp
  rintro v L' rfl
  refine D.ph (.fin (.fwFold (f := f) (g := g) (ha := ha) (hc := hc) (m := Q.heard.length) ((Q.toPh 3).comm m.zx) O (by exact rfl) (by exact rfl) (by exact rfl) (.then_n (.exit (.blk_e (.then_n (.sr (.an Y (.ret ?_)))))))))
  have hr : AX Φ ⟨δ, ω, Λ⟩ m = RP Q ⟨δ, ω, Λ⟩ m := by unfold AX; rw [if_neg h10, hG]; unfold BL; rw [if_neg h16, if_neg h18, if_neg h20, if_neg h22, if_pos h24]
  rw [hr, ← hld]
  have hu : RP Q ⟨δ, ω, Λ⟩ m = Ff (Q.toPh 3) ⟨δ, ω, Λ⟩ m := by unfold RP; rw [if_neg (fun g1 => g1 h83)]
  rw [hu]
  have hr : Ff (Q.toPh 3) ⟨δ, ω, Λ⟩ m = ((Q.toPh 3).comm m.zx, ⟨δ, ω, Λ⟩, none) := by unfold Ff; (try dsimp only); rw [if_neg (by rintro (g1 | g1); exact g1 rfl; exact h103 g1)]
  rw [hr]
  try dsimp only
  refine .outNone Q.ld ?_
  exact .dn Y Y ⟨_, _, Y, Y⟩
 refine .sk (.sr (.ui Y Y Y (.an Y (.condD Y (fun h26 => ?_) (fun h26 => ?_)))))
 ·refine .exit (.then_e (.blk_o Y (.then_e (.blk_o Y (.then_e (.blk_o Y (.then_e (.blk_o Y (.then_e (.blk_o Y (.then_e (.blk_e (.then_n (.seq (.seq (.seq (.fwOpen (f := f) O fun ha hc => (.draw [] [[0, 1, 2, 3, 4, 5, 6, 7, 8, 9, 10, 11, 12, 13, 14]] mixed kQ (.go [Ar f _ _, Ar b3 _ _, BW g x Λ] O (.mv Y Y (.nf Y Y Y CA (.kv Y (.ld Y AF) (.kv Y (.int Y Y Y) (.mv Y Y (.ndec (t := 94) Y (fun h24_94 => ?_) (fun h24_94 => ?_))))))))))))))))))))))))))
  ·refine D.kNT (t := 93) Y h24_94 (.gz Y (.gz Y (.gz Y (.gz Y (.gz Y (.gz Y (.gz Y (.gz Y (.kv Y (.pickT Y Y) (.pf (.condT Y (.seq (.fwFold (f := f) (g := g) (ha := ha) (hc := hc) (m := Q.heard.length) (Q) O (by exact rfl) (by exact rfl) (by exact rfl) (.region (.m Y (.cv func45 [_] (A9 f g (Q)) ?_))))))))))))))))
   refine .an Y (.rt (.then_r (.blk_r (.then_r ?_))))
   have hr : AX Φ ⟨δ, ω, Λ⟩ m = Ff Q ⟨δ, ω, Λ⟩ m := by unfold AX; rw [if_neg h10, hG]; unfold BL; rw [if_neg h16, if_neg h18, if_neg h20, if_neg h22, if_neg h24, if_pos h26]
   rw [hr, ← hld]
   have hr : Ff (Q) ⟨δ, ω, Λ⟩ m = (Q.lose, ⟨δ, ω, Λ⟩, none) := by unfold Ff; (try dsimp only); rw [if_pos (by first | exact .inl h24_94 | exact .inr h103)]
   rw [hr]
   try dsimp only
   refine .outNone Q.ld ?_
   exact .dn Y Y ⟨_, _, Y, Y⟩
  refine D.kNF (t := 93) Y h24_94 (.gv Y (.fieldAddr Y Cx) (.gv Y (.ld Y AF) (.gv Y (.move Y) (.gv Y (.nilp Y) (.gv Y (.fieldAddr Y C4) (.gv Y (.ld Y B1) (.gm (t := 94) Y Y Y kQ (.c func25 [_] (B2 g x Λ hli)) O ?_)))))))
  refine D.gv Y (.int Y Y Y) (.kv Y (.pickF Y Y) (.pf (.condD Y (fun h103 => ?_) (fun h103 => ?_))))
  ·refine .seq (.fwFold (f := f) (g := g) (ha := ha) (hc := hc) (m := Q.heard.length) (Q) O (by exact rfl) (by exact rfl) (by exact rfl) (.region (.m Y (.cv func45 [_] (A9 f g (Q)) ?_))))
   refine .an Y (.rt (.then_r (.blk_r (.then_r ?_))))
   have hr : AX Φ ⟨δ, ω, Λ⟩ m = Ff Q ⟨δ, ω, Λ⟩ m := by unfold AX; rw [if_neg h10, hG]; unfold BL; rw [if_neg h16, if_neg h18, if_neg h20, if_neg h22, if_neg h24, if_pos h26]
   rw [hr, ← hld]
   have hr : Ff (Q) ⟨δ, ω, Λ⟩ m = (Q.lose, ⟨δ, ω, Λ⟩, none) := by unfold Ff; (try dsimp only); rw [if_pos (by first | exact .inl h24_94 | exact .inr h103)]
   rw [hr]
   try dsimp only
   refine .outNone Q.ld ?_
   exact .dn Y Y ⟨_, _, Y, Y⟩
  refine .sk (.draw [10] [[0, 1, 2, 3, 4, 5, 6, 7, 8, 9, 10]] mixed kQ (.g0 (.mv Y Y (.mv Y Y (.nf Y Y Y Gh (.kv Y (.ld Y AF) (.kv Y (.fieldAddr Y Cx) (.kv Y (.ld Y AF) (.kv Y (.max2 Y Y) (.nf Y Y Y Gh (.hh Y (.store Y Y Y BV ?c194 (Bk _ _)) ?_)))))))))))
  case c194 => first | decide | (simp; omega) | simp
  rintro v L' rfl
  refine D.ph (.fin (.fwFold (f := f) (g := g) (ha := ha) (hc := hc) (m := Q.heard.length) ((Q).comm m.zx) O (by exact rfl) (by exact rfl) (by exact rfl) (.then_n (.exit (.blk_e (.then_n (.sr (.an Y (.ret ?_)))))))))
  have hr : AX Φ ⟨δ, ω, Λ⟩ m = Ff Q ⟨δ, ω, Λ⟩ m := by unfold AX; rw [if_neg h10, hG]; unfold BL; rw [if_neg h16, if_neg h18, if_neg h20, if_neg h22, if_neg h24, if_pos h26]
  rw [hr, ← hld]
  have hr : Ff (Q) ⟨δ, ω, Λ⟩ m = (Q.comm m.zx, ⟨δ, ω, Λ⟩, none) := by unfold Ff; (try dsimp only); rw [if_neg (by rintro (g1 | g1); exact g1 h24_94; exact h103 g1)]
  rw [hr]
  try dsimp only
  refine .outNone Q.ld ?_
  exact .dn Y Y ⟨_, _, Y, Y⟩
 refine .sk (.exit (.blk_o Y (.then_e (.blk_o Y (.then_e (.blk_o Y (.then_e (.blk_o Y (.then_e (.blk_o Y (.then_e (.blk_o Y (.then_e (.blk_e (.then_n (.sr (.an Y (.ret ?_))))))))))))))))))
 have hr : AX Φ ⟨δ, ω, Λ⟩ m = (Q, ⟨δ, ω, Λ⟩, none) := by unfold AX; rw [if_neg h10, hG]; unfold BL; rw [if_neg h16, if_neg h18, if_neg h20, if_neg h22, if_neg h24, if_neg h26]
 rw [hr, ← hld]
 refine .outNone Q.ld ?_
 exact .dn Y Y ⟨_, _, Y, Y⟩
theorem K2 (v : Value) (n : Nat) (xs : List Int) (hn : n < 4611686018427387904) : Fn prog 46 #[v] [AV 3 1 v n (Aq xs)] fun u L => u = .tuple #[] ∧ L = [AV 3 1 v n (Aq (Bw xs))] :=
 Xu Tryz.sortA 3 v n xs hn
theorem R8 (v : Value) (n : Nat) (xs : List Int) (hn : n < 4611686018427387904) : Fn prog 47 #[v] [AV 3 1 v n (Aq xs)] fun u L => (∃ a c, u = .slice a (Er xs).length c) ∧ L = [AV 3 1 u (Er xs).length (Aq (Er xs))] :=
 R9 Tryz.compactA 3 v n xs hn
theorem MI (f g x : Nat) (Φ : Fw) (δ : Dk) (ω : Wl) (Λ : Lg) (v1 : Value) (l : List Int) (p : HP) (K : Nat) (hF : FwI Φ K) (hK : K + l.length ≤ 1000000000) (hl : ∀ h : Hp, p h → B5 1 h v1 l.length (Aq l)) : Fn prog 16 #[AG f, v1] [G4 f g Φ, BW g x Λ, p] fun v L => ∃ a c, v = .slice a (Tm (Bl Φ ⟨δ, ω, Λ⟩ l).2) c ∧ L = [G4 f g (Bl Φ ⟨δ, ω, Λ⟩ l).1, BW g x Λ, KW v Φ.ld (Bl Φ ⟨δ, ω, Λ⟩ l).2, p] := by
 refine Fn.intro func16 Y Y fun F W => ?_
 have hsil := hF.sil
 refine .fwOpen (f := f) O fun ha hc => ?_
 have hheard := hF.heard
 refine .sr (.an Y (.seq (.sm Y (.nf Y CA (.u (.ld Y AF) (.ui Y Y Y (.nt (.condD Y (fun h9 => ?_) (fun h9 => ?_)))))))))
 ·refine .sr (.an Y (.rt ?_))
  have hr : Bl Φ ⟨δ, ω, Λ⟩ l = (Φ, none) := by unfold Bl; rw [if_pos h9]
  rw [hr]
  refine .fwFold (f := f) (g := g) (ha := ha) (hc := hc) (m := Φ.heard.length) Φ O (by exact rfl) (by exact rfl) (by exact rfl) (.outNone Φ.ld ?_)
  exact .dn Y Y ⟨_, _, Y, Y⟩
 refine .sk (.seq (.sm Y (.nf Y JQ (.u (.ld Y AF) (.q (.add Y Y (by rcases hsil with h | h; exact absurd h h9; omega)) Y (.nf Y JQ (.st Y Y Y BV ?_)))))))
 refine .nt (.sm Y (.nf Y JQ (.u (.ld Y AF) (.ui Y Y Y (.nt (.condD Y (fun h21 => ?_) (fun h21 => ?_)))))))
 ·refine .seq (.fwFold (f := f) (g := g) (ha := ha) (hc := hc) (m := Φ.heard.length) (Φ.hush (Φ.sil + 1)) O (by exact rfl) (by exact rfl) (by exact rfl) (.region (.m Y (.cv func45 [_] (A9 f g ((Φ.hush (Φ.sil + 1)))) ?_))))
  refine .an Y (.rt ?_)
  have hr : Bl Φ ⟨δ, ω, Λ⟩ l = ((Φ.hush (Φ.sil + 1)).lose, none) := by unfold Bl; rw [if_neg h9, if_pos h21, h21]
  rw [hr]
  refine .outNone Φ.ld ?_
  exact .dn Y Y ⟨_, _, Y, Y⟩
 refine .sk (.sm Y (.m Y (.nf Y ED (.u (.ld Y DM) (.m Y (.oq (.append (n := Φ.heard.length) (m := l.length) (ys := Aq l) (p := p) Y Y Y BC (.inl ⟨_, underlying22⟩) Fk Y Y ?hc32 ?hr33 ?hb34 dQ) ?_))))))
 case hc32 => intro y hy; obtain ⟨c, -, rfl⟩ := mem_map.1 hy; rfl
 case hr33 => exact hl
 case hb34 => omega
 rintro v L' ⟨⟨a6, c6, rfl⟩, rfl⟩
 refine .nf Y ED (.st Y Y Y HV ?_)
 refine .nil ?_
 rw [show Aq Φ.heard ++ Aq l = Aq (Φ.heard ++ l) by simp [Aq]]
 refine .then_n (.sm Y (.nf Y ED (.u (.ld Y DM) (.oq (.call func46 Y Y (vs := [_]) Y (K2 _ (Φ.heard.length + l.length) (Φ.heard ++ l) om)) ?_))))
 rintro v L' ⟨rfl, rfl⟩
 refine .nt (.sm Y (.m Y (.nf Y ED (.u (.ld Y DM) (.oq (.call func47 Y Y (vs := [_]) Y (R8 _ (Φ.heard.length + l.length) (Bw (Φ.heard ++ l)) om)) ?_)))))
 rintro v L' ⟨⟨a8, c8, rfl⟩, rfl⟩
 refine .nf Y ED (.st Y Y Y HV ?_)
 refine .nt (.seq (.sm Y (.nf Y CA (.u (.ld Y AF) (.ui Y Y Y (.m Y (.dec (t := 51) Y (fun h9_51 => ?_) (fun h9_51 => ?_))))))))
 ·refine .kDT (t := 50) Y h9_51 (.gr (.m Y (.gr (.u (.nilp Y) (.gr (.fa Y JQ (.gr (.u (.ld Y AF) (.gr (.q (.remE Y Y (by rcases hsil with h | h; exact absurd h h9; omega) (by rcases hsil with h | h; exact absurd h h9; omega)) Y (.gr (.ui Y Y Y (.pT Y Y (.nt (.condD Y (fun h58 => ?_) (fun h58 => ?_))))))))))))))))
  ·refine .seq (.fwFold (f := f) (g := g) (ha := a8) (hc := c8) (m := _) ((Φ.hush (Φ.sil + 1)).hear (Er (Bw (Φ.heard ++ l)))) O (by exact rfl) (by exact rfl) (by exact rfl) (.region (.m Y (.oq (.c func14 [_] (KO f g x ((Φ.hush (Φ.sil + 1)).hear (Er (Bw (Φ.heard ++ l)))) δ ω Λ)) ?_))))
   rintro v L' ⟨av, cv, rfl, rfl⟩
   refine .an Y (.rt ?_)
   have hr : Bl Φ ⟨δ, ω, Λ⟩ l = (((Φ.hush (Φ.sil + 1)).hear (Er (Bw (Φ.heard ++ l)))), some ⟨1, Λ.acc, 0, 0, []⟩) := by unfold Bl; rw [if_neg h9, if_neg h21, if_pos ⟨h9_51, h58⟩]
   rw [hr]
   rw [show E2 ((Φ.hush (Φ.sil + 1)).hear (Er (Bw (Φ.heard ++ l)))) ⟨δ, ω, Λ⟩ = some ⟨1, Λ.acc, 0, 0, []⟩ from if_neg h9]
   exact .dn Y Y ⟨_, _, Y, Y⟩
  refine .sk (.sr (.an Y (.ret ?_)))
  have hr : Bl Φ ⟨δ, ω, Λ⟩ l = (((Φ.hush (Φ.sil + 1)).hear (Er (Bw (Φ.heard ++ l)))), none) := by unfold Bl; rw [if_neg h9, if_neg h21, if_neg (fun g1 => by first | exact h9_51 g1.1 | exact h58 g1.2)]
  rw [hr]
  refine .fwFold (f := f) (g := g) (ha := a8) (hc := c8) (m := _) ((Φ.hush (Φ.sil + 1)).hear (Er (Bw (Φ.heard ++ l)))) O (by exact rfl) (by exact rfl) (by exact rfl) (.outNone Φ.ld ?_)
  exact .dn Y Y ⟨_, _, Y, Y⟩
 refine .kDF (t := 50) Y h9_51 (.gk (.gk (.gk (.gk (.gk (.gk (.pF Y Y (.nt (.condF Y (.sk (.sr (.an Y (.ret ?_)))))))))))))
 have hr : Bl Φ ⟨δ, ω, Λ⟩ l = (((Φ.hush (Φ.sil + 1)).hear (Er (Bw (Φ.heard ++ l)))), none) := by unfold Bl; rw [if_neg h9, if_neg h21, if_neg (fun g1 => by first | exact h9_51 g1.1 | exact h58 g1.2)]
 rw [hr]
 refine .fwFold (f := f) (g := g) (ha := a8) (hc := c8) (m := _) ((Φ.hush (Φ.sil + 1)).hear (Er (Bw (Φ.heard ++ l)))) O (by exact rfl) (by exact rfl) (by exact rfl) (.outNone Φ.ld ?_)
 exact .dn Y Y ⟨_, _, Y, Y⟩
abbrev pd (l : List Bool) (n : Nat) : Bool := l.getD n false
abbrev ox (l : List (List UInt8)) (n : Nat) : List UInt8 := l.getD n []
structure NR (δ : Dk) (ρ : Rk) : Prop where
 ok : δ.Ok
 rok : ρ.Ok
 L : ρ.L = δ.now
 dead : δ.dead = ρ.Gone
 acts : δ.acts = ρ.N
 pend : ∀ n : Nat, pd ρ.Pend n = (BA δ.old (n : Int)).isSome
 old : ∀ n : Nat, n < δ.now.length → ox ρ.Old n = (BA δ.old (n : Int)).getD (ox δ.now n)
 arm : (δ.left = 0 ∧ (ρ.At = 0 ∨ δ.dead = true)) ∨ (0 < δ.left ∧ ρ.At = ρ.N + δ.left ∧ δ.dead = false) ∨ (ρ.At = 0 ∧ 4611686018427387904 < δ.left + ρ.N ∧ δ.dead = false)
theorem NR.new (n : Nat) (hn : n ≤ 32768) : NR (Dk.new n) (Rk.new n) := by
 have hrok : (Rk.new n).Ok := ⟨by simp [Rk.new], by simp [Rk.new], by simp [Rk.new]; omega, by simp [Rk.new, MN], by simp [Rk.new, MN]⟩
 refine ⟨Dk.new_ok (by simpa using hn), hrok, by simp [Rk.new, Dk.new], rfl, rfl, fun m => ?_, fun m hm => ?_, .inl ⟨rfl, .inl rfl⟩⟩
 ·simp only [pd, Rk.new, Dk.new, BA, Option.isSome_none, getD_eq_getElem?_getD, List.getElem?_replicate]
  split <;> rfl
 ·simp [Rk.new, Dk.new, BA]
theorem PL {α : Type} {l : List α} {i j : Nat} {a d : α} (hi : i < l.length) : (l.set i a).getD j d = if j = i then a else l.getD j d := by
 simp only [getD_eq_getElem?_getD, List.getElem?_set]
 by_cases h : i = j
 ·subst h; simp [hi]
 ·rw [if_neg h, if_neg om]
theorem NR.has {δ : Dk} {ρ : Rk} (h : NR δ ρ) (n : Int) : ρ.has n = δ.has n := by simp [Dk.has, Rk.has, h.L]
theorem NR.act {δ : Dk} {ρ : Rk} (h : NR δ ρ) (hd : δ.dead = false) (hN : ρ.N < 4611686018427387904) :
  δ.act.1.dead = ρ.act.Gone ∧ δ.act.2 = (if ρ.act.Gone then 2 else 0) ∧ δ.act.1.acts = ρ.act.N ∧
   ((δ.act.1.left = 0 ∧ (ρ.act.At = 0 ∨ δ.act.1.dead = true)) ∨ (0 < δ.act.1.left ∧ ρ.act.At = ρ.act.N + δ.act.1.left ∧ δ.act.1.dead = false) ∨ (ρ.act.At = 0 ∧ 4611686018427387904 < δ.act.1.left + ρ.act.N ∧ δ.act.1.dead = false)) := by
 have hg : ρ.Gone = false := by rw [← h.dead, hd]
 have ha := h.acts
 have h0 := h.ok.acts0
 have fin : ∀ (e l : Int) (d g : Bool), Go.Proofs.YtjhlofbhpjakgaaGreat.actE δ.left = e → Ii δ.left = l → JS δ.left δ.dead = d → (if ρ.At > 0 ∧ ρ.N + 1 = ρ.At then true else ρ.Gone) = g →
   (d = g ∧ e = (if g then 2 else 0) ∧ ((l = 0 ∧ (ρ.At = 0 ∨ d = true)) ∨ (0 < l ∧ ρ.At = ρ.N + 1 + l ∧ d = false) ∨ (ρ.At = 0 ∧ 4611686018427387904 < l + (ρ.N + 1) ∧ d = false))) →
   δ.act.1.dead = ρ.act.Gone ∧ δ.act.2 = (if ρ.act.Gone then 2 else 0) ∧ δ.act.1.acts = ρ.act.N ∧
   ((δ.act.1.left = 0 ∧ (ρ.act.At = 0 ∨ δ.act.1.dead = true)) ∨ (0 < δ.act.1.left ∧ ρ.act.At = ρ.act.N + δ.act.1.left ∧ δ.act.1.dead = false) ∨ (ρ.act.At = 0 ∧ 4611686018427387904 < δ.act.1.left + ρ.act.N ∧ δ.act.1.dead = false)) := by
  intro e l d g h1 h2 h3 h4 ⟨k1, k2, k3⟩
  simp only [Dk.act, Rk.act, h1, h2, h3, h4, ha]
  exact ⟨k1, k2, trivial, k3⟩
 rcases h.arm with ⟨h1, h2 | h2⟩ | ⟨h1, h2, -⟩ | ⟨h1, h2, -⟩
 ·exact fin 0 0 false false (by simp [Go.Proofs.YtjhlofbhpjakgaaGreat.actE, h1]) (by simp [Ii, h1]) (by simp [JS, h1, hd]) (by simp [h2, hg]) ⟨rfl, rfl, .inl ⟨rfl, .inl h2⟩⟩
 ·rw [hd] at h2; cases h2
 ·by_cases h3 : δ.left - 1 > 0
  ·exact fin 0 (δ.left - 1) false false (by unfold Go.Proofs.YtjhlofbhpjakgaaGreat.actE; rw [if_neg om, if_pos h3]) (by unfold Ii; rw [if_neg om]) (by unfold JS; rw [if_neg om, if_pos h3, hd]) (by rw [if_neg om, hg]) ⟨rfl, rfl, .inr (.inl ⟨by omega, by omega, rfl⟩)⟩
  ·exact fin 2 (δ.left - 1) true true (by unfold Go.Proofs.YtjhlofbhpjakgaaGreat.actE; rw [if_neg om, if_neg h3]) (by unfold Ii; rw [if_neg om]) (by unfold JS; rw [if_neg om, if_neg h3]) (by rw [if_pos ⟨by omega, by omega⟩]) ⟨rfl, rfl, .inl ⟨by omega, .inr rfl⟩⟩
 ·have h3 : δ.left - 1 > 0 := by omega
  exact fin 0 (δ.left - 1) false false (by unfold Go.Proofs.YtjhlofbhpjakgaaGreat.actE; rw [if_neg om, if_pos h3]) (by unfold Ii; rw [if_neg om]) (by unfold JS; rw [if_neg om, if_pos h3, hd]) (by rw [if_neg om, hg]) ⟨rfl, rfl, .inr (.inr ⟨h1, by omega, rfl⟩)⟩
theorem KN {β : Type} {m : List (Int × β)} {k : Int} {v : β} (h : BA m k = none) (x : Int) : BA (MX m k v) x = if x = k then some v else BA m x := by
 rw [Ho h]
 by_cases hx : x = k
 ·subst hx; rw [JH h, if_pos rfl]; simp [BA]
 ·rw [Ia hx, if_neg hx]
theorem NR.write {δ : Dk} {ρ : Rk} (h : NR δ ρ) (hN : ρ.N < 4611686018427387904) (n : Int) (s : List UInt8) : (δ.write n s).2 = (ρ.write n s).2 ∧ NR (δ.write n s).1 (ρ.write n s).1 := by
 unfold Dk.write Rk.write
 rw [← h.dead, h.has]
 by_cases hd : δ.dead = true
 ·rw [if_pos hd, if_pos hd]; exact ⟨rfl, h⟩
 ·rw [if_neg hd, if_neg hd]
  by_cases hb : δ.has n = false ∨ s.length ≠ 64
  ·rw [if_pos hb, if_pos hb]; exact ⟨rfl, h⟩
  ·rw [if_neg hb, if_neg hb]
   have hh : δ.has n = true := by
    cases e : δ.has n with
    | true => rfl
    | false => exact absurd (.inl e) hb
   have hs : s.length = 64 := by
    rcases Nat.decEq s.length 64 with e | e
    ·exact absurd (.inr e) hb
    ·exact e
   obtain ⟨q0, q1, q2⟩ := Oh hh
   have hd' : δ.dead = false := by simpa using hd
   obtain ⟨a1, a2, a3, a4⟩ := h.act hd' hN
   have hop := (h.ok.putOk hh hs).acted
   have hL := h.L
   have hp := h.rok.pend
   refine ⟨a2, hop, ?_, ?_, a1, a3, fun m => ?_, fun m hm => ?_, a4⟩
   ·refine ⟨by simp [h.rok.old, Rk.act], by simp [hp, Rk.act], by simp; exact h.rok.big, fun t ht => ?_, h.rok.olds⟩
    rcases mem_or_eq_of_mem_set ht with ht | rfl
    ·exact h.rok.sec t ht
    ·exact hs
   ·show ρ.L.set n.toNat s = δ.now.set n.toNat s
    rw [hL]
   ·show pd (ρ.Pend.set n.toNat true) m = (BA (δ.put n s).old (m : Int)).isSome
    rw [pd, PL (by rw [hp, hL]; exact q2)]
    simp only [Dk.put]
    rcases e : BA δ.old n with _ | o
    ·simp only [Option.isSome_none, Bool.false_eq_true, if_false]
     rw [KN e]
     by_cases hm : m = n.toNat
     ·rw [if_pos hm, if_pos om]; rfl
     ·rw [if_neg hm, if_neg om]; exact h.pend m
    ·simp only [Option.isSome_some, if_true]
     by_cases hm : m = n.toNat
     ·rw [if_pos hm, show (m : Int) = n by omega, e]; rfl
     ·rw [if_neg hm]; exact h.pend m
   ·have hm' : m < δ.now.length := by simpa [Dk.act, Dk.put] using hm
    have ho := h.old m hm'
    show ox ρ.Old m = (BA (δ.put n s).old (m : Int)).getD (ox (δ.now.set n.toNat s) m)
    rw [ho, ox, ox, PL q2]
    simp only [Dk.put]
    rcases e : BA δ.old n with _ | o
    ·simp only [Option.isSome_none, Bool.false_eq_true, if_false]
     rw [KN e]
     by_cases hmn : m = n.toNat
     ·have : (m : Int) = n := by omega
      rw [if_pos this, this, e, hmn]; rfl
     ·rw [if_neg (by omega : ¬ (m : Int) = n), if_neg hmn]
    ·simp only [Option.isSome_some, if_true]
     by_cases hmn : m = n.toNat
     ·rw [show (m : Int) = n by omega, e]; rfl
     ·rw [if_neg hmn]
theorem NR.sync {δ : Dk} {ρ : Rk} (h : NR δ ρ) (hN : ρ.N < 4611686018427387904) : δ.sync.2 = ρ.sync.2 ∧ NR δ.sync.1 ρ.sync.1 := by
 unfold Dk.sync Rk.sync
 rw [← h.dead]
 by_cases hd : δ.dead = true
 ·rw [if_pos hd, if_pos hd]; exact ⟨rfl, h⟩
 ·rw [if_neg hd, if_neg hd]
  have hd' : δ.dead = false := by simpa using hd
  obtain ⟨a1, a2, a3, a4⟩ := h.act hd' hN
  rw [a2]
  by_cases hg : ρ.act.Gone = true
  ·rw [if_pos hg, if_pos hg, if_neg dQ]
   exact ⟨rfl, h.ok.acted, ⟨h.rok.old, h.rok.pend, h.rok.big, h.rok.sec, h.rok.olds⟩, h.L, a1, a3, h.pend, h.old, a4⟩
  ·rw [if_neg hg, if_neg hg, if_pos rfl]
   refine ⟨rfl, h.ok.acted.cleared, ⟨rfl, by simp [Rk.act], h.rok.big, h.rok.sec, h.rok.sec⟩, h.L, a1, a3, fun m => ?_, fun m hm => ?_, a4⟩
   ·simp only [pd, BA, Option.isSome_none, getD_eq_getElem?_getD, List.getElem?_map]
    cases ρ.L[m]? <;> rfl
   ·show ox ρ.L m = _
    rw [h.L]; rfl
/-! ### Numbers -/
/-! ### A right mark -/
/-! ### Steps -/
/-! ### A log of the document's -/
def W3 (y x : Nat) (ω : Wl) : HP := fun h => ∃ v : Value, CG [Ar y [AG x, v, AA ω.synced, AA ω.area, AA ω.count, AA ω.a, AA ω.b, .bool ω.doubt] 167, Cp v ω.recs] h
section
variable {W : World} {n : Nat} {ds : List Deferred} {E : By} {L R : List HP} {X : Act → World → Prop}
theorem G.rlOpen {y x : Nat} {ω : Wl} (hL : BT (W3 y x ω) L R) (h : ∀ v, G W n ds E (Ar y [AG x, v, AA ω.synced, AA ω.area, AA ω.count, AA ω.a, AA ω.b, .bool ω.doubt] 167 :: Cp v ω.recs :: R) X) : G W n ds E L X :=
 G.focus hL (G.open (q := fun v : Value => [Ar y [AG x, v, AA ω.synced, AA ω.area, AA ω.count, AA ω.a, AA ω.b, .bool ω.doubt] 167, Cp v ω.recs]) (φ := fun _ => True) (fun _ ⟨v, hv⟩ => ⟨v, trivial, hv⟩) fun v _ => h v)
theorem G.rlFold {y x m : Nat} {ω : Wl} {v : Value} {l ys : List Value} (hL : Am [Ar y l 167, AV 9 1 v m ys] L R) (h0 : l = [AG x, v, AA ω.synced, AA ω.area, AA ω.count, AA ω.a, AA ω.b, .bool ω.doubt]) (h1 : m = ω.recs.length) (h2 : ys = Bo ω.recs)
  (h : G W n ds E (W3 y x ω :: R) X) : G W n ds E L X := by
 subst h0; subst h1; subst h2
 exact G.fold hL (fun _ hp => ⟨v, hp⟩) h
theorem G.rl {y x m : Nat} {ω : Wl} {v : Value} {l ys : List Value} (h : G W n ds E (W3 y x ω :: R) X) (hL : Am [Ar y l 167, AV 9 1 v m ys] L R := by repeat' constructor) (h0 : l = [AG x, v, AA ω.synced, AA ω.area, AA ω.count, AA ω.a, AA ω.b, .bool ω.doubt] := by exact rfl) (h1 : m = ω.recs.length := by first | rfl | simp) (h2 : ys = Bo ω.recs := by first | rfl | simp [Bo]) : G W n ds E L X := G.rlFold hL h0 h1 h2 h
end
/-! ### Two disks that are the same -/
/- not in this seat -/
def QD (n : Int) : Nat → Int
 | 0 => n
 | j + 1 => QD n j / 256
theorem PC (n : Int) (j : Nat) : QD n j = n / 256 ^ j := by
 induction j with
 | zero => rw [QD, Int.pow_zero, Int.ediv_one]
 | succ j ih => rw [QD, ih, Int.ediv_ediv_of_nonneg (Int.le_of_lt (Int.pow_pos dQ)), Int.pow_succ]
theorem Xi {n : Int} (h : 0 ≤ n ∧ n ≤ 9223372036854775807) (j : Nat) : 0 ≤ QD n j ∧ QD n j ≤ 9223372036854775807 := by
 rw [PC]
 have hp : (0 : Int) < 256 ^ j := Int.pow_pos dQ
 exact ⟨Int.ediv_nonneg h.1 (Int.le_of_lt hp), Int.le_trans (Int.ediv_le_self _ h.1) h.2⟩
def Z6 (k : Int) : Nat → Int
 | 0 => k - 1
 | j + 1 => Z6 k j - 1
theorem Yy (k : Int) (j : Nat) : Z6 k j = k - 1 - j := by
 induction j with
 | zero => rw [Z6]; omega
 | succ j ih => rw [Z6, ih]; omega
theorem ZG (x : Int) : Value.int .u8 (IntKind.u8.wrap (x % 256)) = Bx (Hd x) := by
 rw [V2]; congr 1; show x % 256 % 256 = x % 256; omega
theorem De (n : Int) (k : Nat) (h0 : 0 ≤ n ∧ n ≤ 9223372036854775807) (hk : k ≤ 8) : Fn prog 151 #[AA n, AA k] [] fun v L => v = AU (Br n k) ∧ L = [] := by
 refine Fn.intro func151 Y Y fun F W => ?_
 refine .sr (.an Y (.sm Y (.oq (.make Y Y A8 Fo Y ⟨by simp, by simp; rfl⟩ ?c3) ?_)))
 case c3 => omega
 rintro v L' ⟨bz, rfl, rfl⟩
 refine .a Y (.nil ?_)
 simp only [Int.toNat_natCast, Nat.mul_one]
 refine .ptCast (b := bz) (l' := GT (List.replicate k zB) 0 n k 0) O (Sm _ _ _ _).symm (.then_n (.seq (.sm Y (.q (.sub Y Y om) Y (.an Y (.block (.loopK (ι := Nat) (fun q E => (6, AA (Z6 k q)) :: (0, AA (QD n q)) :: E) (fun q => [Ar bz (GT (List.replicate k zB) 0 n k q) 5]) (fun q => q ≤ k) (fun q => k - q) (0) (ts := [4, 5]) O (Nat.zero_le _) O O ?_)))))))
 rintro j hj
 have hdn := Yy (k : Int) j
 refine .seq (.sm Y (.ui Y Y Y (.nt (.condD Y (fun h12 => ?_) (fun h12 => ?_)))))
 ·have hj2 : j < k := by omega
  have hq := Xi h0 j
  have hfl := Mq (l := List.replicate k zB) (off := 0) (n := n) (k := k) (i := j) om (by simp)
  rw [length_replicate] at hfl
  refine .sk (.seq (.block (.sm Y (.m Y (.m Y (.q (.remE Y Y hq.1 dQ) Y (.q (.as (v' := Bx (Hd (n / 256 ^ j))) (by rw [← PC]; exact ZG _) (.conv Y underlying3 underlying5)) Y (.q (.indexAddr Y Y A8 om) Y (.oq (.store Y Y Y AAS ?c16 (Bk _ _)) ?_)))))))))
  case c16 => omega
  rintro v L' rfl
  refine .nt (.region (.m Y (.q (.to (v' := AA (QD n (j + 1))) (.quoE Y Y hq dQ) Y) Y (.a Y (.nil (.blk_n (.then_n (.region (.m Y (.q (.sub Y Y om) Y (.an Y ?_)))))))))))
  rw [show 0 + (Z6 (k : Int) j).toNat * 1 = 0 + (k - 1 - j) by omega, MD hj2 (by simp)]
  exact .rk (j + 1) om om O
 obtain rfl : j = k := by omega
 refine .ptCast (b := bz) (l' := A4 (Br n j)) O (by rw [SF]; exact SD (by simp [BQ, AN])) (.xe (.sm Y (.q (.bytesPt (cs := Br n j) Y underlying133 underlying5 underlying9 O (by rw [drop_zero]; exact take_of_length_le (by rw [BQ, AN]; omega)) (by rw [BQ, AN]; omega) om) Y (.an Y (.ret ?_)))))
 exact .vv
theorem Ip (s : Bs) (hs : s.length ≤ 2147483648) : Fn prog 112 #[AU s] [] fun v L => v = AU (BI s) ∧ L = [] := by
 refine Fn.intro func112 Y Y fun F W => ?_
 have hsum := Kz (Ci s)
 have hh : (Ci s).length = s.length + 2 := by simp [Ci, AN]; omega
 have hb2 := AN 2 (s.length : Int)
 have hb4 := AN 4 (F8 (Ci s))
 have hap : (Br (s.length : Int) 2 ++ s).length = s.length + 2 := hh
 refine .sr (.an Y (.sm Y (.q (.strlen Y underlying9 Y) Y (.cv func151 [_, _] (De s.length 2 om dQ) ?_))))
 refine .m Y (.q (.concat Y Y om) Y (.an Y (.sm Y (.m Y (.cv func152 [_] (TL (Ci s) om) ?_)))))
 refine .q (.as (v' := AA (F8 (Ci s))) (by rw [I5 om]) (.conv Y underlying179 underlying3)) Y (.cv func151 [_, _] (De (F8 (Ci s)) 4 om dQ) ?_)
 refine .q (.concat Y Y om) Y (.an Y (.ret ?_))
 exact .vv
/- not in this seat -/
theorem L3 (va : Value) (l : List Bs) (p : HP) (hp : ∀ h : Hp, p h → B5 1 h va l.length (Bo l)) (hll : (AB l).length ≤ 4000000000000) : Fn prog 108 #[va] [p] fun v L => v = AA (AB l).length ∧ L = [p] := by
 refine Fn.intro func108 Y Y fun F W => ?_
 have hlm := BU l
 refine .rdAny (p := p) hp O fun aa ca e _ => ?_
 subst e
 refine .sr (.an Y (.sr (.an Y (.seq (.sr (.an Y (.block (.loopK (ι := Nat) (fun q E => (4, AA q) :: (3, AA (AB (l.take q)).length) :: E) (fun q => []) (fun q => q ≤ l.length) (fun q => l.length - q) (0) (ts := [0, 2]) O (Nat.zero_le _) O O ?_))))))))
 rintro i hi
 refine .seq (.sm Y (.m Y (.q (.slen Y underlying65 Y) Y (.ui Y Y Y (.nt (.condD Y (fun h8 => ?_) (fun h8 => ?_)))))))
 ·have hi2 : i < l.length := by omega
  refine .rdShape (p := p) hp O om fun ba oa e => ?_
  subst e
  have hts := CM l (i + 1)
  have hsu : (AB (l.take (i + 1))).length = (AB (l.take i)).length + l[i].length + 6 := by rw [Fc hi2, length_append, B9]; omega
  refine .sk (.seq (.block (.region (.m Y (.m Y (.m Y (.q (.indexAddr Y Y Bu om) Y (.q (.loadRd (sz := 1) (j := i) (p := p) (v := AU l[i]) Y G9 O hp (by simp) (by simp [hi2])) Y (.q (.strlen Y underlying9 Y) Y (.q (.add Y Y om) Y (.q (.as (v' := AA (AB (l.take (i + 1))).length) (by rw [hsu]; exact congrArg (Value.int .i64) om) (.add Y Y om)) Y (.a Y (.nil (.blk_n (.then_n (.region (.m Y (.q (.add Y Y om) Y (.an Y ?_)))))))))))))))))))
  exact .rk (i + 1) om om O
 refine .xe (.sm Y (.an Y (.ret ?_)))
 exact .dn Y Y ⟨by have hi3 : i = l.length := om; rw [hi3, take_length], rfl⟩
/- not in this seat -/
/- not in this seat -/
end Go.Proofs.YtjhlofbhpjakgaaGreat
