/- Own work, some of it printed by program, texts that were built one by one: a part of the proof of leadFollowed.proved. -/
import Derived.Test.YtjhlofbhpjakgaaGreatCLFolP3
import Derived.Test.YtjhlofbhpjakgaaGreatCLFolP1
import Derived.Test.YtjhlofbhpjakgaaGreatCLFolP2
set_option maxRecDepth 100000
namespace Go.Proofs.YtjhlofbhpjakgaaGreat
open Go List Go.Proofs.Tryz 
def I2 (x : Nat) (δ : Dk) : HP := fun h => ∃ ρ : Rk, (NR δ ρ ∧ 0 ≤ ρ.N) ∧ CG [SL x ρ] h
section
variable {P : Program} {W : World} {n : Nat} {ds : List Deferred} {E : By} {L R : List HP} {X : Act → World → Prop}
theorem G.dsOpen {x : Nat} {δ : Dk} (hL : BT (I2 x δ) L R) (h : ∀ ρ, NR δ ρ → 0 ≤ ρ.N → G W n ds E (SL x ρ :: R) X) : G W n ds E L X :=
 G.focus hL (G.open (q := fun ρ : Rk => [SL x ρ]) (φ := fun ρ => NR δ ρ ∧ 0 ≤ ρ.N) (fun _ hp => hp) fun ρ hr => h ρ hr.1 hr.2)
theorem G.dsFold {x : Nat} {δ : Dk} {ρ : Rk} (hL : Am [SL x ρ] L R) (hr : NR δ ρ) (hn : 0 ≤ ρ.N) (h : G W n ds E (I2 x δ :: R) X) : G W n ds E L X :=
 G.fold hL (fun _ hp => ⟨ρ, ⟨hr, hn⟩, hp⟩) h
theorem Fn.dsUp {f : FuncId} {args : Array Value} {x : Nat} {δ δ' : Dk} {u : Value} (h : ∀ ρ, NR δ ρ → 0 ≤ ρ.N → Fn P f args [SL x ρ] fun v L => ∃ ρ', (NR δ' ρ' ∧ 0 ≤ ρ'.N) ∧ v = u ∧ L = [SL x ρ']) :
  Fn P f args [I2 x δ] fun v L => v = u ∧ L = [I2 x δ'] := by
 intro F w hs
 obtain ⟨h1, h2, hd, a1, a2, ⟨ρ, ⟨hr, hn⟩, hp⟩, hF⟩ := hs
 have hs' : St ([SL x ρ] ++ F) w := FQ ⟨h1, h2, hd, a1, a2, hp, hF⟩
 refine (h ρ hr hn F w hs').mono ?_
 rintro e w' ⟨v, L, ⟨ρ', h3, rfl, rfl⟩, he, hs2, hk⟩
 refine ⟨_, _, ⟨rfl, rfl⟩, he, BS (fun hh hq => ⟨ρ', h3, hh, fun _ => none, fun _ => .inr rfl, fun _ _ e => e, fun _ _ e => (by cases e), hq, trivial⟩) hs2, hk⟩
end
theorem RD (ρ : Rk) (n : Int) (s : Bs) (h : 0 ≤ ρ.N) : 0 ≤ (ρ.write n s).1.N := by
 unfold Rk.write
 split
 ·exact h
 ·split
  ·exact h
  ·show 0 ≤ ρ.N + 1; omega
theorem T6 (ρ : Rk) (h : 0 ≤ ρ.N) : 0 ≤ ρ.sync.1.N := by
 unfold Rk.sync
 split
 ·exact h
 ·split
  ·show 0 ≤ ρ.N + 1; omega
  ·show 0 ≤ ρ.N + 1; omega
theorem FF (x : Nat) (δ : Dk) (n : Int) (s : Bs) (hA : δ.acts < 4611686018427387904) : Fn prog 105 #[AG x, AA n, AU s] [I2 x δ] fun v L => v = AA (δ.write n s).2 ∧ L = [I2 x (δ.write n s).1] :=
 Fn.dsUp fun ρ hr hn => (PS x ρ n s ⟨hn, by rw [← hr.acts]; exact hA⟩).mono fun v L ⟨h1, h2⟩ => by
  obtain ⟨q1, q2⟩ := hr.write (by rw [← hr.acts]; exact hA) n s
  exact ⟨_, ⟨q2, RD ρ n s hn⟩, by rw [h1, q1], h2⟩
theorem HU (x : Nat) (δ : Dk) (hA : δ.acts < 4611686018427387904) : Fn prog 107 #[AG x] [I2 x δ] fun v L => v = AA δ.sync.2 ∧ L = [I2 x δ.sync.1] :=
 Fn.dsUp fun ρ hr hn => (Ry x ρ ⟨hn, by rw [← hr.acts]; exact hA⟩).mono fun v L ⟨h1, h2⟩ => by
  obtain ⟨q1, q2⟩ := hr.sync (by rw [← hr.acts]; exact hA)
  exact ⟨_, ⟨q2, T6 ρ hn⟩, by rw [h1, q1], h2⟩
abbrev lc (y x : Nat) (vr : Value) (sy ar ct a b : Int) (db : Bool) : HP := Ar y [AG x, vr, AA sy, AA ar, AA ct, AA a, AA b, .bool db] 167
theorem T2 (all : Bs) (i : Nat) (h : i * 64 < all.length) : ((all.take (min ((i + 1) * 64) all.length)).drop (i * 64)) ++ List.replicate (64 - ((all.take (min ((i + 1) * 64) all.length)).drop (i * 64)).length) 0 = Bq all i := by
 unfold Bq
 have e : (all.take (min ((i + 1) * 64) all.length)).drop (i * 64) = (all.drop (i * 64)).take 64 := by
  rw [drop_take]
  rcases Nat.le_total ((i + 1) * 64) all.length with g | g
  ·rw [Nat.min_eq_left g, show (i + 1) * 64 - i * 64 = 64 by omega]
  ·rw [Nat.min_eq_right g, take_of_length_le (by rw [length_drop]; exact Nat.le_refl _), take_of_length_le (by rw [length_drop]; omega)]
 rw [e]
 try rfl
theorem T7 (va : Value) (l : List Bs) (p : HP) (hp : ∀ h : Hp, p h → B5 1 h va l.length (Bo l)) (hll : (AB l).length ≤ 2100000000) : Fn prog 111 #[va] [p] fun v L => v = AU (AB l) ∧ L = [p] := by
 refine Fn.intro func111 Y Y fun F W => ?_
 have hlm := BU l
 refine .rdAny (p := p) hp O fun aa ca e _ => ?_
 subst e
 refine .sr (.an Y (.sr (.an Y (.seq (.sr (.an Y (.block (.loopK (ι := Nat) (fun q E => (4, AA q) :: (3, AU (AB (l.take q))) :: E) (fun q => []) (fun q => q ≤ l.length) (fun q => l.length - q) (0) (ts := [0, 2]) O (Nat.zero_le _) O O ?_))))))))
 rintro i hi
 refine .seq (.sm Y (.m Y (.q (.slen Y underlying65 Y) Y (.ui Y Y Y (.nt (.condD Y (fun h8 => ?_) (fun h8 => ?_)))))))
 ·have hi2 : i < l.length := by omega
  refine .rdShape (p := p) hp O om fun ba oa e => ?_
  subst e
  have hts := CM l (i + 1)
  have hsu := Fc hi2
  have hsl : (AB (l.take (i + 1))).length = (AB (l.take i)).length + l[i].length + 6 := by rw [hsu, length_append, B9]; omega
  refine .sk (.seq (.block (.region (.m Y (.m Y (.m Y (.q (.indexAddr Y Y Bu om) Y (.q (.loadRd (sz := 1) (j := i) (p := p) (v := AU l[i]) Y G9 O hp (by simp) (by simp [hi2])) Y (.cv func112 [_] (Ip l[i] om) ?_)))))))))
  refine .q (.as (v' := AU (AB (l.take (i + 1)))) (by rw [hsu]) (.concat Y Y (by rw [B9]; omega))) Y (.a Y (.nil (.blk_n (.then_n (.region (.m Y (.q (.add Y Y om) Y (.an Y ?_))))))))
  exact .rk (i + 1) om om O
 refine .xe (.sm Y (.an Y (.ret ?_)))
 exact .dn Y Y ⟨by have hi3 : i = l.length := om; rw [hi3, take_length], rfl⟩
theorem KC (c ar a b : Int) (va : Value) (l : List Bs) (p : HP) (hp : ∀ h : Hp, p h → B5 1 h va l.length (Bo l)) (hll : (AB l).length ≤ 2100000000) (hc : 0 ≤ c ∧ c ≤ 4294967296) (har : 0 ≤ ar ∧ ar ≤ 1) (ha : 0 ≤ a ∧ a ≤ 9223372036854775807) (hb : 0 ≤ b ∧ b ≤ 9223372036854775807) : Fn prog 106 #[AA c, AA ar, va, AA a, AA b] [p] fun v L => v = AU (⟨c, ar, (AB l).length, l.length, a, b⟩ : Mk).sec ∧ L = [p] := by
 refine Fn.intro func106 Y Y fun F W => ?_
 have hlm := BU l
 have e4 := AN 4
 have e1 := AN 1
 have e8 := AN 8
 refine .rdAny (p := p) hp O fun aa ca e _ => ?_
 subst e
 refine .sr (.an Y (.sm Y (.cv func151 [_, _] (De c 4 om dQ) ?_)))
 refine .q (.concat Y Y (by simp only [length_append, AN, length_cons, length_nil]; omega)) Y (.m Y (.cv func151 [_, _] (De ar 1 om dQ) ?_))
 refine .q (.concat Y Y (by simp only [length_append, AN, length_cons, length_nil]; omega)) Y (.m Y (.oq (.call func108 Y Y (vs := [_]) Y (L3 _ l p hp om)) ?_))
 rintro v L' ⟨rfl, rfl⟩
 refine .cv func151 [_, _] (De ((AB l).length : Nat) 4 om dQ) ?_
 refine .q (.concat Y Y (by simp only [length_append, AN, length_cons, length_nil]; omega)) Y (.m Y (.q (.slen Y underlying65 Y) Y (.cv func151 [_, _] (De (l.length : Nat) 4 om dQ) ?_)))
 refine .q (.concat Y Y (by simp only [length_append, AN, length_cons, length_nil]; omega)) Y (.m Y (.cv func151 [_, _] (De a 8 om dQ) ?_))
 refine .q (.concat Y Y (by simp only [length_append, AN, length_cons, length_nil]; omega)) Y (.m Y (.cv func151 [_, _] (De b 8 om dQ) ?_))
 refine .q (.concat Y Y (by simp only [length_append, AN, length_cons, length_nil]; omega)) Y (.an Y (.seq (.draw [1] [[0, 4, 5, 1, 2, 3], [6, 7]] mixed kQ (.g0 (.k Y (.move Y) (.k Y (.move Y) (.m Y kQ (.c func151 [_, _] (De c 4 om dQ)) O ?_)))))))
 refine D.hh Y (.make Y Y A8 Fo Y ⟨by simp, by simp; rfl⟩ ?c32) ?_
 case c32 => omega
 rintro v L' ⟨bz, rfl, rfl⟩
 refine D.kv Y (.bytesPt (cs := List.replicate 29 0) Y underlying133 underlying5 underlying9 O (by first | (simp [map_replicate]; done) | (simp [map_replicate]; rfl)) (by simp) dQ) (.kv Y (.concat Y Y (by simp only [length_append, AN, length_cons, length_nil, length_replicate]; omega)) (.ph (.g0 (.kv Y (.concat Y Y (by simp only [length_append, AN, length_cons, length_nil, length_replicate]; omega)) (.kv Y (.assign Y) (.pf (.ret ?_)))))))
 exact .vv
theorem Gj (y x : Nat) (vr : Value) (sy ar ct a b : Int) (db : Bool) : Fn prog 113 #[AG y] [lc y x vr sy ar ct a b db] fun v L => v = AA 2 ∧ L = [lc y x vr sy ar ct a b true] := by
 refine Fn.intro func113 Y Y fun F W => ?_
 refine .sr (.an Y (.sm Y (.nf Y Lx (.st Y Y Y Og ?_))))
 refine .nt (.sr (.an Y (.ret ?_)))
 exact .vv
theorem KA (x : Nat) (δ : Dk) (hn : 2 ≤ δ.now.length ∧ δ.now.length ≤ 32768) : Fn prog 109 #[AG x] [I2 x δ] fun v L => v = AA (Ag δ) ∧ L = [I2 x δ] := by
 refine Fn.intro func109 Y Y fun F W => ?_
 refine .dsOpen O fun ρ hr hN => (.rkOpen O fun vL vO vP hok => (.slAny (v := vL) O fun aL cL e _ => ?_))
 subst e
 have hL := hr.L
 have hLl : ρ.L.length = δ.now.length := by rw [hL]
 refine .sr (.an Y (.sm Y (.nf Y Fe (.u (.ld Y Ch) (.q (.slen Y underlying65 Y) Y (.q (.sub Y Y om) Y (.q (.quoE Y Y om dQ) Y (.an Y (.ret (.rkFold (ρ := ρ) O Y ⟨Y, Y⟩ ⟨Y, Y⟩ ⟨Y, Y⟩ hok (.dsFold (δ := δ) O hr hN ?_)))))))))))
 exact .dn Y Y ⟨by unfold Ag; rw [← hLl], rfl⟩
theorem Qt {f : Nat} {δ : Dk} {area : Int} {all : Bs} {i : Nat} (h : i * 64 < all.length) : GD (f + 1) δ area all i = if (δ.write (2 + area * Ag δ + i) (Bq all i)).2 ≠ 0 then ((δ.write (2 + area * Ag δ + i) (Bq all i)).1, 2) else GD f (δ.write (2 + area * Ag δ + i) (Bq all i)).1 area all (i + 1) := by
 show (if i * 64 < all.length then _ else _) = _
 rw [if_pos h]
theorem Vy {area h : Int} (ha : 0 ≤ area ∧ area ≤ 1) (hh : 0 ≤ h ∧ h ≤ 16383) : 0 ≤ area * h ∧ area * h ≤ 16383 := by
 rcases (show area = 0 ∨ area = 1 by omega) with rfl | rfl
 ·omega
 ·omega
theorem Qu (x : Nat) (area : Int) (s : Bs) (frm : Nat) (δ : Dk) (hn0 : 2 ≤ δ.now.length ∧ δ.now.length ≤ 32768) (har : 0 ≤ area ∧ area ≤ 1) (hs : s.length ≤ 4000000) (hf : frm ≤ 4000000) (hA : δ.acts + 9000000 < 4611686018427387904) : Fn prog 110 #[AG x, AA area, AU s, AA frm] [I2 x δ] fun v L => ∃ e, (e = 0 ↔ (Ca δ area s frm).2 = 0) ∧ v = AA e ∧ L = [I2 x (Ca δ area s frm).1] := by
 refine Fn.intro func110 Y Y fun F W => ?_
 refine .sr (.an Y (.seq (.sm Y (.q (.to (v' := AA ((frm / 64 : Nat) : Int)) (.quoE Y Y om dQ) (by rfl)) Y (.an Y (.block (.loopK (ι := Nat × Nat × Dk) (fun q E => (9, AA q.1) :: E) (fun q => [I2 x q.2.2]) (fun q => GD q.2.1 q.2.2 area s q.1 = Ca δ area s frm ∧ s.length + 1 ≤ q.2.1 + q.1 ∧ q.1 ≤ 4000001 + frm ∧ q.2.2.now.length = δ.now.length ∧ q.2.2.acts ≤ δ.acts + q.1) (fun q => s.length - q.1) (frm / 64, s.length + 1, δ) (ts := [0, 1, 2]) O (⟨Y, by dsimp only; omega, by dsimp only; omega, rfl, by dsimp only; omega⟩) O O ?_)))))))
 rintro ⟨i, f, σ⟩ ⟨hl, hfu, hib, hnl, hac⟩
 dsimp only
 dsimp only at hl hfu hib hnl hac
 refine .seq (.sm Y (.q (.as (v' := AA ((i * 64 : Nat) : Int)) (by first | rfl | (congr 1; omega)) (.mul Y Y om)) Y (.m Y (.q (.strlen Y underlying9 Y) Y (.ui Y Y Y (.nt (.condD Y (fun h18 => ?_) (fun h18 => ?_))))))))
 ·obtain ⟨f', rfl⟩ : ∃ f', f = f' + 1 := ⟨f - 1, by omega⟩
  have hn : 2 ≤ σ.now.length ∧ σ.now.length ≤ 32768 := by omega
  have hhl := CP hn
  have ham := Vy har hhl
  refine .sk (.seq (.block (.sm Y (.m Y (.q (.as (v' := AA ((i * 64 : Nat) : Int)) (by first | rfl | (congr 1; omega)) (.mul Y Y om)) Y (.m Y (.q (.add Y Y om) Y (.q (.mul Y Y om) Y (.m Y (.q (.strlen Y underlying9 Y) Y (.q (.as (v' := AA ((min ((i + 1) * 64) s.length : Nat) : Int)) (by first | rfl | (congr 1; omega)) (.min2 Y Y)) Y (.q (.to (v' := AU ((s.take (min ((i + 1) * 64) s.length)).drop (i * 64))) (.strMid Y Y Y underlying9 om) (by rfl)) Y (.an Y (.seq ?_))))))))))))))
  have hlay := T2 s i om
  obtain ⟨t, ht⟩ : ∃ t, (s.take (min ((i + 1) * 64) s.length)).drop (i * 64) = t := ⟨_, rfl⟩
  rw [ht] at hlay ⊢
  have htl : t.length ≤ 64 := by rw [← ht, length_drop, length_take]; omega
  refine .region (.m Y (.m Y (.q (.strlen Y underlying9 Y) Y (.q (.as (v' := AA ((64 - t.length : Nat) : Int)) (by first | rfl | (congr 1; omega)) (.sub Y Y om)) Y (.oq (.make Y Y A8 Fo Y ⟨by simp, by simp; rfl⟩ ?c21) ?_)))))
  case c21 => omega
  rintro v L' ⟨bz, rfl, rfl⟩
  refine .q (.bytesPt (cs := List.replicate (64 - t.length) 0) Y underlying133 underlying5 underlying9 O (by first | (simp [map_replicate]; done) | (simp [map_replicate]; rfl)) (by simp) om) Y (.q (.as (v' := AU (Bq s i)) (by exact congrArg AU hlay) (.concat Y Y (by rw [length_replicate]; omega))) Y (.an Y (.sm Y (.m Y (.m Y (.cv func109 [_] (KA x σ hn) ?_))))))
  refine .q (.mul Y Y om) Y (.q (.add Y Y om) Y (.m Y (.q (.add Y Y om) Y (.m Y (.cv func105 [_, _, _] (FF x σ (2 + area * Ag σ + i) (Bq s i) om) ?_)))))
  refine .an Y (.sm Y (.ui Y Y Y (.nt (.condN Y (fun h49 => ?_) (fun h49 => ?_)))))
  ·refine .sm Y (.an Y (.ret (.blk_r (.then_r (.then_r (.blk_r (.then_r ?_)))))))
   exact .dn Y Y ⟨_, by rw [← hl, Qt om, if_pos h49]; exact ⟨fun g => absurd g h49, fun g => absurd g (by show ¬ (2 : Int) = 0; decide)⟩, rfl, by rw [← hl, Qt om, if_pos h49]⟩
  refine .skip (.blk_n (.then_n (.region (.m Y (.q (.add Y Y om) Y (.an Y ?_))))))
  have hwk := Bi σ (2 + area * Ag σ + i) (Bq s i)
  exact .rk ((i + 1, f', (σ.write (2 + area * Ag σ + i) (Bq s i)).1)) (⟨by dsimp only; rw [← hl, Qt om, if_neg (by simpa using h49)], by dsimp only; omega, by dsimp only; omega, by dsimp only; omega, by dsimp only; omega⟩) (by dsimp only; omega) O
 refine .xe (.sr (.an Y (.ret ?_)))
 have hend := PA (f := f) (δ := σ) (area := area) (all := s) (i := i) om
 rw [hl] at hend
 exact .dn Y Y ⟨0, by rw [hend], rfl, by rw [hend]⟩
theorem RJ (y x : Nat) (vr : Value) (sy ar ct a b : Int) (db : Bool) (area a2 b2 : Int) (va : Value) (l : List Bs) (δ : Dk) (p : HP) (hp : ∀ h : Hp, p h → B5 1 h va l.length (Bo l)) (hll : (AB l).length ≤ 2100000000) (hc : 0 ≤ ct ∧ ct < 4294967295) (har : 0 ≤ area ∧ area ≤ 1) (ha : 0 ≤ a2 ∧ a2 ≤ 9223372036854775807) (hb : 0 ≤ b2 ∧ b2 ≤ 9223372036854775807) (hA : δ.acts < 4611686018427387904) : Fn prog 155 #[AG y, AA area, va, AA a2, AA b2] [lc y x vr sy ar ct a b db, I2 x δ, p] fun v L => v = AA (δ.write ((⟨ct + 1, area, (AB l).length, l.length, a2, b2⟩ : Mk).count % 2) (⟨ct + 1, area, (AB l).length, l.length, a2, b2⟩ : Mk).sec).2 ∧ L = [lc y x vr sy ar ct a b db, I2 x (δ.write ((⟨ct + 1, area, (AB l).length, l.length, a2, b2⟩ : Mk).count % 2) (⟨ct + 1, area, (AB l).length, l.length, a2, b2⟩ : Mk).sec).1, p] := by
 refine Fn.intro func155 Y Y fun F W => ?_
 refine .sr (.an Y (.sm Y (.nf Y JA (.u (.ld Y AF) (.q (.add Y Y om) Y (.an Y (.seq (.draw [12] [[0, 1, 2, 3, 4, 5, 6, 7, 8, 9, 10, 11, 12], [13]] mixed kQ (.go [lc y x vr sy ar ct a b db, p] O (.mv Y Y (.nf Y Y Y HO (.kv Y (.ld Y Qh) (.mv Y Y (.kv Y (.remE Y Y om dQ) (.mv Y Y (.mv Y Y (.mv Y Y (.mv Y Y (.mv Y Y (.m Y kQ (.c func106 [_, _, _, _, _] (KC (ct + 1) area a2 b2 va l p hp hll om har ha hb)) O ?_))))))))))))))))))))
 refine D.hh Y (.c func105 [_, _, _] (FF x δ ((ct + 1) % 2) (⟨ct + 1, area, (AB l).length, l.length, a2, b2⟩ : Mk).sec hA)) ?_
 rintro v L' ⟨rfl, rfl⟩
 refine D.ph (.g0 (.kv Y (.assign Y) (.pf (.ret ?_))))
 exact .vv
theorem X4 {δ : Dk} {ω : Wl} {area : Int} {l : List Bs} (h : ¬ δ.sync.2 = 0) : Ax δ ω area l = (δ.sync.1, ω, 2) := by unfold Ax; rw [if_pos h]
theorem W5 {δ : Dk} {ω : Wl} {area : Int} {l : List Bs} (h : δ.sync.2 = 0) (h2 : ¬ (δ.sync.1.write ((ω.mark area l ω.a ω.b).count % 2) (ω.mark area l ω.a ω.b).sec).2 = 0) : Ax δ ω area l = ((δ.sync.1.write ((ω.mark area l ω.a ω.b).count % 2) (ω.mark area l ω.a ω.b).sec).1, ω, 2) := by
 have e : BB δ.sync.1 (ω.mark area l ω.a ω.b) = ((δ.sync.1.write ((ω.mark area l ω.a ω.b).count % 2) (ω.mark area l ω.a ω.b).sec).1, 2) := by unfold BB; rw [if_pos h2]
 unfold Ax; rw [if_neg (fun g => g h), e, if_pos (by show ¬ (2 : Int) = 0; decide)]
theorem Xz {δ : Dk} {ω : Wl} {area : Int} {l : List Bs} (h : δ.sync.2 = 0) (h2 : (δ.sync.1.write ((ω.mark area l ω.a ω.b).count % 2) (ω.mark area l ω.a ω.b).sec).2 = 0) (h3 : ¬ (δ.sync.1.write ((ω.mark area l ω.a ω.b).count % 2) (ω.mark area l ω.a ω.b).sec).1.sync.2 = 0) : Ax δ ω area l = ((δ.sync.1.write ((ω.mark area l ω.a ω.b).count % 2) (ω.mark area l ω.a ω.b).sec).1.sync.1, ω, 2) := by
 have e : BB δ.sync.1 (ω.mark area l ω.a ω.b) = ((δ.sync.1.write ((ω.mark area l ω.a ω.b).count % 2) (ω.mark area l ω.a ω.b).sec).1.sync.1, 2) := by unfold BB; rw [if_neg (fun g => g h2), if_pos h3]
 unfold Ax; rw [if_neg (fun g => g h), e, if_pos (by show ¬ (2 : Int) = 0; decide)]
theorem XK {δ : Dk} {ω : Wl} {area : Int} {l : List Bs} (h : δ.sync.2 = 0) (h2 : (δ.sync.1.write ((ω.mark area l ω.a ω.b).count % 2) (ω.mark area l ω.a ω.b).sec).2 = 0) (h3 : (δ.sync.1.write ((ω.mark area l ω.a ω.b).count % 2) (ω.mark area l ω.a ω.b).sec).1.sync.2 = 0) : Ax δ ω area l = ((δ.sync.1.write ((ω.mark area l ω.a ω.b).count % 2) (ω.mark area l ω.a ω.b).sec).1.sync.1, { ω with recs := l, synced := l.length, area := area, count := ω.count + 1 }, 0) := by
 have e : BB δ.sync.1 (ω.mark area l ω.a ω.b) = ((δ.sync.1.write ((ω.mark area l ω.a ω.b).count % 2) (ω.mark area l ω.a ω.b).sec).1.sync.1, 0) := by unfold BB; rw [if_neg (fun g => g h2), if_neg (fun g => g h3)]
 unfold Ax; rw [if_neg (fun g => g h), e, if_neg (fun g => g rfl)]
theorem PQ (y x : Nat) (vr : Value) (ω : Wl) (area : Int) (va : Value) (l : List Bs) (δ : Dk) (p : HP) (hp : ∀ h : Hp, p h → B5 1 h va l.length (Bo l)) (hll : (AB l).length ≤ 2100000000) (hc : 0 ≤ ω.count ∧ ω.count < 4294967295) (har : 0 ≤ area ∧ area ≤ 1) (ha : 0 ≤ ω.a ∧ ω.a ≤ 9223372036854775807) (hb : 0 ≤ ω.b ∧ ω.b ≤ 9223372036854775807) (hA : δ.acts + 10 < 4611686018427387904) : Fn prog 116 #[AG y, AA area, va] [lc y x (vr) (ω.synced) (ω.area) (ω.count) (ω.a) (ω.b) (ω.doubt), I2 x δ, p] fun v L => ((Ax δ ω area l).2.2 = 2 ∧ v = AA 2 ∧ L = [lc y x (vr) (ω.synced) (ω.area) (ω.count) (ω.a) (ω.b) (true), I2 x (Ax δ ω area l).1, p]) ∨ ((Ax δ ω area l).2.2 = 0 ∧ v = AA 0 ∧ ∃ a9 c9, L = [lc y x (.slice a9 l.length c9) ((l.length : Nat)) (area) (ω.count + 1) (ω.a) (ω.b) (ω.doubt), I2 x (Ax δ ω area l).1, p, Cp (.slice a9 l.length c9) l]) := by
 refine Fn.intro func116 Y Y fun F W => ?_
 have hlm := BU l
 have hk1 := EZ δ
 have hk2 := Bi δ.sync.1 ((ω.mark area l ω.a ω.b).count % 2) (ω.mark area l ω.a ω.b).sec
 refine .rdAny (p := p) hp O fun aa ca e _ => ?_
 subst e
 refine .sr (.an Y (.seq (.seq (.draw [4, 18, 26] [[0, 1, 2, 3, 4], [5, 6, 7, 8, 9, 10, 11, 12, 13, 14, 15, 16, 17, 18], [19, 20, 21, 22, 23, 24, 25, 26], [27, 28]] mixed kQ (.g0 (.mv Y Y (.nf Y Y Y HO (.kv Y (.ld Y Qh) (.hh Y (.c func107 [_] (HU x δ om)) ?_)))))))))
 rintro v L' ⟨rfl, rfl⟩
 refine D.ph (.g0 (.kv Y (.int Y Y Y) (.mv Y Y (.ndec (t := 13) Y (fun h1_13 => ?_) (fun h1_13 => ?_)))))
 ·refine D.kNT (t := 12) Y h1_13 (.gz Y (.gz Y (.gz Y (.gz Y (.gz Y (.gz Y (.gz Y (.gz Y (.gz Y (.gz Y (.gz Y (.gz Y (.ph (.g0 (.gz Y (.kv Y (.pickT Y Y) (.mv Y Y (.gz Y (.gz Y (.gz Y (.gz Y (.gz Y (.ph (.g0 (.gz Y (.kv Y (.pickT Y Y) (.pf (.condT Y (.sm Y (.cv func113 [_] (Gj y x vr ω.synced ω.area ω.count ω.a ω.b ω.doubt) ?_))))))))))))))))))))))))))))))
  refine .an Y (.rt ?_)
  have hr := X4 (ω := ω) (area := area) (l := l) h1_13
  rw [hr]
  exact .dn Y Y (.inl ⟨Y, Y, Y⟩)
 refine D.kNF (t := 12) Y h1_13 (.gv Y (.move Y) (.gv Y (.move Y) (.gv Y (.move Y) (.gv Y (.move Y) (.gv Y (.nilp Y) (.gv Y (.fieldAddr Y V6) (.gv Y (.ld Y AF) (.gv Y (.move Y) (.gv Y (.nilp Y) (.gv Y (.fieldAddr Y V7) (.gv Y (.ld Y AF) (.gh (t := 13) Y Y Y kQ (.call func155 Y Y (vs := [_, _, _, _, _]) Y (RJ y x vr ω.synced ω.area ω.count ω.a ω.b ω.doubt area ω.a ω.b _ l δ.sync.1 p hp hll hc har ha hb om)) O ?_))))))))))))
 rintro v L' ⟨rfl, rfl⟩
 refine D.ph (.g0 (.gv Y (.int Y Y Y) (.kv Y (.pickF Y Y) (.mv Y Y (.ndec (t := 28) Y (fun h1_28 => ?_) (fun h1_28 => ?_))))))
 ·refine D.kNT (t := 26) Y h1_28 (.kNT (t := 27) Y h1_28 (.gz Y (.gz Y (.gz Y (.gz Y (.gz Y (.ph (.g0 (.gz Y (.kv Y (.pickT Y Y) (.pf (.condT Y (.sm Y (.cv func113 [_] (Gj y x vr ω.synced ω.area ω.count ω.a ω.b ω.doubt) ?_))))))))))))))
  refine .an Y (.rt ?_)
  have hr := W5 (area := area) (l := l) (ω := ω) h1_13 h1_28
  rw [hr]
  exact .dn Y Y (.inl ⟨Y, Y, Y⟩)
 refine D.kNF (t := 26) Y h1_28 (.kNF (t := 27) Y h1_28 (.gv Y (.move Y) (.gv Y (.nilp Y) (.gv Y (.fieldAddr Y HO) (.gv Y (.ld Y Qh) (.gh (t := 28) Y Y Y kQ (.c func107 [_] (HU x (δ.sync.1.write ((ω.mark area l ω.a ω.b).count % 2) (ω.mark area l ω.a ω.b).sec).1 om)) O ?_))))))
 rintro v L' ⟨rfl, rfl⟩
 refine D.ph (.g0 (.gv Y (.int Y Y Y) (.kv Y (.pickF Y Y) (.pf (.condN Y (fun h35 => ?_) (fun h35 => ?_))))))
 ·refine .sm Y (.cv func113 [_] (Gj y x vr ω.synced ω.area ω.count ω.a ω.b ω.doubt) ?_)
  refine .an Y (.rt ?_)
  have hr := Xz (area := area) (l := l) (ω := ω) h1_13 h1_28 h35
  rw [hr]
  exact .dn Y Y (.inl ⟨Y, Y, Y⟩)
 refine .sk (.sm Y (.nf Y JA (.u (.ld Y AF) (.q (.add Y Y om) Y (.nf Y JA (.st Y Y Y BV ?_))))))
 refine .nt (.sm Y (.m Y (.nf Y Lk (.st Y Y Y BV ?_))))
 refine .nt (.seq (.add (Ak 9 1) (.region (.m Y (.m Y (.oq (.append (n := 0) (m := l.length) (ys := Bo l) (p := p) Y Y Y Bu (.inl ⟨_, underlying65⟩) Fp Y Y ?hc61 ?hr62 ?hb63 dQ) ?_))))))
 case hc61 => exact NL _
 case hr62 => exact hp
 case hb63 => omega
 rintro v L' ⟨⟨a8, c8, rfl⟩, rfl⟩; rw [Nat.zero_add, nil_append]
 refine .nf Y Fg (.st Y Y Y II ?_)
 refine .nt (.sm Y (.m Y (.q (.slen Y underlying65 Y) Y (.nf Y QY (.st Y Y Y BV ?_)))))
 refine .nt (.sr (.an Y (.ret ?_)))
 have hr := XK (area := area) (l := l) (ω := ω) h1_13 h1_28 h35
 rw [hr]
 exact .dn Y Y (.inr ⟨Y, Y, a8, c8, Y⟩)
theorem UZ {δ : Dk} {ω : Wl} {ar : Int} {l : List Bs} (h : (Ax δ ω ar l).2.2 = 2) : IQ (Ax δ ω ar l) = ((Ax δ ω ar l).1, { ω with doubt := true }, 2) := by
 have e : (Ax δ ω ar l).2.1 = ω := by
  unfold Ax at h ⊢
  split
  ·rfl
  ·rename_i h1
   rw [if_neg h1] at h
   split
   ·rfl
   ·rename_i h2; rw [if_neg h2] at h; exact absurd h (by show ¬ (0 : Int) = 2; decide)
 unfold IQ
 rw [if_pos h, e, h]
theorem UJ {δ : Dk} {ω : Wl} {ar : Int} {l : List Bs} (h : (Ax δ ω ar l).2.2 = 0) : IQ (Ax δ ω ar l) = ((Ax δ ω ar l).1, { ω with recs := l, synced := l.length, area := ar, count := ω.count + 1 }, 0) := by
 have e : (Ax δ ω ar l).2.1 = { ω with recs := l, synced := l.length, area := ar, count := ω.count + 1 } := by
  unfold Ax at h ⊢
  split
  ·rename_i h1; rw [if_pos h1] at h; exact absurd h (by show ¬ (2 : Int) = 0; decide)
  ·rename_i h1
   rw [if_neg h1] at h
   split
   ·rename_i h2; rw [if_pos h2] at h; exact absurd h (by show ¬ (2 : Int) = 0; decide)
   ·rfl
 unfold IQ
 rw [if_neg (by rw [h]; decide)]
 exact Prod.ext rfl (Prod.ext e h)
theorem Ui {δ : Dk} {ω : Wl} {ar : Int} {s : Bs} {k : Nat} (h : ¬ (Ca δ ar s k).2 = 0) : IQ ((Ca δ ar s k).1, ω, (Ca δ ar s k).2) = ((Ca δ ar s k).1, { ω with doubt := true }, 2) := by
 have e := (MB δ ar s k).resolve_left h
 unfold IQ; rw [e]; rfl
theorem Oi (y x : Nat) (ω : Wl) (δ : Dk) (s : Bs) (hI : MV δ ω) (hsl : s.length ≤ 2147483648) : Fn prog 63 #[AG y, AU s] [W3 y x ω, I2 x δ] fun v L => v = AA (AM δ ω s).2.2 ∧ L = [W3 y x (AM δ ω s).2.1, I2 x (AM δ ω s).1] := by
 refine Fn.intro func63 Y Y fun F W => ?_
 refine .rlOpen (ω := ω) O fun vr => (.slAny (v := vr) O fun arr crr e hsl => ?_)
 subst e
 refine .slAddr O fun hcap hra => ?_
 have hfi := hI.fits
 have hn := hI.size
 have hhl := CP hI.size
 have hlm := BU ω.recs
 have hac := hI.acts
 have hct := hI.count
 have har := hI.area
 have hsy := hI.synced
 refine .sr (.an Y (.seq (.sm Y (.nf Y Lx (.u (.ld Y FV) (.nt (.condB Y (fun h9 => ?_) (fun h9 => ?_))))))))
 ·refine .sr (.an Y (.rt ?_))
  have hr : AM δ ω s = (δ, ω, 34) := by unfold AM; rw [if_pos h9]
  rw [hr]
  refine .rl (y := y) (x := x) (ω := ω) (v := (.slice arr ω.recs.length crr)) ?_
  exact .vv
 refine .sk (.seq (.sm Y (.q (.strlen Y underlying9 Y) Y (.ui Y Y Y (.nt (.condD Y (fun h12 => ?_) (fun h12 => ?_)))))))
 ·refine .sr (.an Y (.rt ?_))
  have hr : AM δ ω s = (δ, ω, 33) := by unfold AM; rw [if_neg (by rw [h9]; decide), if_pos om]
  rw [hr]
  refine .rl (y := y) (x := x) (ω := ω) (v := (.slice arr ω.recs.length crr)) ?_
  exact .vv
 refine .sk (.sm Y (.nf Y Fg (.u (.ld Y Ch) (.oq (.call func108 Y Y (vs := [_]) Y (L3 _ ω.recs (Cp (.slice arr ω.recs.length crr) ω.recs) (fun h hp => AE hp) om)) ?_))))
 rintro v L' ⟨rfl, rfl⟩
 refine .an Y (.seq (.sm Y (.m Y (.q (.strlen Y underlying9 Y) Y (.q (.add Y Y om) Y (.q (.add Y Y om) Y (.m Y (.nf Y HO (.u (.ld Y Qh) (.cv func109 [_] (KA x δ hn) ?_))))))))))
 refine .q (.mul Y Y om) Y (.ui Y Y Y (.nt (.condD Y (fun h29 => ?_) (fun h29 => ?_))))
 ·refine .sr (.an Y (.rt ?_))
  have hr : AM δ ω s = (δ, ω, 30) := by unfold AM; rw [if_neg (by rw [h9]; decide), if_neg om, if_pos om]
  rw [hr]
  refine .rl (y := y) (x := x) (ω := ω) (v := (.slice arr ω.recs.length crr)) ?_
  exact .vv
 have hrl : (AB ω.recs ++ BI s).length = (AB ω.recs).length + s.length + 6 := by rw [length_append, B9]; omega
 refine .sk (.seq (.seq (.draw [17] [[0, 1, 2, 3, 4, 5, 6, 7, 8, 9, 10, 11, 12, 13, 14, 15, 16, 17], [18]] mixed kQ (.go [lc y x ((.slice arr ω.recs.length crr)) (ω.synced) (ω.area) (ω.count) (ω.a) (ω.b) (ω.doubt), Cp (.slice arr ω.recs.length crr) ω.recs] O (.mv Y Y (.nf Y Y Y HO (.kv Y (.ld Y Qh) (.mv Y Y (.nf Y Y Y Lk (.kv Y (.ld Y AF) (.mv Y Y (.nf Y Y Y Fg (.kv Y (.ld Y Ch) (.m Y kQ (.call func111 Y Y (vs := [_]) Y (T7 _ ω.recs (Cp (.slice arr ω.recs.length crr) ω.recs) (fun h hp => AE hp) om)) O ?_))))))))))))))
 refine D.mv Y Y (.m Y kQ (.c func112 [_] (Ip s om)) O ?_)
 refine D.kv Y (.concat Y Y (by rw [B9]; omega)) (.mv Y Y (.hh Y (.c func110 [_, _, _, _] (Qu x ω.area (AB ω.recs ++ BI s) (AB ω.recs).length δ hn har om om om)) ?_))
 rintro v L' ⟨e1, he1, rfl, rfl⟩
 refine D.ph (.g0 (.kv Y (.int Y Y Y) (.pf (.condN Y (fun h48 => ?_) (fun h48 => ?_)))))
 ·refine .sm Y (.cv func113 [_] (Gj y x _ _ _ _ _ _ _) ?_)
  refine .an Y (.rt ?_)
  have hl2 : ¬ (Ca δ ω.area (AB ω.recs ++ BI s) (AB ω.recs).length).2 = 0 := fun g => h48 (he1.2 g)
  have hr : AM δ ω s = ((Ca δ ω.area (AB ω.recs ++ BI s) (AB ω.recs).length).1, { ω with doubt := true }, 2) := by unfold AM; rw [if_neg (by rw [h9]; decide), if_neg om, if_neg om, if_pos hl2, Ui hl2]
  rw [hr]
  refine .rl (y := y) (x := x) (ω := { ω with doubt := true }) (v := (.slice arr ω.recs.length crr)) ?_
  exact .vv
 refine .sk (.sm Y (.m Y (.nf Y Fg (.u (.ld Y Ch) (.m Y (.oq (.buildSlice1 (vs := [_]) Bu Fp Y Y Y Y Y dQ) ?_))))))
 rintro v L' ⟨b10, rfl, rfl⟩
 refine .oq (.append1 Y Y Y Bu Fp Y Y ?c62 ?c63 (Nat.le_refl _) ?c64 dQ) ?_
 case c62 => (first | (simp [AD]; done) | (simp [AD, Cd, Value.cells]; done))
 case c63 => rfl
 case c64 => omega
 rintro v L' ⟨⟨a10, c10, rfl⟩, rfl⟩
 refine .nf Y Fg (.st Y Y Y II ?_)
 refine .nt (.sr (.an Y (.ret ?_)))
 have hl2 : (Ca δ ω.area (AB ω.recs ++ BI s) (AB ω.recs).length).2 = 0 := he1.1 h48
 have hr : AM δ ω s = ((Ca δ ω.area (AB ω.recs ++ BI s) (AB ω.recs).length).1, { ω with recs := ω.recs ++ [s] }, 0) := by unfold AM; rw [if_neg (by rw [h9]; decide), if_neg om, if_neg om, if_neg (fun g => g hl2)]
 rw [hr]
 refine .rl (y := y) (x := x) (ω := { ω with recs := ω.recs ++ [s] }) (v := .slice a10 (ω.recs.length + 1) c10) ?_
 exact .vv
theorem Po (y x : Nat) (ω : Wl) (δ : Dk) (hI : MV δ ω) (hab : (0 ≤ ω.a ∧ ω.a ≤ 9223372036854775807) ∧ (0 ≤ ω.b ∧ ω.b ≤ 9223372036854775807)) : Fn prog 65 #[AG y] [W3 y x ω, I2 x δ] fun v L => v = AA (Ay δ ω).2.2 ∧ L = [W3 y x (Ay δ ω).2.1, I2 x (Ay δ ω).1] := by
 refine Fn.intro func65 Y Y fun F W => ?_
 refine .rlOpen (ω := ω) O fun vr => (.slAny (v := vr) O fun arr crr e hsl => ?_)
 subst e
 refine .slAddr O fun hcap hra => ?_
 have hfi := hI.fits
 have hn := hI.size
 have hhl := CP hI.size
 have hlm := BU ω.recs
 have hac := hI.acts
 have hct := hI.count
 have har := hI.area
 have hsy := hI.synced
 refine .sr (.an Y (.seq (.sm Y (.nf Y Lx (.u (.ld Y FV) (.nt (.condB Y (fun h6 => ?_) (fun h6 => ?_))))))))
 ·refine .sr (.an Y (.rt ?_))
  have hr : Ay δ ω = (δ, ω, 34) := by unfold Ay; rw [if_pos h6]
  rw [hr]
  refine .rl (y := y) (x := x) (ω := ω) (v := (.slice arr ω.recs.length crr)) ?_
  exact .vv
 refine .sk (.seq (.seq (.draw [] [[0, 1, 2, 3, 4, 5, 6, 7, 8, 9]] mixed kQ (.g0 (.mv Y Y (.nf Y Y Y QY (.kv Y (.ld Y AF) (.mv Y Y (.nf Y Y Y Fg (.kv Y (.ld Y Ch) (.kv Y (.slen Y underlying65 Y) (.kv Y (.int Y Y Y) (.pf (.condD Y (fun h16 => ?_) (fun h16 => ?_)))))))))))))))
 ·refine .sr (.an Y (.rt ?_))
  have hr : Ay δ ω = (δ, ω, 0) := by unfold Ay; rw [if_neg (by rw [h6]; decide), if_pos om]
  rw [hr]
  refine .rl (y := y) (x := x) (ω := ω) (v := (.slice arr ω.recs.length crr)) ?_
  exact .vv
 refine .sk (.seq (.sm Y (.nf Y JA (.u (.ld Y AF) (.ui Y Y Y (.nt (.condD Y (fun h21 => ?_) (fun h21 => ?_))))))))
 ·refine .sr (.an Y (.rt ?_))
  have hr : Ay δ ω = (δ, ω, 30) := by unfold Ay; rw [if_neg (by rw [h6]; decide), if_neg om, if_pos om]
  rw [hr]
  refine .rl (y := y) (x := x) (ω := ω) (v := (.slice arr ω.recs.length crr)) ?_
  exact .vv
 refine .sk (.seq (.draw [9] [[0, 1, 2, 3, 4, 5, 6, 7, 8, 9], [10]] mixed kQ (.g0 (.mv Y Y (.mv Y Y (.nf Y Y Y Lk (.kv Y (.ld Y AF) (.mv Y Y (.nf Y Y Y Fg (.kv Y (.ld Y Ch) (.hh Y (.c func116 [_, _, _] (PQ y x (.slice arr ω.recs.length crr) ω ω.area (.slice arr ω.recs.length crr) ω.recs δ (Cp (.slice arr ω.recs.length crr) ω.recs) (fun h hp => AE hp) om ⟨hct.1, by omega⟩ om hab.1 hab.2 om)) ?_)))))))))))
 rintro v L' (⟨hs, rfl, rfl⟩ | ⟨hs, rfl, a9, c9, rfl⟩)
 ·refine D.ph (.g0 (.kv Y (.assign Y) (.pf (.ret ?_))))
  have hr : Ay δ ω = ((Ax δ ω ω.area ω.recs).1, { ω with doubt := true }, 2) := by unfold Ay; rw [if_neg (by rw [h6]; decide), if_neg om, if_neg om, UZ hs]
  rw [hr]
  refine .rl (y := y) (x := x) (ω := { ω with doubt := true }) (v := (.slice arr ω.recs.length crr)) ?_
  exact .vv
 refine D.ph (.g0 (.kv Y (.assign Y) (.pf (.ret ?_))))
 have hr : Ay δ ω = ((Ax δ ω ω.area ω.recs).1, { ω with recs := ω.recs, synced := ω.recs.length, area := ω.area, count := ω.count + 1 }, 0) := by unfold Ay; rw [if_neg (by rw [h6]; decide), if_neg om, if_neg om, UJ hs]
 rw [hr]
 refine .rl (y := y) (x := x) (ω := { ω with recs := ω.recs, synced := ω.recs.length, area := ω.area, count := ω.count + 1 }) (v := .slice a9 ω.recs.length c9) ?_
 exact .vv
/- not in this seat -/
/- not in this seat -/
/- not in this seat -/
/- not in this seat -/
/- not in this seat: rfW -/
/- not in this seat: rfR -/
section
variable {P : Program} {W : World} {n : Nat} {ds : List Deferred} {E : By} {L R : List HP} {X : Act → World → Prop}
/- not in this seat: G.rfOpen -/
/- not in this seat: G.rfFold -/
/- not in this seat: Fn.rfUp -/
/- not in this seat: Fn.rfEnd -/
/- not in this seat: rfW_up -/
/- not in this seat: G.rfUpF -/
/- not in this seat: G.rfLook -/
end
section
variable {P : Program} {E : By} {L : List HP} {ty : TypeId}
end
structure TD (es : List En) (Λ : Lg) : Prop where
 b : es.map Bd = Λ.ents
 z : es.map (·.zx) = Λ.zxs
 n : es.length ≤ 1048576
 k : ∀ e ∈ es, Sg e ∧ EnG e
abbrev gc9 (y w : Nat) (base : Int) (snap : Bs) (sl : Value) (acc cur : Int) (db : Bool) : HP := Ar y [AG w, AA base, AU snap, sl, AA acc, AA cur, .bool db] 129
abbrev es9 (sl : Value) (es : List En) : HP := AV 42 11 sl es.length (es.flatMap BX)
def rgR (y w : Nat) (Λ : Lg) : HP := fun h => ∃ q : (Option Addr × Nat) × List En, TD q.2 Λ ∧ CG [gc9 y w Λ.base Λ.snap (.slice q.1.1 q.2.length q.1.2) Λ.acc Λ.cur Λ.doubt, es9 (.slice q.1.1 q.2.length q.1.2) q.2, Aj entR q.2] h
section
variable {W : World} {n : Nat} {ds : List Deferred} {E : By} {L R : List HP} {X : Act → World → Prop}
theorem G.rgFold {y w : Nat} {l xs : List Value} {sl : Value} {m : Nat} (Λ : Lg) (a : Option Addr) (c : Nat) (es : List En) (hL : Am [Ar y l 129, AV 42 11 sl m xs, Aj entR es] L R) (hE : TD es Λ)
  (h1 : l = [AG w, AA Λ.base, AU Λ.snap, .slice a es.length c, AA Λ.acc, AA Λ.cur, .bool Λ.doubt]) (h2 : sl = .slice a es.length c) (h3 : m = es.length) (h4 : xs = es.flatMap BX) (h : G W n ds E (rgR y w Λ :: R) X) : G W n ds E L X := by
 subst h1; subst h2; subst h3; subst h4
 exact G.fold hL (fun _ hp => ⟨((a, c), es), hE, hp⟩) h
theorem G.rg {y w : Nat} {l xs : List Value} {sl : Value} {m : Nat} (Λ : Lg) (a : Option Addr) (c : Nat) (es : List En) (hE : TD es Λ) (h : G W n ds E (rgR y w Λ :: R) X) (hL : Am [Ar y l 129, AV 42 11 sl m xs, Aj entR es] L R := by repeat' constructor) (h1 : l = [AG w, AA Λ.base, AU Λ.snap, .slice a es.length c, AA Λ.acc, AA Λ.cur, .bool Λ.doubt] := by exact rfl) (h2 : sl = .slice a es.length c := by exact rfl) (h3 : m = es.length := by exact rfl) (h4 : xs = es.flatMap BX := by exact rfl) : G W n ds E L X := G.rgFold Λ a c es hL hE h1 h2 h3 h4 h
end
theorem TD.nil {Λ : Lg} (h : Λ.ents = []) (hz : Λ.zxs = []) : TD [] Λ := ⟨h.symm, hz.symm, Nat.zero_le _, fun _ h => by cases h⟩
theorem QS (base : Int) (snap : Bs) (hb : I64 base) (hs : snap.length ≤ 2147483648) : Fn prog 64 #[AA base, AU snap] [] fun v L => ∃ b c, v = .slice (some ⟨b, 0, none⟩) (Ae base snap).length c ∧ L = [Cp v (Ae base snap)] := by
 refine Fn.intro func64 Y Y fun F W => ?_
 have hz : (Bc base).length ≤ 10 := DB (Jl hb)
 have hc10 : (Bp snap.length).length ≤ 10 := DB (by unfold FI; omega)
 refine .sr (.an Y (.sm Y (.cv func114 [_] (Gw base hb) ?_)))
 refine .m Y (.q (.strlen Y underlying9 Y) Y (.cv func115 [_] (Gi snap.length om) ?_))
 refine .q (.concat Y Y om) Y (.oq (.buildSlice1 (vs := [_]) Bu Fp Y Y Y Y Y dQ) ?_)
 rintro v L' ⟨b4, rfl, rfl⟩
 refine .a Y (.nil (.slMake (b := b4) (n := 1) (c := 1) (xs := Bo [Cj base snap.length]) O dQ (by simp) Y (.then_n (.seq (.block (.loopK (ι := Bs × Value × (List Bs)) (fun q E => (1, AU q.1) :: (5, q.2.1) :: E) (fun q => [Cp q.2.1 q.2.2]) (fun q => q.2.2 ++ HM q.1 = Ae base snap ∧ q.2.2.length + q.1.length ≤ 1 + snap.length ∧ ∃ b c, q.2.1 = .slice (some ⟨b, 0, none⟩) q.2.2.length c) (fun q => q.1.length) (snap, .slice (some ⟨b4, 0, none⟩) 1 1, [Cj base snap.length]) (ts := [4]) O (⟨Y, by dsimp only [length_cons, length_nil]; omega, b4, 1, rfl⟩) O O ?_))))))
 rintro ⟨t, u, l⟩ ⟨hl, hlt, bu, cu, hu⟩
 dsimp only
 dsimp only at hl hlt hu
 subst hu
 refine .seq (.sm Y (.u (.strne Y Y) (.nt (.condN Y (fun h15 => ?_) (fun h15 => ?_)))))
 ·have ht : 0 < t.length := length_pos_iff.2 (by simpa using h15)
  refine .sk (.block (.sm Y (.q (.strlen Y underlying9 Y) Y (.q (.as (v' := AA ((min 4000 t.length : Nat) : Int)) (by congr 1; omega) (.min2 Y Y)) Y (.an Y (.sm Y (.m Y (.m Y (.q (.to (v' := AU (t.take 4000)) (.strTo Y Y underlying9 om) (by simp only [Int.toNat_natCast, P9])) Y (.oq (.buildSlice1 (vs := [_]) Bu Fp Y Y Y Y Y dQ) ?_))))))))))
  rintro v L' ⟨b8, rfl, rfl⟩
  refine .oq (.shaped1 (k := l.length + 1) ?hk22 (.append1 Y Y Y Bu Fp Y Y ?h123 ?h224 (Nat.le_refl _) ?h325 dQ)) ?_
  case hk22 => omega
  case h123 => (first | (simp [AD]; done) | (simp [AD, Cd, Value.cells]; done))
  case h224 => rfl
  case h325 => omega
  rintro v L' ⟨b7, c7, rfl, rfl⟩
  refine .an Y (.region (.m Y (.m Y (.q (.to (v' := AU (t.drop 4000)) (.strFrom Y Y underlying9 om) (by simp only [Int.toNat_natCast, O6])) Y (.a Y (.nil (.blk_n (.then_n (.slCast (T := 9) (sz := 1) (m' := (l ++ [t.take 4000]).length) (xs' := Bo (l ++ [t.take 4000])) O (by simp) (by simp [Bo, Value.cells]) ?_)))))))))
  exact .rk ((t.drop 4000, .slice (some ⟨b7, 0, none⟩) (l.length + 1) c7, l ++ [t.take 4000])) (⟨by dsimp only; rw [append_assoc, singleton_append, ← Ky h15]; exact hl, by dsimp only; rw [length_append, length_drop, length_singleton]; omega, b7, c7, by simp⟩) (by dsimp only; rw [length_drop]; omega) O
 have ht : t = [] := by simpa using h15
 subst ht
 rw [L6, append_nil] at hl
 subst hl
 refine .xe (.sm Y (.an Y (.ret ?_)))
 exact .dn Y Y ⟨_, _, Y, Y⟩
/- not in this seat -/
/- not in this seat -/
/- not in this seat -/
theorem Ma (x : Nat) (δ : Dk) (hA : δ.acts + 10 < 4611686018427387904) : Fn prog 62 #[AG x] [I2 x δ] fun v L => ((Ab δ).2 = none ∧ v = .tuple #[.pointer none, AA 2] ∧ L = [I2 x (Ab δ).1]) ∨
    ((Ab δ).2 = some newW ∧ ∃ w, v = .tuple #[AG w, AA 0] ∧ L = [I2 x (Ab δ).1, W3 w x newW]) := by
 refine Fn.intro func62 Y Y fun F W => ?_
 have k1 := Bi δ 0 zs
 have k2 := Bi (δ.write 0 zs).1 1 DV.sec
 refine .sr (.a Y (.an Y (.seq (.sm Y (.q (.ptreq Y Y underlying28) Y (.nt (.condF Y (.sk (.seq (.seq (.add (Ak 9 1) (.region (.m Y (.cv func59 [] (IJ) ?_))))))))))))))
 refine .cv func105 [_, _, _] (FF x δ 0 zs om) ?_
 refine .ui Y Y Y (.m Y (.ndec (t := 10) Y (fun h3_10 => ?_) (fun h3_10 => ?_)))
 ·refine .kNT (t := 9) Y h3_10 (.gk (.gk (.gk (.gk (.pT Y Y (.m Y (.gk (.gk (.gk (.pT Y Y (.nt (.condT Y (.sr (.a Y (.an Y (.rt ?_))))))))))))))))
  have hF : Ab δ = ((C3 δ 1).1, none) := by unfold Ab; rw [if_pos (show (C3 δ 1).2 ≠ 0 from h3_10)]
  rw [hF]
  exact .dn Y Y (.inl ⟨Y, Y, Y⟩)
 refine .kNF (t := 9) Y h3_10 (.gr (.m Y (.gr (.oq (.c func106 [_, _, _, _, _] (KC 1 0 0 0 (.slice none 0 0) [] (Cp (.slice none 0 0) []) (fun h hp => AE hp) dQ dQ dQ dQ dQ)) ?_))))
 rintro v L' ⟨rfl, rfl⟩; rw [show (⟨1, 0, ((AB []).length : Nat), (([] : List Bs).length : Nat), 0, 0⟩ : Mk) = DV from rfl]
 refine .gr (.cv func105 [_, _, _] (FF x (δ.write 0 zs).1 1 DV.sec om) ?_)
 refine .gr (.ui Y Y Y (.pF Y Y (.m Y (.ndec (t := 16) Y (fun h3_16 => ?_) (fun h3_16 => ?_)))))
 ·refine .kNT (t := 14) Y h3_16 (.kNT (t := 15) Y h3_16 (.gk (.gk (.gk (.pT Y Y (.nt (.condT Y (.sr (.a Y (.an Y (.rt ?_)))))))))))
  have hF : Ab δ = ((C3 δ 2).1, none) := by unfold Ab; rw [if_neg (fun g => g (show (C3 δ 1).2 = 0 from h3_10)), if_pos (show (C3 δ 2).2 ≠ 0 from h3_16)]
  rw [hF]
  exact .dn Y Y (.inl ⟨Y, Y, Y⟩)
 refine .kNF (t := 14) Y h3_16 (.kNF (t := 15) Y h3_16 (.gr (.m Y (.gr (.cv func107 [_] (HU x ((δ.write 0 zs).1.write 1 DV.sec).1 om) ?_)))))
 refine .gr (.ui Y Y Y (.pF Y Y (.nt (.condN Y (fun h20 => ?_) (fun h20 => ?_)))))
 ·refine .sr (.a Y (.an Y (.rt ?_)))
  have hF : Ab δ = ((C3 δ 3).1, none) := by unfold Ab; rw [if_neg (fun g => g (show (C3 δ 1).2 = 0 from h3_10)), if_neg (fun g => g (show (C3 δ 2).2 = 0 from h3_16)), if_pos (show (C3 δ 3).2 ≠ 0 from h20)]
  rw [hF]
  exact .dn Y Y (.inl ⟨Y, Y, Y⟩)
 refine .sk (.sm Y (.q (.to (v' := .agg [AG x, .slice none 0 0, AA 0, AA 0, AA 1, AA 0, AA 0, .bool false].toArray) (.build (us := [(0, _), (4, _)]) ZP Zt Y Y (by simp [AD])) Y) Y (.oq (.box Y) ?_)))
 rintro v L' ⟨w, rfl, rfl⟩
 refine .a Y (.an Y (.ret ?_))
 have hF : Ab δ = ((C3 δ 3).1, some newW) := by unfold Ab; rw [if_neg (fun g => g (show (C3 δ 1).2 = 0 from h3_10)), if_neg (fun g => g (show (C3 δ 2).2 = 0 from h3_16)), if_neg (fun g => g (show (C3 δ 3).2 = 0 from h20))]
 rw [hF]
 refine .rlFold (y := w) (x := x) (ω := newW) (v := .slice none 0 0) O Y Y Y ?_
 exact .dn Y Y (.inr ⟨Y, w, Y, Y⟩)
/- not in this seat -/
/- not in this seat: r4open_spec -/
theorem Mg (x : Nat) (δ : Dk) (hA : δ.acts + 10 < 4611686018427387904) (hI : MV (Ab δ).1 newW) (hI1 : MV (DQ δ).1 (DQ δ).2.1) (hab : (0 ≤ (DQ δ).2.1.a ∧ (DQ δ).2.1.a ≤ 9223372036854775807) ∧ (0 ≤ (DQ δ).2.1.b ∧ (DQ δ).2.1.b ≤ 9223372036854775807)) : Fn prog 32 #[AG x] [I2 x δ] fun v L => ((Ad δ).2 = none ∧ v = .tuple #[.pointer none, AA 2] ∧ L = [I2 x (Ad δ).1]) ∨
    (∃ ω y w, (Ad δ).2 = some ω ∧ v = .tuple #[AG y, AA 0] ∧ L = [rgR y w RI, W3 w x ω, I2 x (Ad δ).1]) := by
 refine Fn.intro func32 Y Y fun F W => ?_
 refine .sr (.a Y (.an Y (.seq (.sm Y (.q (.ptreq Y Y underlying28) Y (.nt (.condF Y (.sk (.sm Y (.oq (.c func62 [_] (Ma x δ hA)) ?_))))))))))
 rintro v L' (⟨hf, rfl, rfl⟩ | ⟨hf, w, rfl, rfl⟩)
 ·refine .m Y (.ex Y Y (.ex Y Y (.a Y (.an Y (.seq (.sm Y (.q (.as (v' := .bool true) (by rfl) (.int Y Y Y)) Y (.m Y (.gk (.gk (.gk (.gk (.gk (.gk (.pT Y Y (.m Y (.gk (.gk (.gk (.pT Y Y (.nt (.condT Y (.sr (.a Y (.an Y (.rt ?_))))))))))))))))))))))))))
  have hr : Ad δ = ((Ab δ).1, none) := by unfold Ad; rw [ if_pos (by rw [hf]; rfl)]
  rw [hr]
  exact .dn Y Y (.inl ⟨Y, Y, Y⟩)
 refine .m Y (.ex Y Y (.ex Y Y (.a Y (.an Y (.seq (.sm Y (.q (.as (v' := .bool false) (by rfl) (.int Y Y Y)) Y (.m Y (.gr (.m Y (.gr (.oq (.c func64 [_, _] (QS 0 [] dQ dQ)) ?_))))))))))))
 rintro v L' ⟨ba, ca, rfl, rfl⟩; rw [show Ae 0 [] = [Cj 0 0] from rfl]; dsimp only [length_cons, length_nil]
 refine .gr (.q (.indexAddr Y Y Bu om) Y (.gr (.q (.loadEl (p := Cp (.slice (some ⟨ba, 0, none⟩) (0 + 1) ca) [Cj 0 0]) (i := 0) (v := AU (Cj 0 0)) Y G9 O (fun h hp => AE hp) Y) Y (.gr (.oq (.c func63 [_, _] (Oi w x newW (Ab δ).1 (Cj 0 0) hI (by rw [AAB]; decide))) ?_)))))
 rintro v L' ⟨rfl, rfl⟩; rw [show AM (Ab δ).1 newW (Cj 0 0) = DQ δ from rfl]
 refine .gr (.ui Y Y Y (.pF Y Y (.m Y (.ndec (t := 23) Y (fun h4_23 => ?_) (fun h4_23 => ?_)))))
 ·refine .kNT (t := 21) Y h4_23 (.kNT (t := 22) Y h4_23 (.gk (.gk (.gk (.pT Y Y (.nt (.condT Y (.sr (.a Y (.an Y (.rt ?_)))))))))))
  have hr : Ad δ = ((DQ δ).1, none) := by unfold Ad; rw [if_neg (by rw [hf]; decide),  if_pos h4_23]
  rw [hr]
  exact .dn Y Y (.inl ⟨Y, Y, Y⟩)
 refine .kNF (t := 21) Y h4_23 (.kNF (t := 22) Y h4_23 (.gr (.m Y (.gr (.oq (.c func65 [_] (Po w x (DQ δ).2.1 (DQ δ).1 hI1 hab)) ?_)))))
 rintro v L' ⟨rfl, rfl⟩; rw [show Ay (DQ δ).1 (DQ δ).2.1 = Fj δ from rfl]
 refine .gr (.ui Y Y Y (.pF Y Y (.nt (.condN Y (fun h27 => ?_) (fun h27 => ?_)))))
 ·refine .sr (.a Y (.an Y (.rt ?_)))
  have hr : Ad δ = ((Fj δ).1, none) := by unfold Ad; rw [if_neg (by rw [hf]; decide), if_neg (fun g => g h4_23),  if_pos h27]
  rw [hr]
  exact .dn Y Y (.inl ⟨Y, Y, Y⟩)
 refine .sk (.sm Y (.q (.to (v' := .agg [AG w, AA 0, AU [], .slice none 0 0, AA 0, AA 0, .bool false].toArray) (.build (us := [(0, _)]) Y5 Zb Y Y (by simp [AD])) Y) Y (.oq (.box Y) ?_)))
 rintro v L' ⟨y, rfl, rfl⟩
 refine .a Y (.an Y (.ret ?_))
 have hr : Ad δ = ((Fj δ).1, some (Fj δ).2.1) := by unfold Ad; rw [if_neg (by rw [hf]; decide), if_neg (fun g => g h4_23),  if_neg (fun g => g h27)]
 rw [hr]
 refine .add (Ak 42 11) (.add (p := Aj entR []) (fun h => Iv h) (.rg (y := y) (w := w) RI none 0 [] (TD.nil Y Y) ?_))
 exact .dn Y Y (.inr ⟨_, y, w, Y, Y, Y⟩)
/- not in this seat -/
theorem DO  (c n : Int) (hc : -9223372036854775808 ≤ c ∧ c ≤ 9223372036854775807) (hn : 0 < n) : Fn prog 5 #[AA c, AA n] [] fun v L => v = AA (E8 c n) ∧ L = [] := by
 refine Fn.intro func5 Y Y fun F W => ?_
 refine .sr (.an Y (.seq (.sm Y (.ui Y Y Y (.nt (.condD Y (fun h6 => ?_) (fun h6 => ?_)))))))
 ·refine .region (.m Y (.q (.add Y Y om) Y (.q (.neg Y om) Y (.an Y (.sm Y (.m Y (.q (.remE Y Y om om) Y (.an Y (.ret ?_)))))))))
  have e : E8 c n = (-(c + 1)) % n := by unfold E8; rw [if_pos h6]
  rw [e]
  exact .vv
 refine .sk (.sm Y (.m Y (.q (.remE Y Y om om) Y (.an Y (.ret ?_)))))
 have e : E8 c n = (c) % n := by unfold E8; rw [if_neg h6]
 rw [e]
 exact .vv
theorem Gl : Fn prog 6 #[] [] fun v L => ∃ d g x xr y w, v = .tuple #[AG d, AG g, AG xr, AG y, .bool true] ∧ L = [BW g x RI, CX x d LF.ω, Bg d LF.δ, rgR y w RI, W3 w xr LF.ω, I2 xr LF.δ] := by
 refine Fn.intro func6 Y Y fun F W => ?_
 have hnl : (Dk.new 512).now.length = 512 := SC 512
 have hs : 2 ≤ (Dk.new 512).now.length ∧ (Dk.new 512).now.length ≤ 32768 := by rw [hnl]; decide
 have hac : (Dk.new 512).acts = 0 := rfl
 have hrn : NR (Dk.new 512) (Rk.new 512) := NR.new 512 dQ
 obtain ⟨ωf, hf0⟩ := (U9 0).1
 obtain ⟨hf1, ⟨hf2a, hf2b⟩, hf3, hf4, hf5⟩ := QM (N := 0) hs om
 have hw0 := U7 (N := 0) hs om
 have hfo := hf0
 obtain rfl := F7 hf0
 refine .sr (.a Y (.a Y (.a Y (.a Y (.an Y (.sr (.oq (.c func29 [_] (VU 512)) ?_)))))))
 rintro v L' (⟨h, -, -⟩ | ⟨-, d, rfl, rfl⟩); · omega
 refine .m Y (.ex Y Y (.ex Y Y (.a Y (.an Y (.sr (.oq (.c func30 [_] (TY 512)) ?_))))))
 rintro v L' (⟨h, -, -⟩ | ⟨-, xr, rfl, rfl⟩); · omega
 refine .m Y (.ex Y Y (.ex Y Y (.a Y (.a Y (.nil (.dsFold (x := xr) (δ := (Dk.new 512)) O hrn (by show (0 : Int) ≤ 0; decide) (.then_n (.seq (.sm Y (.q (.as (v' := .bool false) (by rfl) (.ptreq Y Y underlying26)) Y (.m Y (.gr (.m Y (.gr (.q (.as (v' := .bool false) (by rfl) (.int Y Y Y)) Y (.pF Y Y (.m Y (.gr (.m Y (.gr (.q (.as (v' := .bool false) (by rfl) (.int Y Y Y)) Y (.pF Y Y (.nt (.condF Y (.sk (.sm Y (.oq (.c func31 [_] (N4 d (Dk.new 512) dQ (hw0.i dQ) (hf1.i dQ))) ?_)))))))))))))))))))))))))))
 rintro v L' (⟨h, -, -⟩ | ⟨ω1, g, x, hw1, rfl, rfl⟩); · rw [hfo] at h; cases h
 rw [hfo] at hw1; cases hw1
 refine .m Y (.ex Y Y (.ex Y Y (.a Y (.an Y (.sm Y (.oq (.c func32 [_] (Mg xr (Dk.new 512) dQ (hw0.i dQ) (hf1.i dQ) (by rw [hf2a, hf2b]; decide))) ?_))))))
 rintro v L' (⟨h, -, -⟩ | ⟨ω1, y, w, hw1, rfl, rfl⟩); · rw [hfo] at h; cases h
 rw [hfo] at hw1; cases hw1
 refine .m Y (.ex Y Y (.ex Y Y (.a Y (.an Y (.sm Y (.m Y (.m Y (.m Y (.m Y (.q (.as (v' := .bool true) (by rfl) (.ptrne Y Y underlying27)) Y (.m Y (.gr (.m Y (.gr (.q (.as (v' := .bool true) (by rfl) (.int Y Y Y)) Y (.pT Y Y (.m Y (.gr (.m Y (.gr (.q (.as (v' := .bool true) (by rfl) (.int Y Y Y)) Y (.pT Y Y (.a Y (.a Y (.a Y (.a Y (.an Y (.ret ?_))))))))))))))))))))))))))))
 exact .doneT5 Y Y Y Y Y Y ⟨d, g, x, xr, y, w, Y, Y⟩ O O
theorem Nt : Fn prog 4 #[] [] fun v L => v = .bool true ∧ L = [] := by
 refine Fn.intro func4 Y Y fun F W => ?_
 obtain ⟨hk1, hk2⟩ := AAx
 have hk0 := (U9 2).2
 obtain ⟨⟨m1, hm1, hq1⟩, ⟨m2, hm2, hq2⟩, hq3⟩ := ZJ
 have hl2 : Om.1.ld = 2 := by kernel_rfl
 refine .add (p := JW) (fun _ => trivial) (.sr (.an Y (.sr (.oq (.c func6 [] (Gl)) ?_))))
 rintro v L' ⟨d, g, x, xr, y, w, rfl, rfl⟩; rw [show (RI : Lg) = LF.Λ from rfl]
 refine .m Y (.ex Y Y (.ex Y Y (.ex Y Y (.ex Y Y (.ex Y Y (.a Y (.a Y (.a Y (.a Y (.an Y (.seq (.sm Y (.q (.as (v' := .bool false) (by rfl) (.not Y)) Y (.nt (.condF Y (.sk (.sm Y (.oq (.c func11 [_, _] (NU 2 g)) ?_))))))))))))))))))
 rintro v L' ⟨f, rfl, rfl⟩; rw [show (⟨2, 0, 0, 0, 0, []⟩ : Fw) = Qv 2 from rfl]
 refine .an Y (.seq (.sm Y (.q (.as (v' := .bool false) (by rfl) (.ptreq Y Y underlying45)) Y (.nt (.condF Y (.sk (.sm Y (.q (.to (v' := .agg (BF (PD 2 3)).toArray) (.buildN (pl := [(0, 1), (1, 1), (2, 1), (3, 1), (4, 1), (5, 1), (6, 1), (7, 1), (8, 10), (18, 1)]) (us := [(0, _), (1, _)]) (cells := BF (PD 2 3)) underlying67 kQ CO Y Y) Y) Y (.oq (.call func19 Y Y (vs := [_, _]) Y (EU f g x d (Qv 2) LF.δ LF.ω LF.Λ (PD 2 3) JW _ (PU dQ dQ) hk0.l dQ)) ?_)))))))))
 rintro v L' ⟨a1, c1, rfl, rfl⟩; rw [show AX (Qv 2) ⟨LF.δ, LF.ω, LF.Λ⟩ (PD 2 3) = Om from rfl]
 refine .a Y (.nil ?_)
 rw [hm1, show Tm (some m1) = 1 from rfl, show (Qv 2).ld = 2 from rfl]
 refine .then_n (.sm Y (.q (.to (v' := .agg (BF (PD 4 3)).toArray) (.buildN (pl := [(0, 1), (1, 1), (2, 1), (3, 1), (4, 1), (5, 1), (6, 1), (7, 1), (8, 10), (18, 1)]) (us := [(0, _), (1, _)]) (cells := BF (PD 4 3)) underlying67 kQ CO Y Y) Y) Y (.oq (.call func19 Y Y (vs := [_, _]) Y (EU f g x d Om.1 Om.2.1.δ Om.2.1.ω Om.2.1.Λ (PD 4 3) JW _ (PU dQ dQ) hk1.l dQ)) ?_)))
 rintro v L' ⟨a2, c2, rfl, rfl⟩; rw [show AX Om.1 ⟨Om.2.1.δ, Om.2.1.ω, Om.2.1.Λ⟩ (PD 4 3) = RC from rfl]
 refine .a Y (.nil ?_)
 rw [hm2, show Tm (some m2) = 1 from rfl]
 refine .then_n (.sm Y (.q (.to (v' := .agg (BF (PD 6 0)).toArray) (.buildN (pl := [(0, 1), (1, 1), (2, 1), (3, 1), (4, 1), (5, 1), (6, 1), (7, 1), (8, 10), (18, 1)]) (us := [(0, _)]) (cells := BF (PD 6 0)) underlying67 kQ CO Y Y) Y) Y (.oq (.call func19 Y Y (vs := [_, _]) Y (EU f g x d RC.1 RC.2.1.δ RC.2.1.ω RC.2.1.Λ (PD 6 0) JW _ (PU dQ dQ) hk2.l dQ)) ?_)))
 rintro v L' ⟨a3, c3, rfl, rfl⟩; rw [show AX RC.1 ⟨RC.2.1.δ, RC.2.1.ω, RC.2.1.Λ⟩ (PD 6 0) = fr3 from rfl]
 refine .nt (.seq (.outOpen (v := .slice a1 1 c1) (ld := 2) (m := m1) O fun mv1 => (.slShape (T := 77) (sz := 20) (v := .slice a1 1 c1) O dQ fun b1 c1' e0 mb1 _ => ?_)))
 simp only [Value.slice.injEq, true_and] at e0
 obtain ⟨rfl, rfl⟩ := e0
 refine .outOpen (v := .slice a2 1 c2) (ld := Om.1.ld) (m := m2) O fun mv2 => (.slShape (T := 77) (sz := 20) (v := .slice a2 1 c2) O dQ fun b2 c2' e0 mb2 _ => ?_)
 simp only [Value.slice.injEq, true_and] at e0
 obtain ⟨rfl, rfl⟩ := e0
 refine .region (.m Y (.q (.slen Y underlying53 Y) Y (.q (.as (v' := .bool true) (by rfl) (.int Y Y Y)) Y (.m Y (.gr (.m Y (.gr (.q (.indexAddr Y Y G6 om) Y (.gr (.fa Y N0 (.gr (.fa Y Kn (.gr (.q (.loadRd (sz := 20) (j := 0 * 20 + 1) (p := KT (.slice (some ⟨b1, 0, none⟩) 1 c1) 2 m1 mv1) (v := AA m1.kind) Y AF O (fun h hp => AE hp) om Y) Y (.gr (.q (.as (v' := .bool true) (by exact congrArg Value.bool (decide_eq_true hq1)) (.int Y Y Y)) Y (.pT Y Y (.m Y (.gr (.m Y (.gr (.q (.indexAddr Y Y G6 om) Y (.gr (.fa Y Sz (.gr ?_)))))))))))))))))))))))))
 refine .q (.loadRd (sz := 20) (j := 0) (p := KT (.slice (some ⟨b1, 0, none⟩) 1 c1) 2 m1 mv1) (v := AA 2) Y AF O (fun h hp => AE hp) om Y) Y (.gr (.q (.as (v' := .bool true) (by rfl) (.int Y Y Y)) Y (.pT Y Y (.m Y (.gr (.m Y (.gr (.q (.slen Y underlying53 Y) Y (.gr (.q (.as (v' := .bool true) (by rfl) (.int Y Y Y)) Y (.pT Y Y (.m Y (.gr (.m Y (.gr (.q (.indexAddr Y Y G6 om) Y (.gr (.fa Y N0 (.gr (.fa Y Kn (.gr (.q (.loadRd (sz := 20) (j := 0 * 20 + 1) (p := KT (.slice (some ⟨b2, 0, none⟩) 1 c2) Om.1.ld m2 mv2) (v := AA m2.kind) Y AF O (fun h hp => AE hp) om Y) Y ?_))))))))))))))))))))))
 refine .gr (.q (.as (v' := .bool true) (by exact congrArg Value.bool (decide_eq_true hq2)) (.int Y Y Y)) Y (.pT Y Y (.m Y (.gr (.m Y (.gr (.oq (.c func26 [_] (PI f g fr3.1)) ?_)))))))
 rintro v L' ⟨rfl, rfl⟩; rw [decide_eq_true hq3]
 refine .pT Y Y (.an Y (.ret ?_))
 exact .vv
/- not in this seat -/
def Jm {α : Type} (f : Rn α) (b : Bs) (x : α) : Prop := ∀ r, f (some (b ++ r)) = (x, some r)
theorem Jm.bind {α β : Type} {f : Rn α} {g : α → Rn β} {b c : Bs} {x : α} {y : β} (hf : Jm f b x) (hg : Jm (g x) c y) : Jm (CJ f g) (b ++ c) y := fun r => by
 rw [append_assoc]; unfold CJ; rw [hf]; exact hg r
theorem Jm.end_ {α β : Type} {f : Rn α} {g : α → β} {b : Bs} {x : α} (hf : Jm f b x) : Jm (CJ f fun x => JT (g x)) b (g x) := fun r => by
 unfold CJ JT; rw [hf]
theorem Ij {n : Int} (h : I64 n) : Jm AP (Bc n) n := fun r => by unfold AP BY; dsimp only; rw [Pv h]
theorem WI {s : Bs} (h : s.length ≤ 4096) : Jm A6 (Cs s) s := fun r => by unfold A6 BY; dsimp only; rw [PO h dQ]
theorem ZO {n : Nat} (h : n ≤ 256) : Jm Ic (Bp n) n := fun r => by unfold Ic BY; dsimp only; rw [Lh h dQ]
theorem Sp {α : Type} (f : Rn α) : Jm (Bh f) (Bp 0) [] := by
 have h : Jm (Aa f 0) [] [] := fun r => rfl
 have := Jm.bind (g := Aa f) (ZO (n := 0) dQ) h
 rw [append_nil] at this
 exact this
def YI (d : Bs) : Pt := ⟨0, [], d, BK, [], 0, 0, 0, BK⟩
def Ua (z s x : Int) (d : Bs) : En := ⟨z, s, x, YI d, []⟩
theorem Xx {z s x : Int} {d : Bs} (hz : I64 z) (hs : I64 s) (hx : I64 x) (hd : d.length ≤ 100) : ET (Bd (Ua z s x d)) = some (Ua z s x d).pl := by
 have i0 : I64 0 := by decide
 have e1 : Bd (Ua z s x d) = Bc z ++ (Bc s ++ (Bc x ++ ((Bc 0 ++ (Cs [] ++ (Cs d ++ (Bp 0 ++ (Bc 0 ++ (Bc 0 ++ Bc 0)))))) ++ Bp 0))) := by
  unfold Bd Ua YI Fi EP H1; simp [append_assoc]
 have hp : Jm I9 (Bc 0 ++ (Cs [] ++ (Cs d ++ (Bp 0 ++ (Bc 0 ++ (Bc 0 ++ Bc 0)))))) (YI d) :=
  Jm.bind (Ij i0) (Jm.bind (WI (Nat.zero_le _)) (Jm.bind (WI om) (Jm.bind (Sp GC) (Jm.bind (Ij i0) (Jm.bind (Ij i0) (Jm.end_ (g := fun x => (⟨0, [], d, BK, [], 0, 0, x, BK⟩ : Pt)) (Ij i0)))))))
 have hF : Jm Ub (Bd (Ua z s x d)) (Ua z s x d) := by
  rw [e1]
  exact Jm.bind (Ij hz) (Jm.bind (Ij hs) (Jm.bind (Ij hx) (Jm.bind hp (Jm.end_ (g := fun l => (⟨z, s, x, YI d, l⟩ : En)) (Sp I9)))))
 have := hF []
 rw [append_nil] at this
 unfold ET
 rw [this]; rfl
theorem Yk {z s x : Int} {d : Bs} (hz : I64 z) (hs : I64 s) (hx : I64 x) (hd : d.length ≤ 100) : Wj (Ua z s x d) := by
 have i0 : I64 0 := by decide
 exact ⟨hz, hs, hx, ⟨i0, i0, i0, i0, (by decide : (0 : Nat) < FI), Nat.lt_of_le_of_lt hd dQ, (by decide : (0 : Nat) < FI), fun a ha => by cases ha⟩, (by decide : (0 : Nat) < FI), fun y hy => by cases hy⟩
theorem SH {z s x : Int} {d : Bs} (hz : I64 z) (hs : I64 s) (hx : I64 x) (hd : d.length ≤ 100) : (Bd (Ua z s x d)).length ≤ 200 := by
 have i0 : I64 0 := by decide
 have h1 := Cm hz
 have h2 := Cm hs
 have h3 := Cm hx
 have h4 : (Cs d).length ≤ d.length + 10 := by
  have := DB (u := d.length) (Nat.lt_of_le_of_lt hd dQ)
  unfold Cs Bp
  rw [length_append]; omega
 have e0 : (Bc 0).length = 1 := by kernel_rfl
 have e1 : (Cs []).length = 1 := by kernel_rfl
 have e2 : (Bp 0).length = 1 := by kernel_rfl
 unfold Bd Ua YI Fi EP H1
 simp only [flatMap_cons, flatMap_nil, length_append, length_nil, e0, e1, e2]
 omega
theorem WM {z s x : Int} {d : Bs} (hz : I64 z) (hs : I64 s) (hx : I64 x) (hd : d.length ≤ 100) : MU JW (Ua z s x d) := by
 have hr : ∀ sz h, B5 sz h BK 0 [] := fun sz h => .inl ⟨rfl, rfl, _, _, rfl⟩
 have hl := SH hz hs hx hd
 exact ⟨⟨⟨Yk hz hs hx hd, fun h _ => hr 2 h, fun h _ => hr 8 h, fun y hy => by cases hy⟩, by omega, ⟨Nat.zero_le _, Nat.zero_le _, fun y hy => by cases hy⟩, ⟨rfl, rfl⟩, fun y hy => by cases hy⟩, fun y hy => by cases hy⟩
theorem SV {z s x : Int} {d : Bs} (hz : I64 z) (hs : I64 s) (hx : I64 x) (hd : d.length ≤ 100) : Vv (Ua z s x d) := by
 have hl := SH hz hs hx hd
 refine ⟨Yk hz hs hx hd, ?_, by omega, rfl⟩
 unfold C7 Oa
 rw [Xx hz hs hx hd]; rfl
/-! ### The start -/
def e4 (z : Nat) : En := Ua (4294967296 + z) z 0 []
def H4 : List En := [e4 1, e4 2, e4 3, e4 4]
theorem Rw {j : Nat} (hj : j < H4.length) : H4[j] = e4 (j + 1) := by
 have : j = 0 ∨ j = 1 ∨ j = 2 ∨ j = 3 := by have : H4.length = 4 := rfl; omega
 rcases this with rfl | rfl | rfl | rfl <;> rfl
theorem S3 {j : Nat} (h : j < 4) : zt (j + 1) = 4294967296 + ((j + 1 : Nat) : Int) := by unfold zt; rw [if_neg om, if_pos om]
theorem YA : (AB (Ae 0 [] ++ H4.map Bd)).length ≤ 64 * 255 := by
 have : decide ((AB (Ae 0 [] ++ H4.map Bd)).length ≤ 64 * 255) = true := by kernel_rfl
 exact of_decide_eq_true this
theorem U3 : Hz H4 := by
 refine ⟨fun j hj => ?_, fun e he => ?_, by decide, YA⟩
 ·rw [Rw hj, S3 (by have : H4.length = 4 := rfl; omega)]; rfl
 ·obtain ⟨j, hj, rfl⟩ := mem_iff_getElem.1 he
  rw [Rw hj]
  have : H4.length = 4 := rfl
  exact SV ⟨by omega, by omega⟩ ⟨by omega, by omega⟩ dQ (Nat.zero_le _)
theorem Xw : LF.ω.count ≤ 500 := by
 have : decide (LF.ω.count ≤ 500) = true := by kernel_rfl
 exact of_decide_eq_true this
theorem Ys : Em LF [] 0 0 5000000 500 := by
 obtain ⟨ω, h1, h2, h3, -⟩ := JL (n := 512) dQ
 have e := F7 h1
 subst e
 have h5 : (512 : Int).toNat = 512 := by decide
 have h6 : LF.δ.now.length = 512 := by rw [← h5, ← h3]; rfl
 exact ⟨EO.more (show EO LF 4000003 from h2) dQ, show RI = BO [] 0 0 from rfl, h6, Xw⟩
theorem M6 {s : Ld} {a c N C : Int} {z : Nat} (hz : z < 4) (h : Em s (H4.take z) a c N C) : (AK s (e4 (z + 1))).2 = 0 ∧ Em (AK s (e4 (z + 1))).1 (H4.take (z + 1)) a c (N + 2000000) (C + 1) := by
 have h4 : H4.length = 4 := rfl
 have hl : (H4.take z).length = z := by rw [length_take]; omega
 have ht : H4.take (z + 1) = H4.take z ++ [e4 (z + 1)] := by rw [take_succ_eq_append_getElem om, Rw]
 have hO : Vv (e4 (z + 1)) := SV ⟨by omega, by omega⟩ ⟨by omega, by omega⟩ dQ (Nat.zero_le _)
 rcases Id h (U3.take z) hO (by rw [hl, S3 hz]; rfl) with ⟨h1, h2, -⟩ | ⟨-, -, h3⟩
 ·exact ⟨h1, by rw [ht]; exact h2⟩
 ·rw [← ht] at h3
  exact absurd ⟨by rw [hl]; omega, (U3.take (z + 1)).room⟩ h3
theorem AAM (z : Nat) (hz : z ≤ 4) : MU JW (e4 z) := WM ⟨by omega, by omega⟩ ⟨by omega, by omega⟩ dQ (Nat.zero_le _)
/-! ### When all have started -/
theorem XN {n : Nat} (hn : 1 ≤ n ∧ n ≤ 6) {fs : List Fl} (hl : fs.length = n) {s : Ld} {N C : Int} (hs : Em s H4 1 1 N C) (hf : ∀ y ∈ fs, ∃ k, k ≤ 4 ∧ y.Φ = Qv ((n : Int) + 1) ∧ Em y.s (H4.take k) 1 1 NF CF) {q : HP} {U : Nat → List Ms} (hU : ∀ j, j < n → Dj q (U j) [.info]) :
  ∃ cv, C9 n ⟨H4, L0 n, 0, s, q, U, fun _ => [], fs⟩ cv N C 400 := by
 have hk : ∃ ks : Nat → Nat, ∀ j (h : j < fs.length), ks j ≤ 4 ∧ fs[j].Φ = Qv ((n : Int) + 1) ∧ Em fs[j].s (H4.take (ks j)) 1 1 NF CF := by
  refine ⟨fun j => if h : j < fs.length then (hf fs[j] (getElem_mem h)).choose else 0, fun j h => ?_⟩
  dsimp only
  rw [dif_pos h]
  exact (hf fs[j] (getElem_mem h)).choose_spec
 obtain ⟨ks, hks⟩ := hk
 have hsv : ∀ j (h : j < (L0 n).sv.length), (L0 n).sv[j] = Yq ((j : Int) + 1) := fun j h => by
  have e : (L0 n).sv[j]? = some (Yq ((j : Int) + 1)) := by
   have hj : j < n := by rw [NZ] at h; exact h
   show ((List.range n).map _)[j]? = _
   rw [List.getElem?_map, List.getElem?_range hj]; rfl
  rw [List.getElem?_eq_getElem h] at e
  exact Option.some.inj e
 have hlen : (L0 n).sv.length = n := NZ n
 have hmem : ∀ r ∈ (L0 n).sv, ∃ j : Nat, r = Yq ((j : Int) + 1) := fun r hr => by
  obtain ⟨j, hj, rfl⟩ := mem_iff_getElem.1 hr
  exact ⟨j, hsv j hj⟩
 have hz4 : zt (L0 n).h = 4294967300 := rfl
 refine ⟨fun j => ⟨⟨0, ks j, 0⟩, [.info], []⟩, U3, rfl, ⟨⟨Int.le_refl 0, show (0 : Int) ≤ 3 by decide⟩, ⟨Nat.le_refl _, show 4 ≤ 200 by decide⟩, by rw [hlen]; exact hn.2, fun j h => by rw [hsv j h]; rfl, fun r hr h => ?_, fun r hr h => ?_, fun r hr => ?_, fun r hr => ?_, by rw [hz4]; exact ⟨Int.le_refl 0, show (0 : Int) ≤ 4294967300 by decide⟩⟩, ?_, hlen, ⟨fun j h => by rw [hsv j h]; rfl, fun j h => ?_, Nat.le_refl _, by rw [hz4]; exact ⟨Int.le_refl 0, show (0 : Int) ≤ 4294967300 by decide⟩, ⟨Int.le_refl 0, show (0 : Int) ≤ 3 by decide⟩⟩, ⟨fun _ => HS (by rw [hlen]; exact hn.1) (fun r hr => ?_), fun e => ?_, fun e => ?_, fun e => ?_⟩, hl, fun j h => ?_, hU, fun j _ => trivial, ?_⟩
 ·obtain ⟨j, rfl⟩ := hmem r hr; exact absurd h (by show ¬ (0 : Int) = 1; decide)
 ·obtain ⟨j, rfl⟩ := hmem r hr; exact absurd h (by show ¬ (0 : Int) = 3; decide)
 ·obtain ⟨j, rfl⟩ := hmem r hr; rw [hz4]; exact ⟨Int.le_refl _, by show (0 : Int) ≤ _; decide⟩
 ·obtain ⟨j, rfl⟩ := hmem r hr; rw [hz4]; exact ⟨Int.le_refl _, by show (0 : Int) ≤ _; decide⟩
 ·show Em s H4 _ _ _ _
  rw [if_pos (show (L0 n).ph = 0 from rfl), if_pos (show (L0 n).ph ≤ 1 by show (0 : Int) ≤ 1; decide)]
  exact hs.more (by show N ≤ N + 4000000 * 0; omega) (by show C ≤ C + 2 * 0; omega)
 ·rw [hsv j h]
  refine ⟨⟨_, _, .nil _, fun _ => rfl, fun _ => ?_, .inl ⟨rfl, rfl, rfl, ?_, by simp⟩⟩, fun _ => ?_, fun _ => rfl, by rw [hz4]; show (0 : Int) ≤ _; decide, Int.le_refl _⟩
  ·exact (hks j (by rw [hl, ← hlen]; exact h)).1
  ·intro u hu; rw [mem_singleton] at hu; exact hu
  ·intro u hu; rw [mem_singleton] at hu; exact hu
 ·obtain ⟨j, rfl⟩ := hmem r hr; show (0 : Int) ≠ 1; decide
 ·exact absurd (show (0 : Int) = 1 from e) dQ
 ·exact absurd (show (0 : Int) = 2 from e) dQ
 ·exact absurd (show (0 : Int) = 3 from e) dQ
 ·obtain ⟨h1, h2, h3⟩ := hks j h
  have h4 : H4.length = 4 := rfl
  refine ⟨?_, by rw [h2]; exact Int.le_refl _⟩
  show Mf _ _ ⟨0, ks j, 0⟩ _ _ _ _
  rw [h2]
  refine ⟨rfl, rfl, rfl, fun e => absurd rfl e, rfl, ⟨Int.le_refl 0, show (0 : Int) ≤ 3 by decide⟩, by show ks j ≤ H4.length; omega, fun _ => h1, ?_⟩
  show Em fs[j].s (H4.take (ks j)) (if (0 : Int) = 0 then 1 else 2) (if (0 : Int) ≤ 1 then 1 else 2) _ _
  rw [if_pos rfl, if_pos dQ]
  exact h3.more (by dsimp only; omega) (by dsimp only; omega)
 ·have h : ∀ m, Fm (fun _ => 24) m = 24 * m := fun m => by
   induction m with
   | zero => rfl
   | succ m ih => show Fm _ m + 24 = _; rw [ih]; omega
  have h2 : G7 n (fun j => ⟨⟨0, ks j, 0⟩, [.info], []⟩) = 24 * n := h n
  show G7 n (fun j => ⟨⟨0, ks j, 0⟩, [.info], []⟩) + 162 ≤ 400
  rw [h2]; omega
theorem Qr (av ao : Option Addr) (cv co : Nat) (k : List Lq) (fr : Int) (o : Lo) (ho : o.length ≤ 100) (hk : k.length ≤ 12) (hc : ∀ x ∈ o, ∀ v ∈ BF x.2, AD v = true) (hq : ∀ r ∈ k, r.l.length ≤ 1000000) : Fn prog 13 #[.slice av k.length cv, AA fr, .slice ao o.length co] [Ke (.slice av k.length cv) k, AV 77 20 (.slice ao o.length co) o.length (o.flatMap Ik)] fun v K => v = .slice av k.length cv ∧ K = [Ke (.slice av k.length cv) (EL fr k o), AV 77 20 (.slice ao o.length co) o.length (o.flatMap Ik)] := by
 refine Fn.intro func13 Y Y fun F W => ?_
 refine .sr (.an Y (.seq (.sr (.an Y (.block (.loopK (ι := Nat) (fun q E => (7, AA q) :: E) (fun q => [Ke (.slice av k.length cv) (EL fr k (o.take q))]) (fun q => q ≤ o.length) (fun q => o.length - q) (0) (ts := [0, 1, 2, 6]) O (Nat.zero_le _) O O ?_))))))
 rintro i hi
 refine .seq (.sm Y (.m Y (.q (.slen Y underlying53 Y) Y (.ui Y Y Y (.nt (.condD Y (fun h12 => ?_) (fun h12 => ?_)))))))
 ·have hi2 : i < o.length := by omega
  refine .slShape (T := 77) (sz := 20) (v := .slice ao o.length co) O om fun ob oc e0 _ _ => ?_
  simp only [Value.slice.injEq, true_and] at e0
  obtain ⟨rfl, rfl⟩ := e0
  have hkl : (EL fr k (o.take i)).length = k.length := Lj fr _ _
  have hfew := Xr fr (o.take i) k hq
  have htl : (o.take i).length ≤ 100 := by rw [length_take]; omega
  refine .sk (.seq (.block (.sr (.an Y (.block (.lnCast (v' := .slice av k.length cv) (k' := (Cg (D6 fr o[i]) (EL fr k (o.take i)) 0)) O Y (IT _ _).symm (.loopK (ι := Nat) (fun q E => (8, AA q) :: E) (fun q => [Ke (.slice av k.length cv) (Cg (D6 fr o[i]) (EL fr k (o.take i)) q)]) (fun q => q ≤ k.length) (fun q => k.length - q) (0) (ts := [0, 1, 2, 6, 7, 9, 10, 11, 12]) O (Nat.zero_le _) O O ?_)))))))
  rintro j hj
  refine .seq (.sm Y (.m Y (.q (.slen Y underlying34 Y) Y (.ui Y Y Y (.nt (.condD Y (fun h18 => ?_) (fun h18 => ?_)))))))
  ·have hjk : j < (EL fr k (o.take i)).length := by omega
   have hml : (Cg (D6 fr o[i]) (EL fr k (o.take i)) j).length = k.length := by rw [D0]; exact hkl
   refine .lnOpen (k := (Cg (D6 fr o[i]) (EL fr k (o.take i)) j)) O fun rows hr => ?_
   have hrl := DU hr
   have hjr : j < rows.length := by omega
   have hra : rows[j].1 = (EL fr k (o.take i))[j] := (GP hr hjr om).trans (JG _ hjk _)
   rw [hrl, hml]
   refine .slShape (T := 49) (sz := 3) (v := .slice av k.length cv) O om fun bl cl e0 _ _ => ?_
   simp only [Value.slice.injEq, true_and] at e0
   obtain ⟨rfl, rfl⟩ := e0
   have hlj : rows[j].1.l.length ≤ 1000100 := by rw [hra]; exact Nat.le_trans (hfew _ (getElem_mem hjk)) om
   refine .sk (.seq (.block (.seq (.draw [] [[0, 1, 2, 3, 4, 5, 6, 7, 8, 9, 10, 11, 12, 13, 14, 15, 16, 17, 18, 19]] mixed kQ (.g0 (.mv Y Y (.mv Y Y (.kv Y (.indexAddr Y Y BH om) (.kv Y (.fieldAddr Y Kf) (.kv Y (.loadRd (sz := 3) (j := j * 3 + 0) (p := AV 49 3 _ _ (rows.flatMap B3)) (v := AA rows[j].1.fr) Y AF O (fun h hp => AE hp) om ((BP (f := B3) (sz := 3) (fun _ => Y) om dQ).trans (by exact rfl))) (.mv Y Y (.kv Y (.int Y Y Y) (.mv Y Y (.dec (t := 28) Y (fun h7_28 => ?_) (fun h7_28 => ?_)))))))))))))))
   ·refine D.kDT (t := 27) Y h7_28 (.gv Y (.move Y) (.gv Y (.move Y) (.gv Y (.indexAddr Y Y BH om) (.gv Y (.fieldAddr Y DY) (.gv Y (.loadRd (sz := 3) (j := j * 3 + 1) (p := AV 49 3 _ _ (rows.flatMap B3)) (v := AA rows[j].1.to) Y AF O (fun h hp => AE hp) om ((BP (f := B3) (sz := 3) (fun _ => Y) om dQ).trans (by exact rfl))) (.gv Y (.move Y) (.gv Y (.move Y) (.gv Y (.indexAddr Y Y G6 om) (.gv Y (.fieldAddr Y Sz) (.gv Y (.loadRd (sz := 20) (j := i * 20 + 0) (p := AV 77 20 _ o.length (o.flatMap Ik)) (v := AA o[i].1) Y AF O (fun h hp => AE hp) om ((BP (f := Ik) (sz := 20) (fun _ => Y) hi2 dQ).trans (by exact rfl))) (.gv Y (.int Y Y Y) (.kv Y (.pickT Y Y) ?_))))))))))))
    refine D.pf (.condD Y (fun h40 => ?_) (fun h40 => ?_))
    ·refine .lqAt (i := j) hjr O (.draw [12, 13, 16] [[0, 1, 2, 3, 4, 5, 6, 7, 8, 9, 10, 11, 12, 13], [14, 15, 16]] mixed kQ (.go [AV 49 3 _ _ (rows.flatMap B3), AV 77 20 _ o.length (o.flatMap Ik)] O (.k Y (.move Y) (.k Y (.move Y) (.k Y (.move Y) (.k Y (.move Y) (.k Y (.indexAddr Y Y BH om) (.k Y (.fieldAddr Y BM) (.k Y (.loadRd (sz := 3) (j := j * 3 + 2) (p := AV 49 3 _ _ (rows.flatMap B3)) (v := rows[j].2) Y EG O (fun h hp => AE hp) om ((BP (f := B3) (sz := 3) (fun _ => Y) om dQ).trans (by exact rfl))) (.mv Y Y (.mv Y Y (.kv Y (.indexAddr Y Y G6 om) (.kv Y (.fieldAddr Y N0) (.kv Y (.loadRdA (sz := 20) (j := i * 20 + 1) (k := 19) (p := AV 77 20 _ o.length (o.flatMap Ik)) (vs := BF o[i].2) Y DJ O (fun h hp => AE hp) (by simp [BF]) om om (Xt (f := Ik) (sz := 20) (j := 1) (k := 19) (fun _ => Y) hi2 Y)) ?_))))))))))))))
     refine D.hh Y (.buildSlice (vs := [_]) Ft CO Y Y Y Y cQ dQ) ?_
     rintro v L' ⟨b6, rfl, rfl⟩
     refine D.hh Y (.append1Q (n := rows[j].1.l.length) Y Y Y Ft CO Y Y ?hc44 ?hl45 (Nat.le_refl _) ?hb46 dQ) ?_
     case hc44 => simp only [map_cons, map_nil, flatten_cons, flatten_nil, append_nil]; simp only [Value.cells]; exact hc _ (getElem_mem hi2)
     case hl45 => rfl
     case hb46 => omega
     rintro v L' ⟨⟨a9, c9, rfl⟩, rfl⟩
     refine D.ph (.g0 (.kv Y (.indexAddr Y Y BH om) (.kv Y (.fieldAddr Y BM) (.hh Y (.storeRd (sz := 3) (j := j * 3 + 2) Y Y Y Ls ?ho51 ?hi52) ?_))))
     case ho51 => omega
     case hi52 => omega
     rintro v L' rfl
     refine D.ph (.fin (.slCast (T := 49) (sz := 3) (m' := k.length) (xs' := (rows.set j ((⟨rows[j].1.fr, rows[j].1.to, rows[j].1.l ++ [o[i].2]⟩ : Lq), .slice a9 (rows[j].1.l.length + 1) c9)).flatMap B3) O Y (IP hjr dQ Y) (.bigTo (f := Mc) (l := rows) (i := j) hjr ((⟨rows[j].1.fr, rows[j].1.to, rows[j].1.l ++ [o[i].2]⟩ : Lq), .slice a9 (rows[j].1.l.length + 1) c9) (p := IG 67 19 (.slice a9 (rows[j].1.l.length + 1) c9) (rows[j].1.l.length + 1) (rows[j].1.l.flatMap BF ++ ([.agg (BF o[i].2).toArray].map fun v : Value => v.cells.toList).flatten)) (by unfold Mc; simp [Value.cells]) O (.lnFold ((Cg (D6 fr o[i]) (EL fr k (o.take i)) j).set j (⟨rows[j].1.fr, rows[j].1.to, rows[j].1.l ++ [o[i].2]⟩ : Lq)) (rows := (rows.set j ((⟨rows[j].1.fr, rows[j].1.to, rows[j].1.l ++ [o[i].2]⟩ : Lq), .slice a9 (rows[j].1.l.length + 1) c9))) (hr.set j Y) O (by first | (rw [length_set, hrl, hml]) | rfl | exact (length_set ..).symm | (rw [length_set])) (by exact rfl) (.blk_n (.then_n (.region (.m Y (.q (.add Y Y om) Y (.an Y ?_))))))))))
     refine .lnCast (v' := _) (k' := (Cg (D6 fr o[i]) (EL fr k (o.take i)) (j + 1))) O Y (by rw [GW _ hjk, show D6 fr o[i] (EL fr k (o.take i))[j] = (⟨rows[j].1.fr, rows[j].1.to, rows[j].1.l ++ [o[i].2]⟩ : Lq) by unfold D6; rw [← hra, if_pos ⟨h7_28, h40⟩]]) ?_
     exact .rk (j + 1) om om O
    refine .skip (.blk_n (.then_n (.region (.m Y (.q (.add Y Y om) Y (.an Y (.lnFold ((Cg (D6 fr o[i]) (EL fr k (o.take i)) j)) (rows := rows) (hr) O (by first | (rw [hrl, hml]) | rfl | exact (length_set ..).symm | (rw [length_set])) (by exact rfl) (.lnCast (v' := _) (k' := (Cg (D6 fr o[i]) (EL fr k (o.take i)) (j + 1))) O Y (Gd _ hjk (by unfold D6; rw [← hra, if_neg (by first | exact fun e => h7_28 e.1 | exact fun e => h40 e.2)])).symm ?_))))))))
    exact .rk (j + 1) om om O
   refine D.kDF (t := 27) Y h7_28 (.gz Y (.gz Y (.gz Y (.gz Y (.gz Y (.gz Y (.gz Y (.gz Y (.gz Y (.gz Y (.gz Y (.kv Y (.pickF Y Y) (.pf (.condF Y (.skip (.blk_n (.then_n (.region (.m Y (.q (.add Y Y om) Y (.an Y (.lnFold ((Cg (D6 fr o[i]) (EL fr k (o.take i)) j)) (rows := rows) (hr) O (by first | (rw [hrl, hml]) | rfl | exact (length_set ..).symm | (rw [length_set])) (by exact rfl) (.lnCast (v' := _) (k' := (Cg (D6 fr o[i]) (EL fr k (o.take i)) (j + 1))) O Y (Gd _ hjk (by unfold D6; rw [← hra, if_neg (by first | exact fun e => h7_28 e.1 | exact fun e => h40 e.2)])).symm ?_)))))))))))))))))))))))
   exact .rk (j + 1) om om O
  have hje : j = k.length := by omega
  subst hje
  refine .exit (.then_e (.then_e (.blk_e (.blk_n (.then_n (.region (.m Y (.q (.add Y Y om) Y (.an Y (.lnCast (v' := .slice av k.length cv) (k' := EL fr k (o.take (i + 1))) O Y (by rw [S8 fr k hi2, ← Jt, Lj]) ?_))))))))))
  exact .rk (i + 1) om om O
 have hie : i = o.length := by omega
 subst hie
 rw [take_length]
 refine .xe (.sm Y (.an Y (.ret ?_)))
 exact .dn Y Y ⟨Y, Y⟩
theorem KH (aa ba : Option Addr) (ca cb : Nat) (el bs : List En) (pa pb : HP) (hra : ∀ h : Hp, pa h → B5 11 h (.slice aa el.length ca) el.length (el.flatMap BX)) (hrb : ∀ h : Hp, pb h → B5 11 h (.slice ba bs.length cb) bs.length (bs.flatMap BX)) (hea : ∀ e ∈ el, Uy pa e) (heb : ∀ e ∈ bs, Uy pb e) (hlen : el.length ≤ 1000) (heq : el.map En.pl = bs.map En.pl) : Fn prog 27 #[.slice aa el.length ca, .slice ba bs.length cb] [pa, pb] fun v K => v = .bool true ∧ K = [pa, pb] := by
 refine Fn.intro func27 Y Y fun F W => ?_
 have hbl : bs.length = el.length := by have := congrArg List.length heq; simpa using this.symm
 refine .sr (.an Y (.seq (.sm Y (.q (.slen Y underlying60 Y) Y (.m Y (.q (.slen Y underlying60 Y) Y (.q (.as (v' := .bool false) (by rw [hbl]; simp) (.int Y Y Y)) Y (.nt (.condF Y (.sk (.seq (.sr (.an Y (.block (.loopK (ι := Nat) (fun q E => (5, AA q) :: E) (fun q => []) (fun q => q ≤ el.length) (fun q => el.length - q) (0) (ts := [0, 1]) O (Nat.zero_le _) O O ?_)))))))))))))))
 rintro i hi
 refine .seq (.sm Y (.m Y (.q (.slen Y underlying60 Y) Y (.ui Y Y Y (.nt (.condD Y (fun h14 => ?_) (fun h14 => ?_)))))))
 ·have hi2 : i < el.length := by omega
  have hi3 : i < bs.length := by omega
  have henb : Bd bs[i] = Bd el[i] := by have e := congrArg (fun l : List En => l[i]?) heq; simp only [List.getElem?_map, List.getElem?_eq_getElem hi2, List.getElem?_eq_getElem hi3, Option.map_some] at e; exact (Nr (Option.some.inj e)).symm
  refine .rdShape (p := pa) hra O om fun b1 o1 e => ?_
  subst e
  refine .rdShape (p := pb) hrb O om fun b2 o2 e => ?_
  subst e
  refine .sk (.seq (.block (.seq (.draw [] [[0, 1, 2, 3, 4, 5, 6, 7, 8, 9, 10]] mixed kQ (.go [pa, pb] O (.mv Y Y (.mv Y Y (.kv Y (.indexAddr Y Y Fr om) (.kv Y (.loadRdA (sz := 11) (j := i * 11) (k := 11) (p := pa) (vs := BX el[i]) Y D3 O hra (by simp [BX, C5]) om om (BE (f := BX) (sz := 11) (fun _ _ => Y) om)) (.m Y kQ (.c func58 [_] (K3 el[i] pa (hea _ (getElem_mem hi2)))) O ?_))))))))))
  refine D.mv Y Y (.mv Y Y (.kv Y (.indexAddr Y Y Fr om) (.kv Y (.loadRdA (sz := 11) (j := i * 11) (k := 11) (p := pb) (vs := BX bs[i]) Y D3 O hrb (by simp [BX, C5]) om om (BE (f := BX) (sz := 11) (fun _ _ => Y) om)) (.m Y kQ (.c func58 [_] (K3 bs[i] pb (heb _ (getElem_mem hi3)))) O ?_))))
  rw [henb]
  refine D.kv Y (.as (v' := .bool false) (by simp) (.strne Y Y)) (.pf (.condF Y (.skip (.blk_n (.then_n (.region (.m Y (.q (.add Y Y om) Y (.an Y ?_)))))))))
  exact .rk (i + 1) om om O
 refine .xe (.sr (.an Y (.ret ?_)))
 exact .dn Y Y ⟨Y, Y⟩
theorem OJ (g x : Nat) (H : List En) (a c : Int) (hH : Hz H) (hW : Iq (BO H a c)) (fs : List Fl) (hfs : ∀ y ∈ fs, ∃ (k : Nat) (ka kc : Int), k ≤ H.length ∧ y.s.Λ = BO (H.take k) ka kc ∧ Iq y.s.Λ) (al af : Option Addr) (cl cf : Nat) (hn : fs.length ≤ 6) : Fn prog 21 #[AG g, .slice al fs.length cl, .slice af fs.length cf] [BW g x (BO H a c), Aj G0 fs, AV 27 1 (.slice al fs.length cl) fs.length (fs.map fun y => AG y.g), AV 45 1 (.slice af fs.length cf) fs.length (fs.map fun y => AG y.f)] fun v K => v = .bool true ∧ K = [BW g x (BO H a c), Aj G0 fs, AV 27 1 (.slice al fs.length cl) fs.length (fs.map fun y => AG y.g), AV 45 1 (.slice af fs.length cf) fs.length (fs.map fun y => AG y.f)] := by
 refine Fn.intro func21 Y Y fun F W => ?_
 have hI0 := hW.i
 have hfew := hH.few
 refine .sr (.an Y (.sm Y (.oq (.c func22 [_, _] (DA g x (BO H a c) 0 hI0)) ?_)))
 rintro v L' (⟨hz, -, -⟩ | ⟨-, es0, hes0, hek0, a0, c0, rfl, rfl⟩); · exact absurd (show (0 : Int) < 0 from hz) dQ
 refine .m Y (.q (.extract (vs := [(.slice a0 es0.length c0), AA 0]) Y Y) Y (.q (.extract (vs := [(.slice a0 es0.length c0), AA 0]) Y Y) Y (.a Y (.a Y (.nil ?_)))))
 have he0 : es0.map En.pl = H.map En.pl := hes0.trans (Eh hH a c 0)
 have hel0 : es0.length = H.length := by have := congrArg List.length he0; simpa using this
 obtain ⟨-, hg0⟩ := HT hW hes0
 refine .slAddr (a := a0) (c := c0) O fun hcap0 hadr0 => (.fold (p := R5 (.slice a0 es0.length c0) es0) (q := [AV 42 11 (.slice a0 es0.length c0) es0.length (es0.flatMap BX), Aj entR es0]) O (fun _ h => h) (.then_n (.seq (.sm Y (.q (.as (v' := .bool false) (by rfl) (.int Y Y Y)) Y (.nt (.condF Y (.sk (.seq (.sr (.an Y (.block (.loopK (ι := Nat) (fun q E => (9, AA q) :: E) (fun q => [Aj G0 fs]) (fun q => q ≤ fs.length) (fun q => fs.length - q) (0) (ts := [1, 2, 7]) O (Nat.zero_le _) O O ?_)))))))))))))
 rintro i hi
 refine .seq (.sm Y (.m Y (.q (.slen Y underlying32 Y) Y (.ui Y Y Y (.nt (.condD Y (fun h23 => ?_) (fun h23 => ?_)))))))
 ·have hi2 : i < fs.length := by omega
  obtain ⟨k, ka, kc, hk, hΛ, hWi⟩ := hfs _ (getElem_mem hi2)
  refine .slShape (T := 27) (sz := 1) (v := .slice al fs.length cl) O om fun b1 d1 e0 _ _ => ?_
  simp only [Value.slice.injEq, true_and] at e0
  obtain ⟨rfl, rfl⟩ := e0
  refine .slShape (T := 45) (sz := 1) (v := .slice af fs.length cf) O om fun b2 d2 e0 _ _ => ?_
  simp only [Value.slice.injEq, true_and] at e0
  obtain ⟨rfl, rfl⟩ := e0
  refine .flAt hi2 O (.sk (.seq (.block (.sm Y (.m Y (.q (.indexAddr Y Y ST om) Y (.q (.loadEl (p := AV 27 1 _ fs.length (fs.map fun y => AG y.g)) (i := i * 1) (v := AG fs[i].g) Y B1 O (fun h hp => AE hp) (by rw [Nat.mul_one, List.getElem?_map, List.getElem?_eq_getElem om]; rfl)) Y ?_)))))))
  refine .oq (.c func22 [_, _] (DA fs[i].g fs[i].x fs[i].s.Λ 0 hWi.i)) ?_
  rintro v L' (⟨hz, -, -⟩ | ⟨-, es, hes, hek, a1, c1, rfl, rfl⟩); · exact absurd (show (0 : Int) < 0 from by rw [hΛ] at hz; exact hz) dQ
  refine .m Y (.q (.extract (vs := [(.slice a1 es.length c1), AA 0]) Y Y) Y (.q (.extract (vs := [(.slice a1 es.length c1), AA 0]) Y Y) Y (.a Y (.a Y (.nil ?_)))))
  have he1 : es.map En.pl = (H.take k).map En.pl := by rw [hΛ] at hes; exact hes.trans (Eh (hH.take k) ka kc 0)
  have hel1 : es.length = k := by have := congrArg List.length he1; rw [length_map, length_map, length_take] at this; omega
  obtain ⟨-, hg1⟩ := HT hWi hes
  refine .slAddr (a := a1) (c := c1) O fun hcap1 hadr1 => (.rdBoth (p := AV 42 11 (.slice a1 es.length c1) es.length (es.flatMap BX)) (fun h hp => AE hp) O fun a c e0 hA => ?_)
  simp only [Value.slice.injEq, true_and] at e0
  obtain ⟨rfl, rfl⟩ := e0
  refine .then_n (.seq (.sm Y (.q (.as (v' := .bool false) (by rfl) (.int Y Y Y)) Y (.nt (.condF Y (.sk (.sr (.an Y (.seq (.joinK (ι := Nat) (fun q E => (12, AA q) :: E) (fun q => [BW g x (BO H a c), R5 (.slice a0 es0.length c0) es0, G4 fs[i].f fs[i].g fs[i].Φ, BW fs[i].g fs[i].x fs[i].s.Λ, CX fs[i].x fs[i].d fs[i].s.ω, Bg fs[i].d fs[i].s.δ, Aj G0 (fs.eraseIdx i), AV 42 11 (.slice a1 es.length c1) es.length (es.flatMap BX), Aj entR es, AV 27 1 (.slice (some ⟨b1, 0, none⟩) fs.length cl) fs.length (fs.map fun y => AG y.g), AV 45 1 (.slice (some ⟨b2, 0, none⟩) fs.length cf) fs.length (fs.map fun y => AG y.f)]) (fun q => q ≤ es.length) (pre := [BW g x (BO H a c), R5 (.slice a0 es0.length c0) es0, G4 fs[i].f fs[i].g fs[i].Φ, BW fs[i].g fs[i].x fs[i].s.Λ, CX fs[i].x fs[i].d fs[i].s.ω, Bg fs[i].d fs[i].s.δ, Aj G0 (fs.eraseIdx i), AV 42 11 (.slice a1 es.length c1) es.length (es.flatMap BX), Aj entR es, AV 27 1 (.slice (some ⟨b1, 0, none⟩) fs.length cl) fs.length (fs.map fun y => AG y.g), AV 45 1 (.slice (some ⟨b2, 0, none⟩) fs.length cf) fs.length (fs.map fun y => AG y.f)]) (ts := [1, 2, 7, 9, 10, 11, 20, 21, 22, 23, 26, 27, 28, 29, 30, 31, 32, 33, 34, 35]) O O ?_ ?_))))))))))
  ·refine .block (.loopK (ι := Nat) (fun q E => (12, AA q) :: E) (fun q => []) (fun q => q ≤ es.length) (fun q => es.length - q) (0) (ts := [1, 2, 7, 9, 10, 11, 20, 21, 22, 23, 26, 27, 28, 29, 30, 31, 32, 33, 34, 35]) O (Nat.zero_le _) O O ?_)
   rintro n hn
   refine .seq (.seq (.draw [] [[0, 1, 2, 3, 4, 5, 6, 7, 8, 9, 10, 11, 12, 13, 14, 15, 16]] mixed kQ (.go [AV 42 11 (.slice a1 es.length c1) es.length (es.flatMap BX), AV 45 1 _ fs.length (fs.map fun y => AG y.f), G4 fs[i].f fs[i].g fs[i].Φ] O (.mv Y Y (.mv Y Y (.kv Y (.slen Y underlying60 Y) (.kv Y (.int Y Y Y) (.mv Y Y (.dec (t := 40) Y (fun h11_40 => ?_) (fun h11_40 => ?_))))))))))
   ·have hn2 : n < es.length := by omega
    obtain ⟨bo, oo, rfl⟩ := hA om
    refine D.kDT (t := 39) Y h11_40 (.gv Y (.move Y) (.gv Y (.move Y) (.gv Y (.indexAddr Y Y Fr om) (.gv Y (.fieldAddr Y EH) (.gv Y (.loadRd (sz := 11) (j := n * 11 + 0) (p := AV 42 11 _ es.length (es.flatMap BX)) (v := AA es[n].zx) Y AF O (fun h hp => AE hp) om ((BP (f := BX) (sz := 11) (fun _ => Y) om dQ).trans (by exact rfl))) (.gv Y (.move Y) (.gv Y (.move Y) (.gv Y (.indexAddr Y Y HW om) (.gv Y (.loadEl (p := AV 45 1 _ fs.length (fs.map fun y => AG y.f)) (i := i * 1) (v := AG fs[i].f) Y Ir O (fun h hp => AE hp) (by rw [Nat.mul_one, List.getElem?_map, List.getElem?_eq_getElem om]; rfl)) ?_)))))))))
    refine D.gm (t := 40) Y Y Y kQ (.c func28 [_] (NN fs[i].f fs[i].g fs[i].Φ)) O ?_
    refine D.gv Y (.int Y Y Y) (.kv Y (.pickT Y Y) (.pf (.condD Y (fun h52 => ?_) (fun h52 => ?_))))
    ·refine .sk (.block (.region (.m Y (.q (.add Y Y om) Y (.a Y (.nil (.blk_n (.then_n ?_))))))))
     exact .rk (n + 1) om om O
    refine .xe ?_
    exact .mk (n) om O
   refine D.kDF (t := 39) Y h11_40 (.gz Y (.gz Y (.gz Y (.gz Y (.gz Y (.gz Y (.gz Y (.gz Y (.gz Y (.gz Y (.gz Y (.kv Y (.pickF Y Y) (.pf (.condF Y (.xe ?_)))))))))))))))
   exact .mk (n) om O
  rintro n hn
  refine .seq (.fold (p := R5 (.slice a1 es.length c1) es) (q := [AV 42 11 (.slice a1 es.length c1) es.length (es.flatMap BX), Aj entR es]) O (fun _ h => h) (.draw [] [[0, 1, 2, 3, 4, 5, 6, 7, 8, 9, 10, 11, 12, 13]] mixed kQ (.go [R5 (.slice a1 es.length c1) es, R5 (.slice a0 es0.length c0) es0] O (.mv Y Y (.mv Y Y (.kv Y (.slen Y underlying60 Y) (.kv Y (.as (v' := .bool false) (by exact congrArg Value.bool (decide_eq_false om)) (.int Y Y Y)) (.mv Y Y (.gv Y (.move Y) (.gv Y (.move Y) (.gv Y (.to (v' := .slice a1 (es.take n).length c1) (.slTo (j := (n : Int)) Y Fr Y om hadr1) (by rw [length_take, Nat.min_eq_left hn]; rfl)) (.gv Y (.move Y) (.gv Y (.move Y) (.gv Y (.to (v' := .slice a0 (es0.take n).length c0) (.slTo (j := (n : Int)) Y Fr Y om hadr0) (by rw [length_take, Nat.min_eq_left om]; rfl)) (.gm (t := 59) Y Y Y kQ (.c func27 [_, _] (KH a1 a0 c1 c0 (es.take n) (es0.take n) (R5 (.slice a1 es.length c1) es) (R5 (.slice a0 es0.length c0) es0) (Uk hn) (Uk om) (fun e he => Sq (mem_of_mem_take he) (hek e (mem_of_mem_take he)) (hg1 e (mem_of_mem_take he))) (fun e he => Sq (mem_of_mem_take he) (hek0 e (mem_of_mem_take he)) (hg0 e (mem_of_mem_take he))) (by rw [length_take]; omega) (by rw [map_take, map_take, he1, he0, map_take, take_take, Nat.min_eq_left om]))) O ?_)))))))))))))))
  refine D.gv Y (.not Y) (.kv Y (.pickF Y Y) (.pf (.condF Y (.skip (.blk_n (.then_n (.region (.m Y (.q (.add Y Y om) Y (.an Y (.flSame hi2 O ?_)))))))))))
  exact .rk (i + 1) om om O
 refine .xe (.sr (.an Y (.ret ?_)))
 exact .dn Y Y ⟨Y, Y⟩
/-! ### Lines at the start -/
def Fy (n i : Nat) : List Mx := (List.range i).flatMap fun j : Nat => [(⟨(j : Int) + 1, (n : Int) + 1, []⟩, BK), (⟨(n : Int) + 1, (j : Int) + 1, []⟩, BK)]
theorem Rf (n i : Nat) : Fy n (i + 1) = Fy n i ++ [(⟨(i : Int) + 1, (n : Int) + 1, []⟩, BK), (⟨(n : Int) + 1, (i : Int) + 1, []⟩, BK)] := by
 unfold Fy
 rw [range_succ, flatMap_append]; simp
theorem Tw (n i : Nat) : (Fy n i).length = 2 * i := by
 unfold Fy
 rw [N1 (fun _ _ => rfl), length_range]
theorem VK (n : Nat) : HB (Fy n n) (As n (fun _ => []) (fun _ => [])) := by
 refine ⟨?_, fun r hr => ?_⟩
 ·unfold Fy As
  rw [map_flatMap]; rfl
 ·unfold Fy at hr
  obtain ⟨j, -, hr⟩ := mem_flatMap.1 hr
  simp only [mem_cons, not_mem_nil, or_false] at hr
  rcases hr with rfl | rfl <;> rfl
theorem Xd (n i : Nat) : ∀ h : Hp, Aj Mc (Fy n i) h := K0 fun r hr h => by
 unfold Fy at hr
 obtain ⟨j, -, hr⟩ := mem_flatMap.1 hr
 simp only [mem_cons, not_mem_nil, or_false] at hr
 rcases hr with rfl | rfl <;> exact YE _ _ h
theorem U8 {α : Type} {f : α → HP} {l : List α} {x : α} {h : Hp} (hp : CG [f x, Aj f l] h) : Aj f (l ++ [x]) h := by
 have h1 : (x :: l).Perm (l ++ [x]) := by
  have := perm_append_comm (l₁ := [x]) (l₂ := l)
  exact this
 exact Hc h1 (Fq hp)
section
variable {W : World} {n : Nat} {ds : List Deferred} {E : By} {K R : List HP} {X : Act → World → Prop}
theorem G.flSnoc {fs : List Fl} (y : Fl) (hL : Am [G4 y.f y.g y.Φ, BW y.g y.x y.s.Λ, CX y.x y.d y.s.ω, Bg y.d y.s.δ, Aj G0 fs] K R) (h : G W n ds E (Aj G0 (fs ++ [y]) :: R) X) : G W n ds E K X := by
  cases hL with
  | cons h1 hL => cases hL with
    | cons h2 hL => cases hL with
      | cons h3 hL => cases hL with
        | cons h4 hL =>
          refine G.fold (p := G0 y) (q := flL y) (.cons h1 (.cons h2 (.cons h3 (.cons h4 .nil)))) (fun _ hp => hp) ?_
          exact G.fold (p := Aj G0 (fs ++ [y])) (q := [G0 y, Aj G0 fs]) (.cons .here hL) (fun _ hp => U8 hp) h
theorem G.lqLen {rows : List Mx} {k : Nat} (hk : k < rows.length) (hL : BT (Aj Mc rows) K R) (h : ∀ a c, rows[k].2 = .slice a rows[k].1.l.length c → G W n ds E K X) : G W n ds E K X := by
 intro a w he hkk hs
 have h1 := hs.pick hL
 obtain ⟨g1, e1, p1⟩ := AZ h1
 have h2 := K5 (Hc (Gy hk).symm p1)
 obtain ⟨g2, e2, p2⟩ := AZ h2
 obtain ⟨x, c, hv⟩ := Ji p2
 exact h x c hv a w he hkk hs
theorem G.lqHead {rows : List Mx} {k : Nat} (hk : k < rows.length) (hne : rows[k].1.l.length ≠ 0) (hL : BT (Aj Mc rows) K R) (h : ∀ m Q b off c, rows[k].1.l = m :: Q → rows[k].2 = .slice (some ⟨b, off, none⟩) (Q.length + 1) c → Q.length + 1 ≤ c → G W n ds E (IG 67 19 (.slice (some ⟨b, off, none⟩) (Q.length + 1) c) (Q.length + 1) ((m :: Q).flatMap BF) :: Aj Mc (rows.eraseIdx k) :: R) X) : G W n ds E K X := by
 refine G.lqAt hk hL (G.lqShape .here om fun b off c hv hc => ?_)
 rcases e : rows[k].1.l with _ | ⟨m, Q⟩
 ·rw [e] at hne; exact absurd rfl hne
 ·rw [e] at hv hc
  refine (by rw [hv]; exact h m Q b off c e hv hc : G W n ds E (IG _ 19 rows[k].2 (m :: Q).length ((m :: Q).flatMap BF) :: Aj Mc (rows.eraseIdx k) :: R) X)
theorem G.lqPut {rows : List Mx} {k : Nat} (hk : k < rows.length) (fr to : Int) {m : Ms} {Q : List Ms} {v : Value} (hL : Am [IG 67 19 v Q.length (((m :: Q).flatMap BF).drop 19), Aj Mc (rows.eraseIdx k)] K R) (h : G W n ds E (Aj Mc (rows.set k (⟨fr, to, Q⟩, v)) :: R) X) : G W n ds E K X :=
 G.bigTo (f := Mc) hk (⟨fr, to, Q⟩, v) (by show IG _ 19 v Q.length (((m :: Q).flatMap BF).drop 19) = IG _ 19 v Q.length (Q.flatMap BF); rw [flatMap_cons]; rfl) hL h
end
/-! ### What a follower's words are, once they lie -/
theorem St.outLo {v : Value} {ld : Int} {mq : Option Mo} {q : HP} {L : List HP} {w : World} (h : St (KW v ld mq :: q :: L) w) : ∃ o q2, G8 mq ld q o q2 ∧ St (AV 77 20 v o.length (o.flatMap Ik) :: q2 :: L) w := by
 cases mq with
 | none =>
  refine ⟨[], q, .inl ⟨rfl, rfl, rfl⟩, BS (fun h hp => ?_) h⟩
  rw [show v = BK from hp]; exact Ak _ _ _
 | some m =>
  have h1 : St ((fun h => ∃ mv : Value, CG [KT v ld m mv, Cr mv m.marks] h) :: q :: L) w := BS (fun h ⟨mv, _, hp⟩ => ⟨mv, hp⟩) h
  obtain ⟨mv, h2⟩ := Jv h1
  have h3 : St (KT v ld m mv :: Cr mv m.marks :: q :: L) w := FQ (L1 := [KT v ld m mv, Cr mv m.marks]) h2
  obtain ⟨g1, -, p1⟩ := AZ (Es h3)
  obtain ⟨a, c, hmv⟩ := Hn p1
  refine ⟨[(ld, Zu m mv)], CG [Cr mv m.marks, q], .inr ⟨m, mv, rfl, rfl, rfl, a, c, hmv⟩, ?_⟩
  exact EJ (fun h hp => Ee (L1 := [Cr mv m.marks, q]) hp) h3
section
variable (av ao : Option Addr) (cv co m : Nat) (k : List Lq) (fr : Int)
theorem DS (o : Lo) {rows : List Mx} (hr : HB rows k) (hkm : k.length = m) (ho : o.length ≤ 100) (hk : m ≤ 12) (hc : ∀ x ∈ o, ∀ v ∈ BF x.2, AD v = true) (hq : ∀ r ∈ k, r.l.length ≤ 1000000) : Fn prog 13 #[.slice av m cv, AA fr, .slice ao o.length co] [AV 49 3 (.slice av m cv) m (rows.flatMap B3), Aj Mc rows, AV 77 20 (.slice ao o.length co) o.length (o.flatMap Ik)] fun v K => v = .slice av m cv ∧ K = [Ke (.slice av m cv) (EL fr k o)] := by
 subst hkm
 intro F w hs
 have hs : St (lnL (.slice av k.length cv) rows ++ AV 77 20 (.slice ao o.length co) o.length (o.flatMap Ik) :: F) w := by unfold lnL; rw [DU hr]; exact hs
 have h1 : St ([Ke (.slice av k.length cv) k, AV 77 20 (.slice ao o.length co) o.length (o.flatMap Ik)] ++ F) w := BS (fun _ hp => ⟨rows, hr, hp⟩) (Ee (L1 := lnL (.slice av k.length cv) rows) hs)
 exact (Qr av ao cv co k fr o ho hk hc hq F w h1).mono fun e w' ⟨v, L, ⟨h2, h3⟩, h4, h5, h6⟩ => ⟨v, _, ⟨h2, rfl⟩, h4, by subst h3; exact Es (DL h5), h6⟩
theorem D5 (mq : Option Mo) (ld : Int) (q : HP) {rows : List Mx} (hr : HB rows k) (hkm : k.length = m) (hk : m ≤ 12) (hq : ∀ r ∈ k, r.l.length ≤ 1000000) : Fn prog 13 #[.slice av m cv, AA fr, .slice ao (Tm mq) co] [AV 49 3 (.slice av m cv) m (rows.flatMap B3), Aj Mc rows, KW (.slice ao (Tm mq) co) ld mq, q] fun v K => ∃ o q2, G8 mq ld q o q2 ∧ v = .slice av m cv ∧ K = [Ke (.slice av m cv) (EL fr k o), q2] := by
 intro F w hs
 have h1 : St (KW (.slice ao (Tm mq) co) ld mq :: q :: ([AV 49 3 (.slice av m cv) m (rows.flatMap B3), Aj Mc rows] ++ F)) w := by
  refine C8 ?_ hs
  exact List.Perm.append_right F (List.Perm.append (perm_append_comm (l₁ := [_, _]) (l₂ := [_, _])) (List.Perm.refl []))
 obtain ⟨o, q2, hO, h2⟩ := St.outLo h1
 obtain ⟨hl1, hl2⟩ := hO.len
 have h3 : St ([AV 49 3 (.slice av m cv) m (rows.flatMap B3), Aj Mc rows] ++ (AV 77 20 (.slice ao (Tm mq) co) o.length (o.flatMap Ik) :: q2 :: F)) w := by
  refine C8 ?_ h2
  exact List.Perm.append_right F (perm_append_comm (l₁ := [_, _]) (l₂ := [_, _]))
 rw [← hl1] at h3 ⊢
 exact (DS av ao cv co m k fr o hr hkm om hk hO.cells hq (q2 :: F) w h3).mono fun e w' ⟨v, L, ⟨h4, h5⟩, h6, h7, h8⟩ => ⟨v, _, ⟨o, q2, hO, h4, rfl⟩, h6, by subst h5; exact h7, h8⟩
end
theorem C9.more {n : Nat} {S : Sy} {cv : Nat → Cv} {N C : Int} {M : Nat} (g : C9 n S cv N C M) {N2 C2 : Int} {M2 : Nat} (hN : N ≤ N2) (hC : C ≤ C2) (hM : M ≤ M2) : C9 n S cv N2 C2 M2 :=
 ⟨g.hH, g.hh, g.le, g.ls.more om om, g.len, g.inv, g.st, g.fl, g.fo, g.up, g.dn, by have := g.w; omega⟩
structure Main (n i : Nat) (ff gg : List Nat) (S : Sy) (cv : Nat → Cv) (qt : List Int) : Prop where
 c : C9 n S cv (30000000 + 4000000 * i) (1000 + 2 * i) (400 + 60 * i)
 t : 0 ≤ S.t ∧ S.t ≤ 7
 ql : qt.length = n
 q6 : ∀ j (h : j < qt.length), 0 ≤ qt[j] ∧ qt[j] ≤ 6
 sil : ∀ j (h : j < S.fs.length) (h2 : j < qt.length), S.fs[j].Φ.sil ≤ qt[j]
 ff : S.fs.map (·.f) = ff
 gg : S.fs.map (·.g) = gg
theorem OB {fs : List Fl} {i : Nat} (h : i < fs.length) {y : Fl} (hf : y.f = fs[i].f) (hg : y.g = fs[i].g) : (fs.set i y).map (·.f) = fs.map (·.f) ∧ (fs.set i y).map (·.g) = fs.map (·.g) := by
 constructor
 ·rw [map_set, hf]
  have : fs[i].f = (fs.map (·.f))[i]'(by rw [length_map]; exact h) := by rw [getElem_map]
  rw [this, set_getElem_self]
 ·rw [map_set, hg]
  have : fs[i].g = (fs.map (·.g))[i]'(by rw [length_map]; exact h) := by rw [getElem_map]
  rw [this, set_getElem_self]
section
variable {n i : Nat} {ff gg : List Nat} {S : Sy} {cv : Nat → Cv} {qt : List Int}
theorem Main.next (g : Main n i ff gg S cv qt) : Main n (i + 1) ff gg S cv qt := ⟨g.c.more om om om, g.t, g.ql, g.q6, g.sil, g.ff, g.gg⟩
theorem Main.hear (g : Main n i ff gg S cv qt) {a : Nat} (ha : a < n) (hil : a < S.L.sv.length) {u : Um} {V : List Um} {Q : List Ms} (hU : (cv a).U = u :: V) (hV : Dj S.q Q V) {o2 : Lo} {s2 : Ld} {q2 : HP} (hG : HC S.H S.q (CW Ck S.L a (S.L.sv[a].hrd S.t) u) o2 s2 q2 (30000000 + 4000000 * i) (1000 + 2 * i) 31) :
  ∃ cv2, Main n (i + 1) ff gg ⟨S.H, (CW Ck S.L a (S.L.sv[a].hrd S.t) u).1, S.t, s2, q2, A0 S.U a Q, fun j => S.D j ++ Df ((j : Int) + 1) o2, S.fs⟩ cv2 qt :=
 ⟨_, (⟨g.c.hear ha hil hU hV hG, g.t, g.ql, g.q6, g.sil, g.ff, g.gg⟩ : Main n i ff gg _ _ qt).next⟩
theorem Main.fhear (g : Main n i ff gg S cv qt) {a : Nat} (ha : a < n) (hif : a < S.fs.length) {d : Dn} {V : List Dn} {m : Ms} {Q : List Ms} (hD : (cv a).D = d :: V) (hm : Ka S.H S.q m d) (hV : Dm S.H S.q Q V) {o : Lo} {q2 : HP} (hO : G8 (AX S.fs[a].Φ S.fs[a].s m).2.2 S.fs[a].Φ.ld S.q o q2) :
  (∀ x ∈ o, x.1 = (n : Int) + 1) ∧ ∃ cv2, Main n (i + 1) ff gg ⟨S.H, S.L, S.t, S.sL, q2, A0 S.U a (S.U a ++ o.map (·.2)), A0 S.D a Q, S.fs.set a ⟨S.fs[a].f, S.fs[a].g, S.fs[a].x, S.fs[a].d, (AX S.fs[a].Φ S.fs[a].s m).1, (AX S.fs[a].Φ S.fs[a].s m).2.1⟩⟩ cv2 qt := by
 obtain ⟨F1, w, -, h1, h2, h3⟩ := g.c.fhear ha hif hD hm hV hO
 have hs := OB hif (y := ⟨S.fs[a].f, S.fs[a].g, S.fs[a].x, S.fs[a].d, (AX S.fs[a].Φ S.fs[a].s m).1, (AX S.fs[a].Φ S.fs[a].s m).2.1⟩) rfl rfl
 refine ⟨h1, _, (⟨h2, g.t, g.ql, g.q6, fun j hj hj2 => ?_, hs.1.trans g.ff, hs.2.trans g.gg⟩ : Main n i ff gg _ _ qt).next⟩
 have hj3 : j < S.fs.length := by rw [length_set] at hj; exact hj
 show ((S.fs.set a _)[j]'hj).Φ.sil ≤ _
 rw [getElem_set]
 split
 ·show (AX S.fs[a].Φ S.fs[a].s m).1.sil ≤ _
  rw [h3]; exact (g.q6 j hj2).1
 ·exact g.sil j hj3 hj2
theorem Main.tick (g : Main n i ff gg S cv qt) (ht : S.t < 7) {o2 : Lo} {s2 : Ld} {q2 : HP} {k : Nat} (hG : HC S.H S.q ((Dl Ck S.L).1, KF S.L ++ (Dl Ck S.L).2) o2 s2 q2 (30000000 + 4000000 * i) (1000 + 2 * i) k) :
  ∃ cv2, Main n (i + 1) ff gg ⟨S.H, (Dl Ck S.L).1, S.t + 1, s2, q2, S.U, fun j => S.D j ++ Df ((j : Int) + 1) o2, S.fs⟩ cv2 qt :=
 ⟨_, (g.c.tick hG).more om om om, by have := g.t; exact ⟨by show 0 ≤ S.t + 1; omega, by show S.t + 1 ≤ 7; omega⟩, g.ql, g.q6, g.sil, g.ff, g.gg⟩
theorem Main.ftick (g : Main n i ff gg S cv qt) {a : Nat} (ha : a < n) (hif : a < S.fs.length) (haq : a < qt.length) (h6 : qt[a] < 6) {o : Lo} {q2 : HP} (hO : G8 (Bl S.fs[a].Φ S.fs[a].s []).2 S.fs[a].Φ.ld S.q o q2) :
  (∀ x ∈ o, x.1 = (n : Int) + 1) ∧ ∃ cv2, Main n (i + 1) ff gg ⟨S.H, S.L, S.t, S.sL, q2, A0 S.U a (S.U a ++ o.map (·.2)), S.D, S.fs.set a ⟨S.fs[a].f, S.fs[a].g, S.fs[a].x, S.fs[a].d, (Bl S.fs[a].Φ S.fs[a].s []).1, S.fs[a].s⟩⟩ cv2 (qt.set a (qt[a] + 1)) := by
 have hsl := g.sil a hif haq
 obtain ⟨cv2, h1, h2, h3⟩ := g.c.ftick ha hif om hO
 have hs := OB hif (y := ⟨S.fs[a].f, S.fs[a].g, S.fs[a].x, S.fs[a].d, (Bl S.fs[a].Φ S.fs[a].s []).1, S.fs[a].s⟩) rfl rfl
 refine ⟨h1, cv2, h2.more om om om, g.t, by rw [length_set]; exact g.ql, fun j hj => ?_, fun j hj hj2 => ?_, hs.1.trans g.ff, hs.2.trans g.gg⟩
 ·have hj3 : j < qt.length := by rw [length_set] at hj; exact hj
  rw [getElem_set]
  split
  ·have := g.q6 a haq; omega
  ·exact g.q6 j hj3
 ·have hj3 : j < S.fs.length := by rw [length_set] at hj; exact hj
  have hj4 : j < qt.length := by rw [length_set] at hj2; exact hj2
  show ((S.fs.set a _)[j]'hj).Φ.sil ≤ (qt.set a (qt[a] + 1))[j]
  rw [getElem_set, getElem_set]
  by_cases e : a = j
  ·rw [if_pos e, if_pos e]
   show (Bl S.fs[a].Φ S.fs[a].s []).1.sil ≤ _
   omega
  ·rw [if_neg e, if_neg e]; exact g.sil j hj3 hj4
theorem Main.prop (g : Main n i ff gg S cv qt) (hn : 1 ≤ n) {R : La × Ou} {H2 : List En} (hH2 : Hz H2) (hR : R = (S.L, []) ∧ H2 = S.H ∨ S.L.ph = 3 ∧ R = KI Ck S.L ∧ ∃ e, H2 = S.H ++ [e]) {o2 : Lo} {s2 : Ld} {q2 : HP} {k : Nat} (hG : HC H2 S.q R o2 s2 q2 (30000000 + 4000000 * i + 4000000) (1000 + 2 * i + 2) k) :
  ∃ cv2, Main n (i + 1) ff gg ⟨H2, R.1, S.t, s2, q2, S.U, fun j => S.D j ++ Df ((j : Int) + 1) o2, S.fs⟩ cv2 qt :=
 ⟨_, (g.c.prop hn hH2 hR hG).more om om om, g.t, g.ql, g.q6, g.sil, g.ff, g.gg⟩
end
/-! ### In the end -/
structure Dr (n k r : Nat) (ff gg : List Nat) (S : Sy) (cv : Nat → Cv) : Prop where
 c : C9 n S cv 2000000000 2000 20000
 ff : S.fs.map (·.f) = ff
 gg : S.fs.map (·.g) = gg
 b : Np cv (fun j => if 2 * j < k then 9 - r else 10 - r) (fun j => if 2 * j + 1 < k then 9 - r else 10 - r)
section
variable {n k r i : Nat} {ff gg : List Nat} {S : Sy} {cv : Nat → Cv}
theorem Main.dr {qt : List Int} (g : Main n i ff gg S cv qt) (hi : i ≤ 300) : Dr n 0 0 ff gg S cv :=
 ⟨g.c.more om om om, g.ff, g.gg, (Np.all cv).mono (fun j => by (try dsimp only); split <;> omega) (fun j => by (try dsimp only); split <;> omega)⟩
theorem Dr.hear (g : Dr n (2 * i) r ff gg S cv) (ha : i < n) (hil : i < S.L.sv.length) {u : Um} {V : List Um} {Q : List Ms} (hU : (cv i).U = u :: V) (hV : Dj S.q Q V) {o2 : Lo} {s2 : Ld} {q2 : HP} (hG : HC S.H S.q (CW Ck S.L i (S.L.sv[i].hrd S.t) u) o2 s2 q2 2000000000 2000 31) :
  ∃ cv2, Dr n (2 * i) r ff gg ⟨S.H, (CW Ck S.L i (S.L.sv[i].hrd S.t) u).1, S.t, s2, q2, A0 S.U i Q, fun j => S.D j ++ Df ((j : Int) + 1) o2, S.fs⟩ cv2 := by
 refine ⟨_, g.c.hear ha hil hU hV hG, g.ff, g.gg, ?_⟩
 have hu := g.b.U i u (by rw [hU]; exact mem_cons_self ..)
 try dsimp only at hu
 rw [if_neg om] at hu
 exact g.b.hear g.c.inv g.c.st hil hU S.t (R := 9 - r) om (fun j => by (try dsimp only); split <;> omega)
theorem Dr.fhear (g : Dr n (2 * i + 1) r ff gg S cv) (ha : i < n) (hif : i < S.fs.length) {d : Dn} {V : List Dn} {m : Ms} {Q : List Ms} (hD : (cv i).D = d :: V) (hm : Ka S.H S.q m d) (hV : Dm S.H S.q Q V) {o : Lo} {q2 : HP} (hO : G8 (AX S.fs[i].Φ S.fs[i].s m).2.2 S.fs[i].Φ.ld S.q o q2) :
  (∀ x ∈ o, x.1 = (n : Int) + 1) ∧ ∃ cv2, Dr n (2 * i + 1) r ff gg ⟨S.H, S.L, S.t, S.sL, q2, A0 S.U i (S.U i ++ o.map (·.2)), A0 S.D i Q, S.fs.set i ⟨S.fs[i].f, S.fs[i].g, S.fs[i].x, S.fs[i].d, (AX S.fs[i].Φ S.fs[i].s m).1, (AX S.fs[i].Φ S.fs[i].s m).2.1⟩⟩ cv2 := by
 obtain ⟨F1, w, ha1, h1, h2, h3⟩ := g.c.fhear ha hif hD hm hV hO
 have hs := OB hif (y := ⟨S.fs[i].f, S.fs[i].g, S.fs[i].x, S.fs[i].d, (AX S.fs[i].Φ S.fs[i].s m).1, (AX S.fs[i].Φ S.fs[i].s m).2.1⟩) rfl rfl
 refine ⟨h1, _, h2, hs.1.trans g.ff, hs.2.trans g.gg, ?_⟩
 have hu := g.b.D i d (by rw [hD]; exact mem_cons_self ..)
 try dsimp only at hu
 rw [if_neg om] at hu
 exact g.b.fhear hD ha1 (R := 9 - r) om (fun j => by (try dsimp only); split <;> omega)
theorem Dr.doneU (g : Dr n (2 * i) r ff gg S cv) (ha : i < n) (hU : S.U i = []) : Dr n (2 * i + 1) r ff gg S cv := by
 refine ⟨g.c, g.ff, g.gg, fun j u hu => ?_, fun j d hd => ?_⟩
 ·have hb := g.b.U j u hu
  have he := g.c.up i ha
  rw [hU] at he
  have he := he.nil
  try dsimp only at hb ⊢
  by_cases e : j = i
  ·subst e; rw [he] at hu; cases hu
  ·split at hb
   ·rw [if_pos om]; exact hb
   ·rw [if_neg om]; exact hb
 ·have hb := g.b.D j d hd
  try dsimp only at hb ⊢
  split at hb
  ·rw [if_pos om]; exact hb
  ·rw [if_neg om]; exact hb
theorem Dr.doneD (g : Dr n (2 * i + 1) r ff gg S cv) (ha : i < n) (hD : S.D i = []) : Dr n (2 * i + 2) r ff gg S cv := by
 refine ⟨g.c, g.ff, g.gg, fun j u hu => ?_, fun j d hd => ?_⟩
 ·have hb := g.b.U j u hu
  try dsimp only at hb ⊢
  split at hb
  ·rw [if_pos om]; exact hb
  ·rw [if_neg om]; exact hb
 ·have hb := g.b.D j d hd
  have he := g.c.dn i ha
  rw [hD] at he
  have he := he.nil
  try dsimp only at hb ⊢
  by_cases e : j = i
  ·subst e; rw [he] at hd; cases hd
  ·split at hb
   ·rw [if_pos om]; exact hb
   ·rw [if_neg om]; exact hb
theorem Dr.round (g : Dr n (2 * n) r ff gg S cv) : ∃ cv2, Dr n 0 (r + 1) ff gg S cv2 := by
 refine ⟨fun j => if j < n then cv j else ⟨⟨0, 0, 0⟩, [], []⟩, ⟨g.c.hH, g.c.hh, g.c.le, g.c.ls, g.c.len, ⟨g.c.inv.ids, fun j hj => ?_, g.c.inv.h4, g.c.inv.com, g.c.inv.ph⟩, g.c.st, g.c.fl, fun j hj => ?_, fun j hj => ?_, fun j hj => ?_, ?_⟩, g.ff, g.gg, fun j u hu => ?_, fun j d hd => ?_⟩
 ·rw [if_pos (by have := g.c.len; omega)]; exact g.c.inv.conv j hj
 ·rw [if_pos (by have := g.c.fl; omega)]; exact g.c.fo j hj
 ·rw [if_pos hj]; exact g.c.up j hj
 ·rw [if_pos hj]; exact g.c.dn j hj
 ·have h := g.c.w
  have e : G7 n (fun j => if j < n then cv j else ⟨⟨0, 0, 0⟩, [], []⟩) ≤ G7 n cv := Sc n fun j hj => by dsimp only; rw [if_pos hj]; exact Nat.le_refl _
  omega
 ·try dsimp only at hu ⊢
  by_cases e : j < n
  ·rw [if_pos e] at hu
   have hb := g.b.U j u hu
   try dsimp only at hb
   rw [if_pos om] at hb
   split <;> omega
  ·rw [if_neg e] at hu; cases hu
 ·try dsimp only at hd ⊢
  by_cases e : j < n
  ·rw [if_pos e] at hd
   have hb := g.b.D j d hd
   try dsimp only at hb
   rw [if_pos om] at hb
   split <;> omega
  ·rw [if_neg e] at hd; cases hd
theorem Dr.all (g : Dr n 0 400 ff gg S cv) (hn : 1 ≤ n) : S.L.ph = 3 ∧ S.L.com = zt S.H.length ∧ ∀ j (h : j < S.fs.length), S.fs[j].Φ.ph = 3 ∧ S.fs[j].Φ.com = zt S.H.length ∧ ∃ ka kc, S.fs[j].s.Λ = BO S.H ka kc ∧ Iq S.fs[j].s.Λ := by
 have h0 : ∀ j, j < S.L.sv.length → (cv j).U = [] ∧ (cv j).D = [] := fun j _ => by
  constructor
  ·rcases e : (cv j).U with _ | ⟨u, V⟩
   ·rfl
   ·have hb := g.b.U j u (by rw [e]; exact mem_cons_self ..)
    try dsimp only at hb
    split at hb <;> omega
  ·rcases e : (cv j).D with _ | ⟨u, V⟩
   ·rfl
   ·have hb := g.b.D j u (by rw [e]; exact mem_cons_self ..)
    try dsimp only at hb
    split at hb <;> omega
 obtain ⟨h1, h2, h3⟩ := Ty RF g.c.inv g.c.st (by rw [g.c.len]; exact hn) h0
 refine ⟨h1, by rw [h2, g.c.hh], fun j hj => ?_⟩
 obtain ⟨y1, y2, y3⟩ := h3 j (by rw [g.c.len, ← g.c.fl]; exact hj)
 obtain ⟨hf, -⟩ := g.c.fo j hj
 have h4 := hf.lg.Λ
 rw [y2, g.c.hh, take_length] at h4
 exact ⟨hf.ph.trans y1, by rw [hf.com, y3, h2, g.c.hh], _, _, h4, hf.lg.w.w⟩
end
theorem C9.lps {n : Nat} {S : Sy} {cv : Nat → Cv} {N C : Int} {M : Nat} (g : C9 n S cv N C M) {i : Nat} (h : i < S.fs.length) : GU S.fs[i].s 4000000000 := by
 obtain ⟨hf, -⟩ := g.fo i h
 have hr := hf.rng
 have hk := hf.k
 have hfew := g.hH.few
 have hw := hf.lg.w
 have h1 : NF + 600000000 * (cv i).F.ph + 4000000 * ((cv i).F.k : Int) ≤ 4000000000 := by unfold NF; omega
 exact GU.more ⟨WK.of (hw.well.i om) hw.well.acts, hw.w, hw.a, hw.b⟩ h1
theorem C9.fwi {n : Nat} {S : Sy} {cv : Nat → Cv} {N C : Int} {M : Nat} (g : C9 n S cv N C M) {i : Nat} (h : i < S.fs.length) (hs : S.fs[i].Φ.sil ≤ 7) : FwI S.fs[i].Φ 0 := by
 obtain ⟨hf, h0⟩ := g.fo i h
 exact ⟨.inr ⟨h0, hs⟩, by rw [hf.heard]; exact Nat.zero_le _⟩
theorem C9.lgh {n : Nat} {S : Sy} {cv : Nat → Cv} {N C : Int} {M : Nat} (g : C9 n S cv N C M) : S.sL.Λ = BO S.H (if S.L.ph = 0 then 1 else 2) (if S.L.ph ≤ 1 then 1 else 2) ∧ Iq (BO S.H (if S.L.ph = 0 then 1 else 2) (if S.L.ph ≤ 1 then 1 else 2)) := by
 have h := Em.Λ g.ls
 exact ⟨h, by rw [← h]; exact (Em.w g.ls).w⟩
theorem Ts {n i : Nat} {U : Nat → List Ms} {q : HP} (h1 : ∀ j, j < i → Dj q (U j) [.info]) (h2 : ∀ j, i ≤ j → U j = []) : ∀ r ∈ As n U (fun _ => []), r.l.length ≤ 1000000 := fun r hr => by
 unfold As at hr
 obtain ⟨j, -, hr⟩ := mem_flatMap.1 hr
 simp only [mem_cons, not_mem_nil, or_false] at hr
 rcases hr with rfl | rfl
 ·show (U j).length ≤ 1000000
  by_cases e : j < i
  ·have := (h1 j e).len; rw [this]; decide
  ·rw [h2 j om]; exact Nat.zero_le _
 ·exact Nat.zero_le _
theorem Kv {i : Nat} {U : Nat → List Ms} {q q2 : HP} (h1 : ∀ j, j < i → Dj q (U j) [.info]) (h2 : ∀ j, i ≤ j → U j = []) {mq : Option Mo} {ld : Int} {o : Lo} (hO : G8 mq ld q o q2) (hom : mq = some (Mb .info)) : (∀ j, j < i + 1 → Dj q2 (A0 U i (U i ++ o.map (·.2)) j) [.info]) ∧ ∀ j, i + 1 ≤ j → A0 U i (U i ++ o.map (·.2)) j = [] := by
 have h3 := hO.words (w := [.info]) hom (Nat.le_refl _) (fun u hu z e => by rw [mem_singleton] at hu; rw [hu] at e; cases e)
 refine ⟨fun j hj => ?_, fun j hj => ?_⟩
 ·unfold A0
  by_cases e : j = i
  ·subst e
   rw [if_pos rfl, h2 j (Nat.le_refl _)]; exact h3
  ·rw [if_neg e]; exact (h1 j om).grow hO.grow
 ·unfold A0
  rw [if_neg om]; exact h2 j om
theorem Wy {n a M : Nat} {U D : Nat → List Ms} (ha : a < n) {m : Ms} {Q : List Ms} (hQ : U a = m :: Q) (h : ∀ r ∈ As n U D, r.l.length ≤ M) (hM : M ≤ 1000000) : ∀ r ∈ As n (A0 U a Q) D, r.l.length ≤ 1000000 := fun r hr => by
 rw [← Hr U D ha Q] at hr
 rcases mem_or_eq_of_mem_set hr with e | e
 ·exact Nat.le_trans (h r e) hM
 ·have h1 := h ((As n U D)[2 * a]'(by rw [AL]; omega)) (getElem_mem _)
  rw [EM ha] at h1
  have h1 : (U a).length ≤ M := h1
  rw [hQ] at h1
  rw [e]
  show Q.length ≤ 1000000
  rw [length_cons] at h1; omega
theorem VZ {n a M : Nat} {U D : Nat → List Ms} (ha : a < n) {m : Ms} {Q : List Ms} (hQ : D a = m :: Q) (h : ∀ r ∈ As n U D, r.l.length ≤ M) (hM : M ≤ 1000000) : ∀ r ∈ As n U (A0 D a Q), r.l.length ≤ 1000000 := fun r hr => by
 rw [← Hl U D ha Q] at hr
 rcases mem_or_eq_of_mem_set hr with e | e
 ·exact Nat.le_trans (h r e) hM
 ·have h1 := h ((As n U D)[2 * a + 1]'(by rw [AL]; omega)) (getElem_mem _)
  rw [D9 ha] at h1
  have h1 : (D a).length ≤ M := h1
  rw [hQ] at h1
  rw [e]
  show Q.length ≤ 1000000
  rw [length_cons] at h1; omega
theorem NV {n : Nat} {s : Ld} {H : List En} {N C : Int} (h : Em s H 1 1 N C) : E2 (Qv ((n : Int) + 1)) s = some (Mb .info) := by
 unfold E2
 rw [if_neg (by show ¬ (0 : Int) = 4; decide), h.Λ]; rfl
theorem Ov (ld : Int) (s0 s1 s2 s3 s4 s5 s6 s7 s8 s9 s10 s11 s12 s13 s14 s15 s16 s17 s18 : Value) : Instr.fill (fun i => [(0, 1), (1, 19)].toArray[i]?) ([.int .i64 0, .int .i64 0, .int .i64 0, .int .i64 0, .int .i64 0, .int .i64 0, .slice none 0 0, .string (bs []), .slice none 0 0, .int .i64 0, .int .i64 0, .string (bs []), .string (bs []), .slice none 0 0, .int .i64 0, .int .i64 0, .bool false, .slice none 0 0, .slice none 0 0, .slice none 0 0] : List Value).toArray [(0, AA ld), (1, .agg ([s0, s1, s2, s3, s4, s5, s6, s7, s8, s9, s10, s11, s12, s13, s14, s15, s16, s17, s18] : List Value).toArray)] = some ((AA ld :: [s0, s1, s2, s3, s4, s5, s6, s7, s8, s9, s10, s11, s12, s13, s14, s15, s16, s17, s18] : List Value).toArray) := by kernel_rfl
theorem UO (n g : Nat) (hn : 1 ≤ n ∧ n ≤ 6) : Fn prog 12 #[AA ((n : Int) + 1), AA ((n : Int) + 1), AG g] [] fun v K => ∃ b ob oc, v = AG b ∧ K = [Dg b g ob oc (L0 n) 0 []] := by
 refine Fn.intro func12 Y Y fun F W => ?_
 refine .sr (.an Y (.sm Y (.m Y (.m Y (.q (.build (us := [(0, _), (1, _), (2, _)]) Za ZN Y Y (by simp [AD])) Y (.oq (.box Y) ?_))))))
 rintro v L' ⟨b, rfl, rfl⟩
 refine .a Y (.nil (.ptCast (b := b) (l' := [AA ((n : Int) + 1), AA ((n : Int) + 1), AG g, AA 0, AA 0, AA 0, AA 0, AA 0, BK, BK]) O (by exact rfl) (.add (p := AV 103 8 BK 0 []) (Ak 103 8) (.then_n (.seq (.sr (.an Y (.block (.loopK (ι := Nat × Value) (fun q E => (8, AA ((q.1 : Int) + 1)) :: E) (fun q => [Ar b [AA ((n : Int) + 1), AA ((n : Int) + 1), AG g, AA 0, AA 0, AA 0, AA 0, AA 0, q.2, BK] 101, AV 103 8 q.2 (min q.1 n) ((GK (min q.1 n)).flatMap Cb)]) (fun q => q.1 ≤ n + 1 ∧ ∃ a c, q.2 = .slice a (min q.1 n) c) (fun q => n + 1 - q.1) (0, BK) (ts := [0, 1, 6, 7]) O (⟨Nat.zero_le _, none, 0, by rw [Nat.zero_min]⟩) O O ?_)))))))))
 rintro ⟨i, u⟩ ⟨hi, au, cu, hu⟩
 dsimp only
 dsimp only at hi hu
 subst hu
 refine .seq (.sm Y (.m Y (.ui Y Y Y (.nt (.condD Y (fun h16 => ?_) (fun h16 => ?_))))))
 ·refine .sk (.seq (.block (.sm Y (.m Y (.ui Y Y Y (.nt (.condN Y (fun h21 => ?_) (fun h21 => ?_))))))))
  ·have hin : i < n := by omega
   refine .region (.m Y (.m Y (.nf Y CH (.u (.ld Y F6) (.m Y (.q (.to (v' := .agg (Cb (Yq ((i : Int) + 1), BK)).toArray) (.build (us := [(0, _), (5, _)]) ZS HE Y Y (by simp [AD])) Y) Y (.oq (.buildSlice (vs := [_]) G1 HE Y Y Y Y cQ dQ) ?_)))))))
   rintro v L' ⟨b6, rfl, rfl⟩
   refine .oq (.append1 Y Y Y G1 HE Y Y ?c24 ?c25 (Nat.le_refl _) ?c26 dQ) ?_
   case c24 => simp only [map_cons, map_nil, flatten_cons, flatten_nil, append_nil]; simp only [Value.cells]; exact FL rfl
   case c25 => rfl
   case c26 => omega
   rintro v L' ⟨⟨a6, c6, rfl⟩, rfl⟩
   refine .nf Y CH (.st Y Y Y AAd ?_)
   refine .nil (.blk_n (.then_n (.region (.m Y (.q (.add Y Y om) Y (.an Y ?_))))))
   rw [Nat.min_eq_left (show i ≤ n by omega)]
   refine .slCast (T := 103) (sz := 8) (m' := min (i + 1) n) (xs' := (GK (min (i + 1) n)).flatMap Cb) O om (by rw [Nat.min_eq_left (show i + 1 ≤ n by omega), Rx, flatMap_append]; simp [Cb, Yq, Value.cells]) (.ptCast (b := b) (l' := [AA ((n : Int) + 1), AA ((n : Int) + 1), AG g, AA 0, AA 0, AA 0, AA 0, AA 0, (.slice a6 (i + 1) c6), BK]) O (by exact rfl) ?_)
   exact .rk ((i + 1, .slice a6 (i + 1) c6)) (⟨by dsimp only; omega, _, _, by dsimp only; rw [Nat.min_eq_left (show i + 1 ≤ n by omega)]⟩) (by dsimp only; omega) O
  refine .skip (.blk_n (.then_n (.region (.m Y (.q (.add Y Y om) Y (.an Y (.slCast (T := 103) (sz := 8) (m' := min (i + 1) n) (xs' := (GK (min (i + 1) n)).flatMap Cb) O om (by rw [show min (i + 1) n = min i n by omega]) ?_)))))))
  exact .rk ((i + 1, .slice au (min i n) cu)) (⟨by dsimp only; omega, _, _, by dsimp only; rw [show min (i + 1) n = min i n by omega]⟩) (by dsimp only; omega) O
 have hie : min i n = n := by omega
 rw [hie]
 refine .slShape (T := 103) (sz := 8) (v := .slice au n cu) (xs := (GK n).flatMap Cb) O om fun ob oc e0 mb _ => ?_
 simp only [Value.slice.injEq, true_and] at e0
 obtain ⟨rfl, rfl⟩ := e0
 refine .add (p := Aj HR (GK n)) (Xl n) (.add (p := AV 77 20 BK 0 []) (Ak 77 20) (.leFold (b := b) (g := g) (ob := ob) (oc := cu) (ov := BK) (rows := GK n) (L0 n) 0 [] (W0 n) O (by unfold GX; rw [NZ]; rfl) (NZ n).symm Y Y Y (.xe (.sm Y (.an Y (.ret ?_))))))
 exact .dn Y Y ⟨b, ob, cu, Y, Y⟩
theorem UB (b g ob oc : Nat) (L : La) (t : Int) (o : Lo) : Fn prog 24 #[AG b] [Dg b g ob oc L t o] fun v K => v = AA L.com ∧ K = [Dg b g ob oc L t o] := by
 refine Fn.intro func24 Y Y fun F W => ?_
 refine .leOpen (b := b) (g := g) (ob := ob) (oc := oc) (L := L) (t := t) (o := o) O fun rows ov hr => ?_
 have hrl := AQ hr
 refine .sr (.an Y (.sm Y (.nf Y FP (.u (.ld Y AF) (.an Y (.ret (.leFold (b := b) (g := g) (ob := ob) (oc := oc) (ov := _) (rows := rows) L t o hr O (by exact rfl) (by exact rfl) (by exact rfl) (by exact rfl) (by exact rfl) ?_)))))))
 exact .dn Y Y ⟨Y, Y⟩
theorem VM (b g ob oc : Nat) (L : La) (t : Int) (o : Lo) : Fn prog 23 #[AG b] [Dg b g ob oc L t o] fun v K => v = .bool (decide (L.ph = 3)) ∧ K = [Dg b g ob oc L t o] := by
 refine Fn.intro func23 Y Y fun F W => ?_
 refine .leOpen (b := b) (g := g) (ob := ob) (oc := oc) (L := L) (t := t) (o := o) O fun rows ov hr => ?_
 have hrl := AQ hr
 refine .sr (.an Y (.sm Y (.nf Y BR (.u (.ld Y AF) (.ui Y Y Y (.an Y (.ret (.leFold (b := b) (g := g) (ob := ob) (oc := oc) (ov := _) (rows := rows) L t o hr O (by exact rfl) (by exact rfl) (by exact rfl) (by exact rfl) (by exact rfl) ?_))))))))
 exact .dn Y Y ⟨Y, Y⟩
theorem Q2 (b g ob oc : Nat) (L : La) (t : Int) (o : Lo) : Fn prog 20 #[AG b] [Dg b g ob oc L t o] fun v K => v = .bool (decide (L.ph = 4)) ∧ K = [Dg b g ob oc L t o] := by
 refine Fn.intro func20 Y Y fun F W => ?_
 refine .leOpen (b := b) (g := g) (ob := ob) (oc := oc) (L := L) (t := t) (o := o) O fun rows ov hr => ?_
 have hrl := AQ hr
 refine .sr (.an Y (.sm Y (.nf Y BR (.u (.ld Y AF) (.ui Y Y Y (.an Y (.ret (.leFold (b := b) (g := g) (ob := ob) (oc := oc) (ov := _) (rows := rows) L t o hr O (by exact rfl) (by exact rfl) (by exact rfl) (by exact rfl) (by exact rfl) ?_))))))))
 exact .dn Y Y ⟨Y, Y⟩
theorem GO (b : Nat) : Fn prog 48 #[AG b, AA 0] [] fun v K => v = .bool true ∧ K = [] := by
 refine Fn.intro func48 Y Y fun F W => ?_
 refine .sr (.an Y (.seq (.sm Y (.q (.as (v' := .bool false) (by rfl) (.int Y Y Y)) Y (.nt (.condF Y (.sk (.sm Y (.q (.as (v' := .bool true) (by rfl) (.int Y Y Y)) Y (.an Y (.ret ?_)))))))))))
 exact .dn Y Y ⟨Y, Y⟩
theorem QB (b g ob oc : Nat) (L : La) (t : Int) (o : Lo) (i : Nat) (hi : i < L.sv.length) (hn : L.sv.length ≤ 6) (hids : ∀ j (h : j < L.sv.length), L.sv[j].id = (j : Int) + 1) : Fn prog 49 #[AG b, AA ((i : Int) + 1)] [Dg b g ob oc L t o] fun v K => v = .pointer (some ⟨ob, i * 8, none⟩) ∧ K = [Dg b g ob oc L t o] := by
 refine Fn.intro func49 Y Y fun F W => ?_
 refine .leOpen (b := b) (g := g) (ob := ob) (oc := oc) (L := L) (t := t) (o := o) O fun rows ov hr => ?_
 have hrl := AQ hr
 refine .sr (.an Y (.seq (.sm Y (.nf Y CH (.u (.ld Y F6) (.q (.slen Y underlying99 Y) Y (.m Y (.nt (.block (.loopK (ι := Nat) (fun q E => (11, AA q) :: E) (fun q => []) (fun q => q ≤ i) (fun q => i - q) (0) (ts := [0, 1, 10]) O (Nat.zero_le _) O O ?_))))))))))
 rintro j hj
 refine .sr (.ui Y Y Y (.nt (.seq (.condD Y (fun h12 => ?_) (fun h12 => ?_)))))
 ·have hjl : j < rows.length := by omega
  have hid := hids j om
  rw [← DI hr hjl om] at hid
  refine .sk (.seq (.block (.sm Y (.an Y (.sm Y (.nf Y CH (.u (.ld Y F6) (.m Y (.q (.indexAddr Y Y G1 om) Y (.fa Y GE (.q (.loadRd (sz := 8) (j := j * 8 + 0) (p := AV 103 8 (.slice (some ⟨ob, 0, none⟩) L.sv.length oc) L.sv.length (rows.flatMap Cb)) (v := AA rows[j].1.id) Y AF O (fun h hp => AE hp) om ((FT om dQ).trans (by exact rfl))) Y (.m Y (.ui Y Y Y (.nt (.condD Y (fun h23 => ?_) (fun h23 => ?_))))))))))))))))
  ·have hji : j = i := by rw [hid] at h23; omega
   subst hji
   refine .sm Y (.nf Y CH (.u (.ld Y F6) (.m Y (.q (.indexAddr Y Y G1 om) Y (.an Y (.ret (.blk_r (.then_r (.then_r (.blk_r (.then_r (.leFold (b := b) (g := g) (ob := ob) (oc := oc) (ov := _) (rows := rows) L t o hr O (by exact rfl) (by exact rfl) (by exact rfl) (by exact rfl) (by exact rfl) ?_))))))))))))
   exact .dn Y Y ⟨by simp, rfl⟩
  have hji : j < i := by rw [hid] at h23; omega
  refine .skip (.blk_n (.then_n (.region (.q (.add Y Y om) Y (.m Y (.nt ?_))))))
  exact .rk (j + 1) om om O
 exact absurd h12 om
theorem Mm (b g ob oc : Nat) (L : La) (t : Int) (o : Lo) (to : Int) (m : Ms) (hm : ∀ v ∈ BF m, AD v = true) (ho : o.length ≤ 1000) : Fn prog 52 #[AG b, AA to, .agg (BF m).toArray] [Dg b g ob oc L t o] fun v K => v = .tuple #[] ∧ K = [Dg b g ob oc L t (o ++ [(to, m)])] := by
 refine Fn.intro func52 Y Y fun F W => ?_
 refine .leOpen (b := b) (g := g) (ob := ob) (oc := oc) (L := L) (t := t) (o := o) O fun rows ov hr => ?_
 have hrl := AQ hr
 refine .slAny (v := ov) O fun ao co eo _ => ?_
 subst eo
 refine .sr (.oq (.box Y) ?_)
 rintro v L' ⟨bm, rfl, rfl⟩
 refine .nil (.ptCast (b := bm) (l' := BF m) O (by exact rfl) (.then_n (.draw [8, 9, 12] [[0, 1, 2, 3, 4, 5, 6, 7, 8, 9], [10, 11, 12]] mixed kQ (.go [Ar bm _ _, Ar b _ _] O (.k Y (.move Y) (.k Y (.move Y) (.k Y (.nilp Y) (.k Y (.fieldAddr Y GI) (.k Y (.ld Y WU) (.mv Y Y (.kv Y (.loadAs (vs := BF m) Y DJ O (by simp [BF]) Y) (.kv Y (.to (v' := .agg (Ik (to, m)).toArray) (.buildN (pl := [(0, 1), (1, 19)]) (us := [(0, AA to), (1, .agg (BF m).toArray)]) (cells := Ik (to, m)) underlying77 kQ J9 Y (Ov _ _ _ _ _ _ _ _ _ _ _ _ _ _ _ _ _ _ _ _)) Y) (.hh Y (.buildSlice (vs := [_]) G6 J9 Y Y Y Y cQ dQ) ?_)))))))))))))
 rintro v L' ⟨b6, rfl, rfl⟩
 refine D.hh Y (.append1 Y Y Y G6 J9 Y Y ?c13 ?c14 (Nat.le_refl _) ?c15 dQ) ?_
 case c13 => simp only [map_cons, map_nil, flatten_cons, flatten_nil, append_nil]; simp only [Value.cells]; exact NC hm
 case c14 => rfl
 case c15 => omega
 rintro v L' ⟨⟨a6, c6, rfl⟩, rfl⟩
 refine D.ph (.g0 (.nf Y Y Y GI (.hh Y (.store Y Y Y VC ?c20 (Bk _ _)) ?_)))
 case c20 => simp [GX]
 rintro v L' rfl
 refine D.ph (.fin (.slCast (T := 77) (sz := 20) (m' := (o ++ [(to, m)]).length) (xs' := (o ++ [(to, m)]).flatMap Ik) O (by rw [length_append]; rfl) (by rw [flatMap_append]; simp [Value.cells]) (.done_n (.leFold (b := b) (g := g) (ob := ob) (oc := oc) (ov := _) (rows := rows) L t (o ++ [(to, m)]) hr O (by exact rfl) (by exact rfl) (by exact rfl) (by exact rfl) (by exact rfl) ?_))))
 exact .dn Y Y ⟨Y, Y⟩
theorem Gb (b g ob oc : Nat) (L : La) (t : Int) (o : Lo) (ov : Value) (to : Int) (m : Ms) (hm : ∀ v ∈ BF m, AD v = true) (ho : o.length ≤ 1000) : Fn prog 52 #[AG b, AA to, .agg (BF m).toArray] [Ar b (GX g ob oc L t ov) 101, AV 77 20 ov o.length (o.flatMap Ik)] fun v K => ∃ ov2, v = .tuple #[] ∧ K = [Ar b (GX g ob oc L t ov2) 101, AV 77 20 ov2 (o ++ [(to, m)]).length ((o ++ [(to, m)]).flatMap Ik)] := by
 refine Fn.intro func52 Y Y fun F W => ?_
 refine .slAny (v := ov) O fun ao co eo _ => ?_
 subst eo
 refine .sr (.oq (.box Y) ?_)
 rintro v L' ⟨bm, rfl, rfl⟩
 refine .nil (.ptCast (b := bm) (l' := BF m) O (by exact rfl) (.then_n (.draw [8, 9, 12] [[0, 1, 2, 3, 4, 5, 6, 7, 8, 9], [10, 11, 12]] mixed kQ (.go [Ar bm _ _, Ar b _ _] O (.k Y (.move Y) (.k Y (.move Y) (.k Y (.nilp Y) (.k Y (.fieldAddr Y GI) (.k Y (.ld Y WU) (.mv Y Y (.kv Y (.loadAs (vs := BF m) Y DJ O (by simp [BF]) Y) (.kv Y (.to (v' := .agg (Ik (to, m)).toArray) (.buildN (pl := [(0, 1), (1, 19)]) (us := [(0, AA to), (1, .agg (BF m).toArray)]) (cells := Ik (to, m)) underlying77 kQ J9 Y (Ov _ _ _ _ _ _ _ _ _ _ _ _ _ _ _ _ _ _ _ _)) Y) (.hh Y (.buildSlice (vs := [_]) G6 J9 Y Y Y Y cQ dQ) ?_)))))))))))))
 rintro v L' ⟨b6, rfl, rfl⟩
 refine D.hh Y (.append1 Y Y Y G6 J9 Y Y ?c13 ?c14 (Nat.le_refl _) ?c15 dQ) ?_
 case c13 => simp only [map_cons, map_nil, flatten_cons, flatten_nil, append_nil]; simp only [Value.cells]; exact NC hm
 case c14 => rfl
 case c15 => omega
 rintro v L' ⟨⟨a6, c6, rfl⟩, rfl⟩
 refine D.ph (.g0 (.nf Y Y Y GI (.hh Y (.store Y Y Y VC ?c20 (Bk _ _)) ?_)))
 case c20 => simp [GX]
 rintro v L' rfl
 refine D.ph (.fin (.slCast (T := 77) (sz := 20) (m' := (o ++ [(to, m)]).length) (xs' := (o ++ [(to, m)]).flatMap Ik) O (by rw [length_append]; rfl) (by rw [flatMap_append]; simp [Value.cells]) (.done_n (.ptCast (b := b) (l' := GX g ob oc L t (.slice a6 (o.length + 1) c6)) O (by exact rfl) ?_))))
 exact .dn Y Y ⟨_, Y, Y⟩
theorem Gv (b g ob oc : Nat) (L : La) (t : Int) (o : Lo) (st : Int) (m : Ms) (hm : ∀ v ∈ BF m, AD v = true) (hn : L.sv.length ≤ 6) (ho : o.length ≤ 900) : Fn prog 42 #[AG b, AA st, .agg (BF m).toArray] [Dg b g ob oc L t o] fun v K => v = .tuple #[] ∧ K = [Dg b g ob oc L t (o ++ CQ L.sv st m)] := by
 refine Fn.intro func42 Y Y fun F W => ?_
 refine .leOpen (b := b) (g := g) (ob := ob) (oc := oc) (L := L) (t := t) (o := o) O fun rows ov hr => ?_
 have hrl := AQ hr
 refine .sr (.oq (.box Y) ?_)
 rintro v L' ⟨bm, rfl, rfl⟩
 refine .nil (.ptCast (b := bm) (l' := BF m) O (by exact rfl) (.then_n (.sm Y (.nf Y CH (.u (.ld Y F6) (.q (.slen Y underlying99 Y) Y (.m Y (.nil (.leFold (b := b) (g := g) (ob := ob) (oc := oc) (ov := _) (rows := rows) L t o hr O (by exact rfl) (by exact rfl) (by exact rfl) (by exact rfl) (by exact rfl) (.leCast (L' := L) (o' := (o ++ CQ (L.sv.take 0) st m)) O Y (by rw [take_zero]; exact (append_nil o).symm) (.then_n (.block (.loopK (ι := Nat) (fun q E => (13, AA q) :: E) (fun q => [Dg b g ob oc L t (o ++ CQ (L.sv.take q) st m)]) (fun q => q ≤ L.sv.length) (fun q => L.sv.length - q) (0) (ts := [0, 1, 5, 11, 12]) O (Nat.zero_le _) O O ?_)))))))))))))
 rintro i hi
 refine .sr (.ui Y Y Y (.nt (.seq (.condD Y (fun h14 => ?_) (fun h14 => ?_)))))
 ·have hi2 : i < L.sv.length := by omega
  refine .leOpen (b := b) (g := g) (ob := ob) (oc := oc) (L := L) (t := t) (o := (o ++ CQ (L.sv.take i) st m)) O fun rows ov hr => ?_
  have hrl := AQ hr
  have hir : i < rows.length := by omega
  have hra := DI hr hir hi2
  have htl : (CQ (L.sv.take i) st m).length ≤ 6 := by unfold CQ; rw [length_map]; exact Nat.le_trans (length_filter_le _ _) (by rw [length_take]; omega)
  refine .sk (.seq (.block (.sr (.q (.indexAddr Y Y G1 om) Y (.q (.loadRdA (sz := 8) (j := i * 8) (k := 8) (p := AV 103 8 (.slice (some ⟨ob, 0, none⟩) L.sv.length oc) L.sv.length (rows.flatMap Cb)) (vs := Cb rows[i]) Y MR O (fun h hp => AE hp) (by simp [Cb]) om om (BE (f := Cb) (sz := 8) (fun _ _ => Y) om)) Y (.oq (.allocA HE) ?_))))))
  rintro v L' ⟨b7, rfl, rfl⟩
  refine .sa Y Y LY (by exact FL (hr.cell _ (getElem_mem hir))) ?_
  refine .nil (.ptCast (b := b7) (l' := Cb rows[i]) O (by exact rfl) (.leFold (b := b) (g := g) (ob := ob) (oc := oc) (ov := _) (rows := rows) L t (o ++ CQ (L.sv.take i) st m) hr O (by exact rfl) (by exact rfl) (by exact rfl) (by exact rfl) (by exact rfl) (.then_n (.sr (.fa Y B6 (.q (.to (v' := AA L.sv[i].st) (.load Y AF O (by exact rfl)) (by rw [← hra])) Y (.m Y (.ui Y Y Y (.nt (.condD Y (fun h20 => ?_) (fun h20 => ?_)))))))))))
  ·refine .region (.m Y (.fa Y GE (.q (.to (v' := AA L.sv[i].id) (.load Y AF O (by exact rfl)) (by rw [← hra])) Y (.q (.loadAs (vs := BF m) Y DJ O (by simp [BF]) Y) Y (.cv func52 [_, _, _] (Mm b g ob oc L t (o ++ CQ (L.sv.take i) st m) L.sv[i].id m hm (by rw [length_append]; omega)) ?_)))))
   refine .nil (.blk_n (.then_n (.region (.q (.add Y Y om) Y (.m Y (.nt (.leCast (L' := L) (o' := (o ++ CQ (L.sv.take (i + 1)) st m)) O Y (by rw [S1 _ _ _ hi2, if_pos om, append_assoc]) ?_)))))))
   exact .rk (i + 1) om om O
  refine .skip (.blk_n (.then_n (.region (.q (.add Y Y om) Y (.m Y (.nt (.leCast (L' := L) (o' := (o ++ CQ (L.sv.take (i + 1)) st m)) O Y (by rw [S1 _ _ _ hi2, if_neg om, append_nil]) ?_)))))))
  exact .rk (i + 1) om om O
 have hie : i = L.sv.length := by omega
 subst hie
 rw [take_length]
 refine .exit (.then_e (.then_e (.blk_e (.done_n ?_))))
 exact .dn Y Y ⟨Y, Y⟩
theorem Ny : Fn prog 82 #[.slice none 0 0] [AV 77 20 (.slice none 0 0) 0 []] fun u L => u = .slice none 0 0 ∧ L = [AV 77 20 u 0 []] := by
 refine Fn.intro func82 Y Y fun F W => ?_
 refine .sr (.an Y (.sm Y (.m Y (.q (.slen Y underlying53 Y) Y (.m Y (.q (.slen Y underlying53 Y) Y (.q (.clip (n := 0) Y G6 Y Y (Nat.le_refl _) (.inl Y)) Y (.an Y (.ret ?_)))))))))
 exact .dn Y Y ⟨Y, Y⟩
theorem OT (b n c : Nat) (hc : n ≤ c) (xs : List Value) : Fn prog 82 #[.slice (some ⟨b, 0, none⟩) n c] [AV 77 20 (.slice (some ⟨b, 0, none⟩) n c) n xs] fun u L => u = .slice (some ⟨b, 0, none⟩) n n ∧ L = [AV 77 20 u n xs] := by
 refine Fn.intro func82 Y Y fun F W => ?_
 refine .sr (.an Y (.sm Y (.m Y (.q (.slen Y underlying53 Y) Y (.m Y (.q (.slen Y underlying53 Y) Y (.q (.clip (n := n) Y G6 Y Y hc (.inr ⟨_, _, Y⟩)) Y (.an Y (.ret (.slClip O ?_))))))))))
 exact .dn Y Y ⟨Y, Y⟩
theorem Ph (v : Value) (n : Nat) (xs : List Value) : Fn prog 82 #[v] [AV 77 20 v n xs] fun u L => (∃ a c, u = .slice a n c) ∧ L = [AV 77 20 u n xs] := by
 intro F w hs
 obtain ⟨g1, -, hp⟩ := AZ hs
 rcases hp with ⟨rfl, rfl, rfl⟩ | ⟨b, cap, rest, fr, rfl, -, -, -, h4, -⟩
 ·exact (Ny F w hs).mono fun e w' ⟨u, L, ⟨h1, h2⟩, h3⟩ => ⟨u, L, ⟨⟨_, _, h1⟩, h2⟩, h3⟩
 ·exact (OT b n cap h4 xs F w hs).mono fun e w' ⟨u, L, ⟨h1, h2⟩, h3⟩ => ⟨u, L, ⟨⟨_, _, h1⟩, h2⟩, h3⟩
theorem IY (b g ob oc : Nat) (L : La) (t : Int) (o : Lo) : Fn prog 44 #[AG b] [Dg b g ob oc L t o] fun v K => ∃ a c, v = .slice a o.length c ∧ K = [Dg b g ob oc L t [], AV 77 20 v o.length (o.flatMap Ik)] := by
 refine Fn.intro func44 Y Y fun F W => ?_
 refine .leOpen (b := b) (g := g) (ob := ob) (oc := oc) (L := L) (t := t) (o := o) O fun rows ov hr => ?_
 have hrl := AQ hr
 refine .slAny (v := ov) O fun ao co eo _ => ?_
 subst eo
 refine .sr (.an Y (.sm Y (.nf Y GI (.u (.ld Y WU) (.oq (.c func82 [_] (Ph _ o.length (o.flatMap Ik))) ?_)))))
 rintro v L' ⟨⟨a8, c8, rfl⟩, rfl⟩
 refine .an Y (.sm Y (.nf Y GI (.oq (.store Y Y Y VC ?c11 (Bk _ _)) ?_)))
 case c11 => simp [GX]
 rintro v L' rfl
 refine .nt (.sm Y (.an Y (.ret (.add (p := AV 77 20 BK 0 []) (Ak 77 20) (.leFold (b := b) (g := g) (ob := ob) (oc := oc) (ov := BK) (rows := rows) L t [] hr O (by exact rfl) (by exact rfl) (by exact rfl) (by exact rfl) (by exact rfl) ?_)))))
 exact .dn Y Y ⟨_, _, Y, Y⟩
theorem Jo (b g ob oc : Nat) (L : La) (t : Int) (o : Lo) (st : Int) (hn : L.sv.length ≤ 6) : Fn prog 78 #[AG b, AA st] [Dg b g ob oc L t o] fun v K => v = .bool (Cq L st) ∧ K = [Dg b g ob oc L t o] := by
 refine Fn.intro func78 Y Y fun F W => ?_
 refine .leOpen (b := b) (g := g) (ob := ob) (oc := oc) (L := L) (t := t) (o := o) O fun rows ov hr => ?_
 have hrl := AQ hr
 refine .sr (.an Y (.sr (.an Y (.seq (.sm Y (.nf Y CH (.u (.ld Y F6) (.q (.slen Y underlying99 Y) Y (.m Y (.nil (.leFold (b := b) (g := g) (ob := ob) (oc := oc) (ov := _) (rows := rows) L t o hr O (by exact rfl) (by exact rfl) (by exact rfl) (by exact rfl) (by exact rfl) (.then_n (.block (.loopK (ι := Nat) (fun q E => (13, AA q) :: (5, AA ((Eu (L.sv.take q) st : Int) + 1)) :: E) (fun q => [Dg b g ob oc L t o]) (fun q => q ≤ L.sv.length) (fun q => L.sv.length - q) (0) (ts := [0, 1, 4, 11, 12]) O (Nat.zero_le _) O O ?_))))))))))))))
 rintro i hi
 refine .sr (.ui Y Y Y (.nt (.seq (.condD Y (fun h14 => ?_) (fun h14 => ?_)))))
 ·have hi2 : i < L.sv.length := by omega
  refine .leOpen (b := b) (g := g) (ob := ob) (oc := oc) (L := L) (t := t) (o := o) O fun rows ov hr => ?_
  have hrl := AQ hr
  have hir : i < rows.length := by omega
  have hra := DI hr hir hi2
  have hql := SX (L.sv.take i) st
  rw [length_take] at hql
  refine .sk (.seq (.block (.sr (.q (.indexAddr Y Y G1 om) Y (.q (.loadRdA (sz := 8) (j := i * 8) (k := 8) (p := AV 103 8 (.slice (some ⟨ob, 0, none⟩) L.sv.length oc) L.sv.length (rows.flatMap Cb)) (vs := Cb rows[i]) Y MR O (fun h hp => AE hp) (by simp [Cb]) om om (BE (f := Cb) (sz := 8) (fun _ _ => Y) om)) Y (.oq (.allocA HE) ?_))))))
  rintro v L' ⟨b7, rfl, rfl⟩
  refine .sa Y Y LY (by exact FL (hr.cell _ (getElem_mem hir))) ?_
  refine .nil (.ptCast (b := b7) (l' := Cb rows[i]) O (by exact rfl) (.leFold (b := b) (g := g) (ob := ob) (oc := oc) (ov := _) (rows := rows) L t o hr O (by exact rfl) (by exact rfl) (by exact rfl) (by exact rfl) (by exact rfl) (.then_n (.sr (.fa Y B6 (.q (.to (v' := AA L.sv[i].st) (.load Y AF O (by exact rfl)) (by rw [← hra])) Y (.m Y (.ui Y Y Y (.m Y (.dec (t := 21) Y (fun h5_21 => ?_) (fun h5_21 => ?_)))))))))))
  ·refine .kDT (t := 20) Y h5_21 (.gr (.m Y (.gr (.ui Y Y Y (.gr (.m Y (.ndec (t := 24) Y (fun h5_24 => ?_) (fun h5_24 => ?_))))))))
   ·refine .kNT (t := 23) Y h5_24 (.gk (.gk (.gr (.pT Y Y (.pT Y Y (.nt (.condT Y (.region (.m Y (.q (.add Y Y om) Y (.a Y (.nil (.blk_n (.then_n (.region (.q (.add Y Y om) Y (.m Y (.nt ?_))))))))))))))))))
    have hq : Eu (L.sv.take (i + 1)) st = Eu (L.sv.take i) st + 1 := by rw [OY _ _ hi2, if_pos (by simp_all)]
    rw [show (Eu (L.sv.take i) st : Int) + 1 + 1 = (Eu (L.sv.take (i + 1)) st : Int) + 1 by rw [hq]; rfl]
    exact .rk (i + 1) om om O
   refine .kNF (t := 23) Y h5_24 (.gr (.fa Y JK (.gr (.q (.to (v' := .bool L.sv[i].cnt) (.load Y FV O (by exact rfl)) (by rw [← hra])) Y (.gr (.pF Y Y (.pT Y Y (.nt (.condB Y (fun h28 => ?_) (fun h28 => ?_))))))))))
   ·refine .region (.m Y (.q (.add Y Y om) Y (.a Y (.nil (.blk_n (.then_n (.region (.q (.add Y Y om) Y (.m Y (.nt ?_))))))))))
    have hq : Eu (L.sv.take (i + 1)) st = Eu (L.sv.take i) st + 1 := by rw [OY _ _ hi2, if_pos (by simp_all)]
    rw [show (Eu (L.sv.take i) st : Int) + 1 + 1 = (Eu (L.sv.take (i + 1)) st : Int) + 1 by rw [hq]; rfl]
    exact .rk (i + 1) om om O
   refine .skip (.blk_n (.then_n (.region (.q (.add Y Y om) Y (.m Y (.nt ?_))))))
   have hq : Eu (L.sv.take (i + 1)) st = Eu (L.sv.take i) st := by rw [OY _ _ hi2, if_neg (by simp_all), Nat.add_zero]
   rw [← hq]
   exact .rk (i + 1) om om O
  refine .kDF (t := 20) Y h5_21 (.gk (.gk (.gk (.gn (.gn (.gk (.pF Y Y (.nt (.condF Y (.skip (.blk_n (.then_n (.region (.q (.add Y Y om) Y (.m Y (.nt ?_))))))))))))))))
  have hq : Eu (L.sv.take (i + 1)) st = Eu (L.sv.take i) st := by rw [OY _ _ hi2, if_neg (by simp_all), Nat.add_zero]
  rw [← hq]
  exact .rk (i + 1) om om O
 have hie : i = L.sv.length := by omega
 subst hie
 rw [take_length]
 refine .leOpen (b := b) (g := g) (ob := ob) (oc := oc) (L := L) (t := t) (o := o) O fun rows ov hr => ?_
 have hrl := AQ hr
 have hql := SX L.sv st
 have hdv : ((L.sv.length : Int) + 1).tdiv 2 = (((L.sv.length + 1) / 2 : Nat) : Int) := by rw [Int.tdiv_eq_ediv_of_nonneg om]; omega
 refine .xe (.sm Y (.m Y (.nf Y QX (.u (.ld Y AF) (.q (.quo Y Y dQ om) Y (.ui Y Y Y (.an Y (.ret (.leFold (b := b) (g := g) (ob := ob) (oc := oc) (ov := _) (rows := rows) L t o hr O (by exact rfl) (by exact rfl) (by exact rfl) (by exact rfl) (by exact rfl) ?_)))))))))
 exact .dn Y Y ⟨by unfold Cq; congr 1; apply decide_eq_decide.2; omega, rfl⟩
theorem Nl (b g ob oc : Nat) (L : La) (t : Int) (o : Lo) (ov : Value) (x : Nat) (Λ : Lg) (hΛ : SR Λ) (hml : (A3 Λ).length ≤ 1000) (hmi : ∀ z ∈ A3 Λ, I64 z) (mv : Value) (fs : List Int) (p : HP) (hp : ∀ h : Hp, p h → B5 1 h mv fs.length (Aq fs)) (hfl : fs.length ≤ 1000) (hfi : ∀ z ∈ fs, I64 z) : Fn prog 135 #[AG b, mv] [Ar b (GX g ob oc L t ov) 101, BW g x Λ, p] fun v K => v = AA (Kh (A3 Λ) fs) ∧ K = [Ar b (GX g ob oc L t ov) 101, BW g x Λ, p] := by
 refine Fn.intro func135 Y Y fun F W => ?_
 refine .rdAny (p := p) hp O fun am cm e _ => ?_
 subst e
 refine .sr (.an Y (.sr (.an Y (.seq (.sm Y (.nf Y Bv (.u (.ld Y B1) (.oq (.c func88 [_] (Hg g x Λ hΛ)) ?_))))))))
 rintro v L' ⟨a14, c14, rfl, rfl⟩; obtain ⟨ms, hms⟩ : ∃ ms, (A3 Λ) = ms := ⟨_, rfl⟩; rw [hms] at hml hmi ⊢
 refine .q (.slen Y underlying22 Y) Y (.m Y (.nt (.block (.loopK (ι := Nat) (fun q E => (16, AA q) :: (5, AA (HG ms fs q)) :: E) (fun q => []) (fun q => q ≤ ms.length) (fun q => ms.length - q) (0) (ts := [1, 4, 14, 15]) O (Nat.zero_le _) O O ?_))))
 rintro i hi
 refine .sr (.ui Y Y Y (.nt (.seq (.condD Y (fun h17 => ?_) (fun h17 => ?_)))))
 ·have hi2 : i < ms.length := by omega
  have hmz := hmi _ (getElem_mem hi2)
  refine .slShape (T := 3) (sz := 1) (v := .slice a14 ms.length c14) (xs := Aq ms) O om fun bs bs2 e0 _ _ => ?_
  simp only [Value.slice.injEq, true_and] at e0
  obtain ⟨rfl, rfl⟩ := e0
  refine .sk (.seq (.block (.sr (.q (.indexAddr Y Y BC om) Y (.q (.loadEl (p := Cr _ ms) (i := i * 1) (v := AA ms[i]) Y AF O (fun h hp => AE hp) (by simp [Aq])) Y (.an Y (.sm Y (.q (.slen Y underlying22 Y) Y (.m Y (.nt (.block (.loopK (ι := Nat) (fun q E => (22, AA q) :: (5, AA ((fs.take q).foldl (G5 ms[i]) (HG ms fs i))) :: E) (fun q => []) (fun q => q ≤ fs.length) (fun q => fs.length - q) (0) (ts := [1, 4, 7, 14, 15, 16, 17, 18, 19, 20, 21]) O (Nat.zero_le _) O O ?_))))))))))))
  rintro k hk
  refine .sr (.ui Y Y Y (.nt (.seq (.condD Y (fun h23 => ?_) (fun h23 => ?_)))))
  ·have hk2 : k < fs.length := by omega
   have hfz := hfi _ (getElem_mem hk2)
   refine .rdShape (p := p) hp O om fun bf of e => ?_
   subst e
   refine .sk (.seq (.block (.sr (.q (.indexAddr Y Y BC om) Y (.q (.loadEl (p := p) (i := k * 1) (v := AA fs[k]) Y AF O hp (by simp [Aq])) Y (.an Y (.sm Y (.q (.quo Y Y dQ (NM hfz)) Y (.m Y (.q (.quo Y Y dQ (NM hmz)) Y (.ui Y Y Y (.nt (.condD Y (fun h30 => ?_) (fun h30 => ?_))))))))))))))
   ·refine .region (.m Y (.m Y (.m Y (.u (.min2 Y Y) (.u (.max2 Y Y) (.a Y (.nil (.blk_n (.then_n (.region (.q (.add Y Y om) Y (.m Y (.nt ?_)))))))))))))
    rw [show max ((fs.take k).foldl (G5 ms[i]) (HG ms fs i)) (min fs[k] ms[i]) = (fs.take (k + 1)).foldl (G5 ms[i]) (HG ms fs i) by rw [WG hk2]; unfold G5; rw [if_pos h30]]
    exact .rk (k + 1) om om O
   refine .skip (.blk_n (.then_n (.region (.q (.add Y Y om) Y (.m Y (.nt ?_))))))
   rw [show ((fs.take k).foldl (G5 ms[i]) (HG ms fs i)) = (fs.take (k + 1)).foldl (G5 ms[i]) (HG ms fs i) by rw [WG hk2]; unfold G5; rw [if_neg h30]]
   exact .rk (k + 1) om om O
  have hke : k = fs.length := by omega
  subst hke
  rw [take_length]
  refine .exit (.then_e (.then_e (.blk_e (.blk_n (.then_n (.region (.q (.add Y Y om) Y (.m Y (.nt ?_)))))))))
  rw [← Wu hi2]
  exact .rk (i + 1) om om O
 have hie : i = ms.length := by omega
 subst hie
 rw [YU, ← hms]
 refine .xe (.sm Y (.an Y (.ret ?_)))
 exact .dn Y Y ⟨Y, Y⟩
theorem L5 (b g ob oc : Nat) (L : La) (t : Int) (o : Lo) (ov : Value) (x : Nat) (Λ : Lg) (hΛ : SR Λ) (hml : (A3 Λ).length ≤ 1000) (hmi : ∀ z ∈ A3 Λ, I64 z) (mv : Value) (fs : List Int) (p : HP) (hp : ∀ h : Hp, p h → B5 1 h mv fs.length (Aq fs)) (hfl : fs.length ≤ 1000) (hfi : ∀ z ∈ fs, I64 z) : Fn prog 135 #[AG b, mv] ([Ar b (GX g ob oc L t ov) 101] ++ [BW g x Λ, p]) fun v K => ∃ K', K = [Ar b (GX g ob oc L t ov) 101] ++ K' ∧ (v = AA (Kh (A3 Λ) fs) ∧ K' = [BW g x Λ, p]) :=
 (Nl b g ob oc L t o ov x Λ hΛ hml hmi mv fs p hp hfl hfi).mono fun v K ⟨h1, h2⟩ => ⟨_, h2, h1, rfl⟩
theorem UH {H : List En} (hH : Hz H) (h4 : 4 ≤ H.length) (a c : Int) : (A3 (BO H a c)).length ≤ 1000 := by
 have hm := Gc hH a c (H.length - 4) om
 rw [show 4 + (H.length - 4) = H.length by omega, take_length] at hm
 rw [hm]
 split <;> simp
theorem HF (b g ob oc : Nat) (L : La) (t : Int) (o : Lo) (x : Nat) (H : List En) (a c : Int) (hH : Hz H) (hW : Iq (BO H a c)) (hh : L.h = H.length) (h4 : 4 ≤ L.h) (hp : L.ph = 2 ∨ L.ph = 3) (i : Nat) (hi : i < L.sv.length) (k : Nat) (hk : k ≤ 4) (hmk : L.sv[i].marks = AS k) (hn : L.sv.length ≤ 6) (ho : o.length ≤ 900) (q : HP) : Fn prog 87 #[AG b, .pointer (some ⟨ob, i * 8, none⟩)] [Dg b g ob oc L t o, BW g x (BO H a c), q] fun v K => ∃ q2 m, v = .tuple #[] ∧ CI q q2 ∧ Ka H q2 m (.sync (zt k) L.h) ∧ K = [Dg b g ob oc (L.set i (L.sv[i].sent (zt L.h))) t (o ++ [(L.sv[i].id, m)]), BW g x (BO H a c), q2] := by
 refine Fn.intro func87 Y Y fun F W => ?_
 have hLI := hW.i
 have hml : (A3 (BO H a c)).length ≤ 1000 := UH hH om a c
 have hmi := Ll hH om a c
 have hep : Qi L = 2 := by unfold Qi; rw [if_neg om]
 refine .leOpen (b := b) (g := g) (ob := ob) (oc := oc) (L := L) (t := t) (o := o) O fun rows ov hr => ?_
 have hrl := AQ hr
 have hir : i < rows.length := by omega
 have hra := DI hr hir hi
 refine .bigAt (f := HR) (i := i) hir O ?_
 have hpm : ∀ h : Hp, HR rows[i] h → B5 1 h rows[i].2 (AS k).length (Aq (AS k)) := fun h hp => by rw [← hmk, ← hra]; exact AE hp
 have hmf : (AS k).length ≤ 1000 := by unfold AS; split <;> simp
 have hmz : ∀ z ∈ AS k, I64 z := by unfold AS; split <;> intro z hz; cases hz; rw [mem_singleton] at hz; rw [hz]; exact FU om
 refine .seq (.draw [9, 11, 12] [[0, 1, 2, 3, 4, 5, 6, 7, 8, 9, 10, 11], [12]] mixed kQ (.go [Ar b _ _, AV 103 8 _ _ _] O (.k Y (.move Y) (.k Y (.nilp Y) (.k Y (.fieldAddr Y EB) (.k Y (.to (v' := AA 2) (.load Y AF O (by exact rfl)) (by rw [hep])) (.k Y (.move Y) (.k Y (.move Y) (.k Y (.nilp Y) (.k Y (.fieldAddr Y LP) (.k Y (.loadRd (sz := 8) (j := i * 8 + 7) (p := AV 103 8 (.slice (some ⟨ob, 0, none⟩) L.sv.length oc) L.sv.length (rows.flatMap Cb)) (v := rows[i].2) Y DM O (fun h hp => AE hp) om ((FT om dQ).trans (by exact rfl))) (.h2R (k := 11) Y Y kQ Y (Eo.ro [Ar b (GX g ob oc L t ov) 101] (.c func135 [_, _] (L5 b g ob oc L t o ov x (BO H a c) hLI hml hmi rows[i].2 (AS k) (HR rows[i]) hpm hmf hmz)) O) O (Eo.own (.allocA CO)) O ?_ ?_))))))))))))
 ·rintro v L' ⟨rfl, rfl⟩; rw [KG hH om a c hk]
  refine D.k Y (.to (v' := .agg (BF (FK 4 2 (zt k))).toArray) (.buildN (pl := [(0, 1), (1, 1), (2, 1), (3, 1), (4, 1), (5, 1), (6, 1), (7, 1), (8, 10), (18, 1)]) (us := [(0, _), (1, _), (2, _)]) (cells := BF (FK 4 2 (zt k))) underlying67 kQ CO Y Y) Y) (.hh Y (.allocA CO) ?_)
  rintro v L' ⟨b4, rfl, rfl⟩
  refine D.ph (.g0 (.sa Y Y Y J1 (by exact CT rfl) ?_))
  refine D.ph (.fin (.ptCast (b := b4) (l' := BF (FK 4 2 (zt k))) O (by exact rfl) (.then_n (.seq (.sm Y (.nf Y Bv (.u (.ld Y B1) (.cv func136 [_] (K8 g x (BO H a c)) ?_))))))))
  refine .an Y (.sr (.fa Y Cx (.u (.ld Y AF) (.m Y (.q (.as (v' := .bool false) (by exact congrArg Value.bool (decide_eq_false (by have := Co k; show ¬ zt k < 0; omega))) (.int Y Y Y)) Y (.nt (.condF Y (.sk (.seq (.draw [6] [[0, 1, 2, 3, 4, 5, 6], [7, 8, 9, 10, 11]] mixed kQ (.g0 (.mv Y Y (.nf Y Y Y Bv (.kv Y (.ld Y B1) (.kv Y (.fieldAddr Y Cx) (.kv Y (.ld Y AF) (.hh Y (.c func22 [_, _] (DA g x (BO H a c) (zt k) hLI)) ?_)))))))))))))))))
  rintro v L' (⟨hz, -, -⟩ | ⟨-, es, hes, hek, ae, ce, rfl, rfl⟩); · exact absurd hz (by have := Co k; show ¬ zt k < 0; omega)
  refine D.ph (.g0 (.mv Y Y (.kv Y (.extract Y Y) (.kv Y (.as (v' := AA 0) (by rfl) (.extract Y Y)) (.kv Y (.assign Y) (.kv Y (.assign Y) (.pf (.seq (.sm Y (.m Y (.cv func48 [_, _] (GO b) ?_)))))))))))
  refine .u (.not Y) (.nt (.condF Y (.sk (.sm Y (.fa Y Dq (.oq (.store Y Y Y Ym ?c45 (Bk _ _)) ?_))))))
  case c45 => simp [BF]
  rintro v L' rfl
  refine .nil (.ptCast (b := b4) (l' := BF (MW 4 2 (zt k) (.slice ae es.length ce) es)) O (by exact rfl) (.then_n (.sm Y (.m Y (.m Y (.nf Y Bv (.u (.ld Y B1) (.oq (.c func25 [_] (B2 g x (BO H a c) hLI)) ?_))))))))
  rintro v L' ⟨rfl, rfl⟩; rw [D4 hH a c, ← hh]
  refine .nf Y B6 (.oq (.storeRd (sz := 8) (j := i * 8 + 1) Y Y Y BV ?ho58 ?hi59) ?_)
  case ho58 => omega
  case hi59 => omega
  rintro v L' rfl
  refine .slCast (T := 103) (sz := 8) (m' := L.sv.length) (xs' := (rows.set i (L.sv[i].to 4, rows[i].2)).flatMap Cb) O Y (FB hir dQ (by rw [← hra]; rfl)) (.nf Y MS (.oq (.storeRd (sz := 8) (j := i * 8 + 4) Y Y Y BV ?ho63 ?hi64) ?_))
  case ho63 => omega
  case hi64 => omega
  rintro v L' rfl
  refine .nil (.slCast (T := 103) (sz := 8) (m' := L.sv.length) (xs' := (rows.set i (L.sv[i].sent (zt L.h), rows[i].2)).flatMap Cb) O Y (EK hir dQ Y) (.then_n (.draw [6] [[0, 1, 2, 3, 4, 5, 6]] mixed kQ (.g0 (.mv Y Y (.mv Y Y (.nf Y Y Y GE (.kv Y (.loadRd (sz := 8) (j := i * 8 + 0) (p := AV 103 8 (.slice (some ⟨ob, 0, none⟩) L.sv.length oc) L.sv.length ((rows.set i (L.sv[i].sent (zt L.h), rows[i].2)).flatMap Cb)) (v := AA L.sv[i].id) Y AF O (fun h hp => AE hp) om ((FT (by simpa using hir) dQ).trans (by rw [getElem_set_self]; rfl))) (.kv Y (.loadAs (vs := BF (MW 4 2 (zt k) (.slice ae es.length ce) es)) Y DJ O (by simp [BF]) Y) (.hh Y (.c func52 [_, _, _] (Gb b g ob oc L t o ov L.sv[i].id (MW 4 2 (zt k) (.slice ae es.length ce) es) (CT Y) om)) ?_))))))))))
  rintro v L' ⟨ov2, rfl, rfl⟩
  refine D.ph (.fin (.done_n (.bigTo (f := HR) (l := rows) (i := i) hir (L.sv[i].sent (zt L.h), rows[i].2) (p := HR rows[i]) (by unfold HR; rw [hra]; rfl) O (.fold (p := J4 (.slice ae es.length ce) es q) (q := [AV 42 11 (.slice ae es.length ce) es.length (es.flatMap BX), Aj entR es, q]) O (fun _ h => h) (.leFold (b := b) (g := g) (ob := ob) (oc := oc) (ov := ov2) (rows := (rows.set i (L.sv[i].sent (zt L.h), rows[i].2))) (L.set i (L.sv[i].sent (zt L.h))) t (o ++ [(L.sv[i].id, (MW 4 2 (zt k) (.slice ae es.length ce) es))]) (hr.set i (hr.cell _ (getElem_mem hir))) O (by unfold GX; rw [L.set_len]; rfl) (L.set_len _ _).symm (by exact rfl) (by exact rfl) (by exact rfl) ?_)))))
  exact .dn Y Y ⟨J4 (.slice ae es.length ce) es q, (MW 4 2 (zt k) (.slice ae es.length ce) es), Y, Kq _ _ _, by rw [hh]; exact WS hH hW hk hes hek, rfl⟩
 rintro v L' ⟨b4, rfl, rfl⟩
 refine D.hR Y kQ (Eo.ro [Ar b (GX g ob oc L t ov) 101] (.c func135 [_, _] (L5 b g ob oc L t o ov x (BO H a c) hLI hml hmi rows[i].2 (AS k) (HR rows[i]) hpm hmf hmz)) O) O ?_
 rintro v L' ⟨rfl, rfl⟩; rw [KG hH om a c hk]
 refine D.kv Y (.to (v' := .agg (BF (FK 4 2 (zt k))).toArray) (.buildN (pl := [(0, 1), (1, 1), (2, 1), (3, 1), (4, 1), (5, 1), (6, 1), (7, 1), (8, 10), (18, 1)]) (us := [(0, _), (1, _), (2, _)]) (cells := BF (FK 4 2 (zt k))) underlying67 kQ CO Y Y) Y) (.ph (.g0 (.sa Y Y Y J1 (by exact CT rfl) ?_)))
 refine D.ph (.fin (.ptCast (b := b4) (l' := BF (FK 4 2 (zt k))) O (by exact rfl) (.then_n (.seq (.sm Y (.nf Y Bv (.u (.ld Y B1) (.cv func136 [_] (K8 g x (BO H a c)) ?_))))))))
 refine .an Y (.sr (.fa Y Cx (.u (.ld Y AF) (.m Y (.q (.as (v' := .bool false) (by exact congrArg Value.bool (decide_eq_false (by have := Co k; show ¬ zt k < 0; omega))) (.int Y Y Y)) Y (.nt (.condF Y (.sk (.seq (.draw [6] [[0, 1, 2, 3, 4, 5, 6], [7, 8, 9, 10, 11]] mixed kQ (.g0 (.mv Y Y (.nf Y Y Y Bv (.kv Y (.ld Y B1) (.kv Y (.fieldAddr Y Cx) (.kv Y (.ld Y AF) (.hh Y (.c func22 [_, _] (DA g x (BO H a c) (zt k) hLI)) ?_)))))))))))))))))
 rintro v L' (⟨hz, -, -⟩ | ⟨-, es, hes, hek, ae, ce, rfl, rfl⟩); · exact absurd hz (by have := Co k; show ¬ zt k < 0; omega)
 refine D.ph (.g0 (.mv Y Y (.kv Y (.extract Y Y) (.kv Y (.as (v' := AA 0) (by rfl) (.extract Y Y)) (.kv Y (.assign Y) (.kv Y (.assign Y) (.pf (.seq (.sm Y (.m Y (.cv func48 [_, _] (GO b) ?_)))))))))))
 refine .u (.not Y) (.nt (.condF Y (.sk (.sm Y (.fa Y Dq (.oq (.store Y Y Y Ym ?c107 (Bk _ _)) ?_))))))
 case c107 => simp [BF]
 rintro v L' rfl
 refine .nil (.ptCast (b := b4) (l' := BF (MW 4 2 (zt k) (.slice ae es.length ce) es)) O (by exact rfl) (.then_n (.sm Y (.m Y (.m Y (.nf Y Bv (.u (.ld Y B1) (.oq (.c func25 [_] (B2 g x (BO H a c) hLI)) ?_))))))))
 rintro v L' ⟨rfl, rfl⟩; rw [D4 hH a c, ← hh]
 refine .nf Y B6 (.oq (.storeRd (sz := 8) (j := i * 8 + 1) Y Y Y BV ?ho120 ?hi121) ?_)
 case ho120 => omega
 case hi121 => omega
 rintro v L' rfl
 refine .slCast (T := 103) (sz := 8) (m' := L.sv.length) (xs' := (rows.set i (L.sv[i].to 4, rows[i].2)).flatMap Cb) O Y (FB hir dQ (by rw [← hra]; rfl)) (.nf Y MS (.oq (.storeRd (sz := 8) (j := i * 8 + 4) Y Y Y BV ?ho125 ?hi126) ?_))
 case ho125 => omega
 case hi126 => omega
 rintro v L' rfl
 refine .nil (.slCast (T := 103) (sz := 8) (m' := L.sv.length) (xs' := (rows.set i (L.sv[i].sent (zt L.h), rows[i].2)).flatMap Cb) O Y (EK hir dQ Y) (.then_n (.draw [6] [[0, 1, 2, 3, 4, 5, 6]] mixed kQ (.g0 (.mv Y Y (.mv Y Y (.nf Y Y Y GE (.kv Y (.loadRd (sz := 8) (j := i * 8 + 0) (p := AV 103 8 (.slice (some ⟨ob, 0, none⟩) L.sv.length oc) L.sv.length ((rows.set i (L.sv[i].sent (zt L.h), rows[i].2)).flatMap Cb)) (v := AA L.sv[i].id) Y AF O (fun h hp => AE hp) om ((FT (by simpa using hir) dQ).trans (by rw [getElem_set_self]; rfl))) (.kv Y (.loadAs (vs := BF (MW 4 2 (zt k) (.slice ae es.length ce) es)) Y DJ O (by simp [BF]) Y) (.hh Y (.c func52 [_, _, _] (Gb b g ob oc L t o ov L.sv[i].id (MW 4 2 (zt k) (.slice ae es.length ce) es) (CT Y) om)) ?_))))))))))
 rintro v L' ⟨ov2, rfl, rfl⟩
 refine D.ph (.fin (.done_n (.bigTo (f := HR) (l := rows) (i := i) hir (L.sv[i].sent (zt L.h), rows[i].2) (p := HR rows[i]) (by unfold HR; rw [hra]; rfl) O (.fold (p := J4 (.slice ae es.length ce) es q) (q := [AV 42 11 (.slice ae es.length ce) es.length (es.flatMap BX), Aj entR es, q]) O (fun _ h => h) (.leFold (b := b) (g := g) (ob := ob) (oc := oc) (ov := ov2) (rows := (rows.set i (L.sv[i].sent (zt L.h), rows[i].2))) (L.set i (L.sv[i].sent (zt L.h))) t (o ++ [(L.sv[i].id, (MW 4 2 (zt k) (.slice ae es.length ce) es))]) (hr.set i (hr.cell _ (getElem_mem hir))) O (by unfold GX; rw [L.set_len]; rfl) (L.set_len _ _).symm (by exact rfl) (by exact rfl) (by exact rfl) ?_)))))
 exact .dn Y Y ⟨J4 (.slice ae es.length ce) es q, (MW 4 2 (zt k) (.slice ae es.length ce) es), Y, Kq _ _ _, by rw [hh]; exact WS hH hW hk hes hek, rfl⟩
theorem T3 (b g ob oc : Nat) (L : La) (t : Int) (o : Lo) (x d : Nat) (s : Ld) (H : List En) (N Cn : Int) (hs : Em s H 1 1 N Cn) (hC : Cn < 4294967295) (hN : N ≤ 1000000000000) (h0 : L.ph = 0) (hep : ∀ r ∈ L.sv, r.st = 1 → r.ep = 1) (hn : L.sv.length ≤ 6) (ho : o.length ≤ 900) : Fn prog 79 #[AG b] [Dg b g ob oc L t o, BW g x (s).Λ, CX x d (s).ω, Bg d (s).δ] fun v K => v = .tuple #[] ∧ K = [Dg b g ob oc (Fh L).1 t (o ++ Ep L.sv L.sv.length), BW g x ((AR s 2).1).Λ, CX x d ((AR s 2).1).ω, Bg d ((AR s 2).1).δ] := by
 refine Fn.intro func79 Y Y fun F W => ?_
 have hz0 : (E0 L 0).sv.length = L.sv.length := D0 _ _ _
 have hwi := hs.w.well.i hN
 have hacc : s.Λ.acc = 1 := by rw [hs.Λ]; rfl
 obtain ⟨hy0, hy1⟩ := FO (n := 2) hs hC ⟨by decide, by decide⟩
 have hep0 : Qi L = 0 := by unfold Qi; rw [if_pos h0]
 refine .leOpen (b := b) (g := g) (ob := ob) (oc := oc) (L := L) (t := t) (o := o) O fun rows ov hr => ?_
 have hrl := AQ hr
 refine .sm Y (.nf Y Bv (.u (.ld Y B1) (.nf Y DG (.oq (.c func41 [_] (Hm g x s.Λ)) ?_))))
 rintro v L' ⟨rfl, rfl⟩; rw [hacc]
 refine .a Y (.nil (.leFold (b := b) (g := g) (ob := ob) (oc := oc) (ov := _) (rows := rows) L t o hr O (by exact rfl) (by exact rfl) (by exact rfl) (by exact rfl) (by exact rfl) (.then_n (.seq (.seq (.leOpen (b := b) (g := g) (ob := ob) (oc := oc) (L := L) (t := t) (o := o) O fun rows ov hr => ?_))))))
 have hrl := AQ hr
 refine .region (.m Y (.nf Y CH (.u (.ld Y F6) (.q (.slen Y underlying99 Y) Y (.m Y (.nil (.leFold (b := b) (g := g) (ob := ob) (oc := oc) (ov := _) (rows := rows) L t o hr O (by exact rfl) (by exact rfl) (by exact rfl) (by exact rfl) (by exact rfl) (.then_n (.block (.loopK (ι := Nat) (fun q E => (19, AA q) :: (2, AA 1) :: E) (fun q => [Dg b g ob oc L t o]) (fun q => q ≤ L.sv.length) (fun q => L.sv.length - q) (0) (ts := [0, 17, 18]) O (Nat.zero_le _) O O ?_))))))))))
 rintro i hi
 refine .sr (.ui Y Y Y (.nt (.seq (.condD Y (fun h20 => ?_) (fun h20 => ?_)))))
 ·have hi2 : i < L.sv.length := by omega
  refine .leOpen (b := b) (g := g) (ob := ob) (oc := oc) (L := L) (t := t) (o := o) O fun rows ov hr => ?_
  have hrl := AQ hr
  have hir : i < rows.length := by omega
  have hra := DI hr hir hi2
  refine .sk (.seq (.block (.sr (.q (.indexAddr Y Y G1 om) Y (.q (.loadRdA (sz := 8) (j := i * 8) (k := 8) (p := AV 103 8 (.slice (some ⟨ob, 0, none⟩) L.sv.length oc) L.sv.length (rows.flatMap Cb)) (vs := Cb rows[i]) Y MR O (fun h hp => AE hp) (by simp [Cb]) om om (BE (f := Cb) (sz := 8) (fun _ _ => Y) om)) Y (.oq (.allocA HE) ?_))))))
  rintro v L' ⟨b7, rfl, rfl⟩
  refine .sa Y Y LY (by exact FL (hr.cell _ (getElem_mem hir))) ?_
  refine .nil (.ptCast (b := b7) (l' := Cb rows[i]) O (by exact rfl) (.leFold (b := b) (g := g) (ob := ob) (oc := oc) (ov := _) (rows := rows) L t o hr O (by exact rfl) (by exact rfl) (by exact rfl) (by exact rfl) (by exact rfl) (.then_n (.sr (.fa Y B6 (.q (.to (v' := AA L.sv[i].st) (.load Y AF O (by exact rfl)) (by rw [← hra])) Y (.ui Y Y Y (.nt (.condD Y (fun h25 => ?_) (fun h25 => ?_))))))))))
  ·refine .region (.m Y (.fa Y Qf (.q (.to (v' := AA 1) (.load Y AF O (by exact rfl)) (by rw [← hep _ (getElem_mem hi2) h25, ← hra])) Y (.q (.as (v' := AA 1) (by rfl) (.max2 Y Y)) Y (.a Y (.nil (.blk_n (.then_n (.region (.q (.add Y Y om) Y (.m Y (.nt ?_))))))))))))
   exact .rk (i + 1) om om O
  refine .skip (.blk_n (.then_n (.region (.q (.add Y Y om) Y (.m Y (.nt ?_))))))
  exact .rk (i + 1) om om O
 refine .xe (.seq (.sm Y (.q (.as (v' := .bool false) (by rfl) (.int Y Y Y)) Y (.nt (.condF Y (.sk (.seq (.seq (.leOpen (b := b) (g := g) (ob := ob) (oc := oc) (L := L) (t := t) (o := o) O fun rows ov hr => ?_)))))))))
 have hrl := AQ hr
 refine .region (.m Y (.m Y (.nf Y Bv (.u (.ld Y B1) (.m Y (.q (.as (v' := AA 2) (by rfl) (.add Y Y om)) Y (.oq (.c func8 [_, _] (E9 g x d s.δ s.ω s.Λ 2 hwi)) ?_)))))))
 rintro v L' ⟨rfl, rfl⟩; rw [show AR ⟨s.δ, s.ω, s.Λ⟩ 2 = AR s 2 from rfl, hy0]
 refine .cv func48 [_, _] (GO b) ?_
 refine .u (.not Y) (.nt (.condF Y (.sk (.sm Y (.m Y (.m Y (.q (.as (v' := AA 2) (by rfl) (.add Y Y om)) Y (.nf Y EB (.oq (.store Y Y Y BV ?c54 (Bk _ _)) ?_)))))))))
 case c54 => simp [GX]
 rintro v L' rfl
 refine .nf Y BR (.oq (.store Y Y Y BV ?c59 (Bk _ _)) ?_)
 case c59 => simp [GX]
 rintro v L' rfl
 refine .nil (.leFold (b := b) (g := g) (ob := ob) (oc := oc) (ov := _) (rows := rows) (E0 L 0) t (o ++ Ep L.sv 0) (by rw [show (E0 L 0).sv = L.sv from IT _ _]; exact hr) O (by unfold GX; rw [show (E0 L 0).sv.length = L.sv.length from D0 _ _ _]; exact rfl) ((D0 _ _ _).symm) (by exact rfl) (by rw [show Ep L.sv 0 = [] by unfold Ep; simp, append_nil]) (by rw [show Ep L.sv 0 = [] by unfold Ep; simp, append_nil]) (.then_n (.seq (.leOpen (b := b) (g := g) (ob := ob) (oc := oc) (L := (E0 L 0)) (t := t) (o := (o ++ Ep L.sv 0)) O fun rows ov hr => ?_))))
 have hrl := AQ hr
 refine .region (.m Y (.nf Y CH (.u (.ld Y F6) (.q (.slen Y underlying99 Y) Y (.m Y (.nil (.leFold (b := b) (g := g) (ob := ob) (oc := oc) (ov := _) (rows := rows) (E0 L 0) t (o ++ Ep L.sv 0) hr O (by exact rfl) (by exact rfl) (by exact rfl) (by exact rfl) (by exact rfl) (.then_n (.block (.loopK (ι := Nat) (fun q E => (59, AA q) :: E) (fun q => [Dg b g ob oc (E0 L q) t (o ++ Ep L.sv q)]) (fun q => q ≤ L.sv.length) (fun q => L.sv.length - q) (0) (ts := [0, 58]) O (Nat.zero_le _) O O ?_))))))))))
 rintro i hi
 refine .sr (.ui Y Y Y (.nt (.seq (.condD Y (fun h60 => ?_) (fun h60 => ?_)))))
 ·have hi2 : i < L.sv.length := by omega
  have hml : (E0 L i).sv.length = L.sv.length := D0 _ _ _
  have hol := QG L.sv i
  refine .leOpen (b := b) (g := g) (ob := ob) (oc := oc) (L := (E0 L i)) (t := t) (o := (o ++ Ep L.sv i)) O fun rows ov hr => ?_
  have hrl := AQ hr
  have hir : i < rows.length := by omega
  have hra : rows[i].1 = L.sv[i] := (DI hr hir om).trans (JG WA hi2 _)
  refine .sk (.seq (.block (.sm Y (.an Y (.sm Y (.nf Y CH (.u (.ld Y F6) (.m Y (.q (.indexAddr Y Y G1 om) Y (.an Y (.sm Y (.nf Y B6 (.q (.loadRd (sz := 8) (j := i * 8 + 1) (p := AV 103 8 _ (E0 L i).sv.length (rows.flatMap Cb)) (v := AA L.sv[i].st) Y AF O (fun h hp => AE hp) om ((FT om dQ).trans (by rw [← hra]; rfl))) Y (.ui Y Y Y (.nt (.condD Y (fun h72 => ?_) (fun h72 => ?_)))))))))))))))))
  ·refine .sm Y (.nf Y B6 (.oq (.storeRd (sz := 8) (j := i * 8 + 1) Y Y Y BV ?ho81 ?hi82) ?_))
   case ho81 => omega
   case hi82 => omega
   rintro v L' rfl
   refine .nil (.slCast (T := 103) (sz := 8) (m' := (E0 L i).sv.length) (xs' := (rows.set i (L.sv[i].to 2, rows[i].2)).flatMap Cb) O Y (FB hir dQ (by rw [← hra]; rfl)) (.then_n (.draw [10] [[0, 1, 2, 3, 4, 5, 6, 7, 8, 9, 10]] mixed kQ (.g0 (.mv Y Y (.mv Y Y (.nf Y Y Y GE (.kv Y (.loadRd (sz := 8) (j := i * 8 + 0) (p := AV 103 8 _ (E0 L i).sv.length ((rows.set i (L.sv[i].to 2, rows[i].2)).flatMap Cb)) (v := AA L.sv[i].id) Y AF O (fun h hp => AE hp) om ((FT (by simpa using hir) dQ).trans (by rw [getElem_set_self]; rfl))) (.mv Y Y (.nf Y Y Y EB (.kv Y (.to (v' := AA 2) (.load Y AF O (by exact rfl)) (by exact rfl)) (.kv Y (.to (v' := .agg (BF (FK 2 2 0)).toArray) (.buildN (pl := [(0, 1), (1, 1), (2, 1), (3, 1), (4, 1), (5, 1), (6, 1), (7, 1), (8, 10), (18, 1)]) (us := [(0, _), (1, _)]) (cells := BF (FK 2 2 0)) underlying67 kQ CO Y Y) Y) ?_))))))))))))
   refine D.hh Y (.c func52 [_, _, _] (Gb b g ob oc (E0 L i) t (o ++ Ep L.sv i) ov L.sv[i].id (FK 2 2 0) (CT Y) (by rw [length_append]; omega))) ?_
   rintro v L' ⟨ov2, rfl, rfl⟩
   refine D.ph (.fin ?_)
   rw [EW hir (r := (L.sv[i].to 2, rows[i].2)) (by unfold HR; rw [hra]; rfl)]
   refine .leFold (b := b) (g := g) (ob := ob) (oc := oc) (ov := ov2) (rows := rows.set i (L.sv[i].to 2, rows[i].2)) (E0 L (i + 1)) t (o ++ (Ep L.sv i ++ [(L.sv[i].id, FK 2 2 0)])) (by rw [Kw L hi2 h72]; exact hr.set i (hr.cell _ (getElem_mem hir))) O (by rw [Kw L hi2 h72]; unfold GX; rw [La.set_len]; exact rfl) (by rw [Kw L hi2 h72, La.set_len]) Y (by rw [← append_assoc]) (by rw [← append_assoc]) (.leCast (L' := E0 L (i + 1)) (o' := (o ++ Ep L.sv (i + 1))) O Y (by rw [show Ep L.sv (i + 1) = Ep L.sv i ++ [(L.sv[i].id, FK 2 2 0)] from XF hi2 (decide_eq_true h72)]) (.blk_n (.then_n (.region (.q (.add Y Y om) Y (.m Y (.nt ?_)))))))
   exact .rk (i + 1) om om O
  refine .leFold (b := b) (g := g) (ob := ob) (oc := oc) (ov := ov) (rows := rows) (E0 L i) t (o ++ Ep L.sv i) hr O Y Y Y Y Y (.leCast (L' := E0 L (i + 1)) (o' := (o ++ Ep L.sv (i + 1))) O (XT L hi2 h72).symm (by rw [show Ep L.sv (i + 1) = Ep L.sv i from ZH hi2 (decide_eq_false h72)]) (.skip (.blk_n (.then_n (.region (.q (.add Y Y om) Y (.m Y (.nt ?_))))))))
  exact .rk (i + 1) om om O
 have hie : i = L.sv.length := by omega
 subst hie
 rw [Wo]
 refine .exit (.then_e (.then_e (.blk_e (.done_n ?_))))
 exact .dn Y Y ⟨Y, Y⟩
theorem Md (b g ob oc : Nat) (L : La) (t : Int) (o : Lo) (x d : Nat) (s : Ld) (H : List En) (N Cn : Int) (hs : Em s H 2 1 N Cn) (hC : Cn + 1 < 4294967295) (hN : N + 10000000 ≤ 1000000000000) (h0 : L.ph = 1) (hH : Hz H) (hh : L.h = H.length) (h4 : 4 ≤ L.h) (hm : ∀ r ∈ L.sv, r.st = 3 → ∃ k, k ≤ 4 ∧ r.marks = AS k) (hn : L.sv.length ≤ 6) (ho : o.length ≤ 800) (pq : HP) : Fn prog 80 #[AG b] [Dg b g ob oc L t o, BW g x (s).Λ, CX x d (s).ω, Bg d (s).δ, pq] fun v K => ∃ q2 o2, v = .tuple #[] ∧ Gp H q2 o2 (Cc L).2 ∧ CI pq q2 ∧ K = [Dg b g ob oc (Cc L).1 t (o ++ o2), BW g x ((AY s 2).1).Λ, CX x d ((AY s 2).1).ω, Bg d ((AY s 2).1).δ, q2] := by
 refine Fn.intro func80 Y Y fun F W => ?_
 have hz0 : (EC L 0).sv.length = L.sv.length := D0 _ _ _
 have hwi := hs.w.well.i om
 obtain ⟨hu0, hu1⟩ := Ev hs om
 have hws := hu1.w.well.i om
 obtain ⟨hy0, hy1⟩ := GV (n := 2) hs hC ⟨by decide, by decide⟩
 have hL2 := hy1.Λ
 have hW2 : Iq (BO H 2 2) := by rw [← hL2]; exact hy1.w.w
 have hep2 : Qi L = 2 := by unfold Qi; rw [if_neg om]
 refine .leOpen (b := b) (g := g) (ob := ob) (oc := oc) (L := L) (t := t) (o := o) O fun rows ov hr => ?_
 have hrl := AQ hr
 refine .scope (.seq (.seq (.draw [9, 10] [[0, 1, 2, 3, 4, 5, 6, 7, 8, 9], [10], [11]] mixed kQ (.g0 (.k Y (.move Y) (.mv Y Y (.nf Y Y Y Bv (.kv Y (.ld Y B1) (.mv Y Y (.nf Y Y Y EB (.kv Y (.to (v' := AA 2) (.load Y AF O (by exact rfl)) (by rw [hep2])) (.hh Y (.c func9 [_, _] (Fx g x d s.δ s.ω s.Λ 2 hwi hws)) ?_))))))))))))
 rintro v L' ⟨rfl, rfl⟩; rw [show AY ⟨s.δ, s.ω, s.Λ⟩ 2 = AY s 2 from rfl, hy0]
 refine D.ph (.g0 (.hh Y (.c func48 [_, _] (GO b)) ?_))
 rintro v L' ⟨rfl, rfl⟩
 refine D.ph (.g0 (.kv Y (.not Y) (.pf (.condF Y (.sk (.sm Y (.nf Y BR (.oq (.store Y Y Y BV ?c18 (Bk _ _)) ?_))))))))
 case c18 => simp [GX]
 rintro v L' rfl
 refine .nil ?_
 rw [hL2]
 refine .leFold (b := b) (g := g) (ob := ob) (oc := oc) (ov := _) (rows := rows) (EC L 0) t (o ++ []) (by rw [show (EC L 0).sv = L.sv from IT _ _]; exact hr) O (by unfold GX; rw [hz0, hep2]; exact rfl) (hz0.symm) (by exact rfl) (by rw [append_nil]) (by rw [append_nil]) (.then_n (.seq (.label (.then_n (.seq (.leOpen (b := b) (g := g) (ob := ob) (oc := oc) (L := (EC L 0)) (t := t) (o := (o ++ [])) O fun rows ov hr => ?_))))))
 have hrl := AQ hr
 refine .region (.m Y (.nf Y CH (.u (.ld Y F6) (.q (.slen Y underlying99 Y) Y (.m Y (.nil (.leFold (b := b) (g := g) (ob := ob) (oc := oc) (ov := _) (rows := rows) (EC L 0) t (o ++ []) hr O (by exact rfl) (by exact rfl) (by exact rfl) (by exact rfl) (by exact rfl) (.then_n (.block (.loopK (ι := Nat × Lo × HP) (fun q E => (23, AA q.1) :: E) (fun q => [Dg b g ob oc (EC L q.1) t (o ++ q.2.1), BW g x (BO H 2 2), q.2.2]) (fun q => q.1 ≤ L.sv.length ∧ Gp H q.2.2 q.2.1 (Mi L q.1) ∧ CI pq q.2.2) (fun q => L.sv.length - q.1) (0, [], pq) (ts := [0, 22]) O (⟨Nat.zero_le _, (by unfold Mi; rw [take_zero]; trivial), CI.rfl pq⟩) O O ?_))))))))))
 rintro ⟨i, o2, q2⟩ ⟨hi, hO, hG⟩
 dsimp only
 dsimp only at hi hO hG
 refine .sr (.ui Y Y Y (.nt (.seq (.condD Y (fun h24 => ?_) (fun h24 => ?_)))))
 ·have hi2 : i < L.sv.length := by omega
  have hml : (EC L i).sv.length = L.sv.length := D0 _ _ _
  have hma : (EC L i).sv[i] = L.sv[i] := JG (Wg L.h) hi2 _
  have hOl : o2.length ≤ 6 := by rw [hO.len]; exact Nat.le_trans (Pu L i) hn
  refine .sk (.seq (.block (.sm Y (.an Y (.seq (.seq (.leOpen (b := b) (g := g) (ob := ob) (oc := oc) (L := (EC L i)) (t := t) (o := (o ++ o2)) O fun rows ov hr => ?_)))))))
  have hrl := AQ hr
  have hir : i < rows.length := by omega
  have hra : rows[i].1 = L.sv[i] := (DI hr hir om).trans hma
  refine .region (.m Y (.nf Y CH (.u (.ld Y F6) (.m Y (.q (.indexAddr Y Y G1 om) Y (.fa Y B6 (.q (.loadRd (sz := 8) (j := i * 8 + 1) (p := AV 103 8 _ (EC L i).sv.length (rows.flatMap Cb)) (v := AA L.sv[i].st) Y AF O (fun h hp => AE hp) om ((FT om dQ).trans (by rw [← hra]; rfl))) Y (.ui Y Y Y (.nil (.leFold (b := b) (g := g) (ob := ob) (oc := oc) (ov := _) (rows := rows) (EC L i) t (o ++ o2) hr O (by exact rfl) (by exact rfl) (by exact rfl) (by exact rfl) (by exact rfl) (.then_n (.condD Y (fun h34 => ?_) (fun h34 => ?_)))))))))))))
  ·refine .leOpen (b := b) (g := g) (ob := ob) (oc := oc) (L := (EC L i)) (t := t) (o := (o ++ o2)) O fun rows ov hr => ?_
   have hrl := AQ hr
   obtain ⟨k, hk, hmk⟩ := hm _ (getElem_mem hi2) h34
   have hmk2 : (EC L i).sv[i].marks = AS k := by rw [hma]; exact hmk
   refine .region (.m Y (.m Y (.nf Y CH (.u (.ld Y F6) (.m Y (.q (.to (v' := .pointer (some ⟨ob, i * 8, none⟩)) (.indexAddr Y Y G1 om) (by simp)) Y (.leFold (b := b) (g := g) (ob := ob) (oc := oc) (ov := _) (rows := rows) (EC L i) t (o ++ o2) hr O (by exact rfl) (by exact rfl) (by exact rfl) (by exact rfl) (by exact rfl) (.oq (.c func87 [_, _] (HF b g ob oc (EC L i) t (o ++ o2) x H 2 2 hH hW2 hh h4 (.inl Y) i om k hk hmk2 om (by rw [length_append]; omega) q2)) ?_))))))))
   rintro v L' ⟨q3, m3, rfl, hg, hm3, rfl⟩; rw [hma]; have hm3 : Ka H q3 m3 (.sync (zt k) L.h) := hm3
   refine .nt (.seq (.leOpen (b := b) (g := g) (ob := ob) (oc := oc) (L := ((EC L i).set i (L.sv[i].sent (zt L.h)))) (t := t) (o := (o ++ o2 ++ [(L.sv[i].id, m3)])) O fun rows ov hr => ?_))
   have hrl := AQ hr
   refine .region (.m Y (.nf Y BR (.q (.to (v' := AA 2) (.load Y AF O (by exact rfl)) (by exact rfl)) Y (.q (.as (v' := .bool false) (by rfl) (.int Y Y Y)) Y (.nil (.leFold (b := b) (g := g) (ob := ob) (oc := oc) (ov := _) (rows := rows) ((EC L i).set i (L.sv[i].sent (zt L.h))) t (o ++ o2 ++ [(L.sv[i].id, m3)]) hr O (by exact rfl) (by exact rfl) (by exact rfl) (by exact rfl) (by exact rfl) (.then_n (.condF Y (.skip (.blk_n (.then_n (.region (.q (.add Y Y om) Y (.m Y (.nt (.leCast (L' := EC L (i + 1)) (o' := o ++ (o2 ++ [(L.sv[i].id, m3)])) O (Up L hi2 h34).symm (by rw [append_assoc]) ?_))))))))))))))))
   exact .rk ((i + 1, o2 ++ [(L.sv[i].id, m3)], q3)) (⟨by dsimp only; omega, by dsimp only; rw [show Mi L (i + 1) = Mi L i ++ [(L.sv[i].id, .sync (L.sv[i].marks.headD 0) L.h)] from Wx hi2 (decide_eq_true h34), hmk, Fd]; exact (hO.grow hg).app ⟨rfl, hm3, trivial⟩, hG.trans hg⟩) (by dsimp only; omega) O
  refine .sk (.seq (.leOpen (b := b) (g := g) (ob := ob) (oc := oc) (L := (EC L i)) (t := t) (o := (o ++ o2)) O fun rows ov hr => ?_))
  have hrl := AQ hr
  refine .region (.m Y (.nf Y BR (.q (.to (v' := AA 2) (.load Y AF O (by exact rfl)) (by exact rfl)) Y (.q (.as (v' := .bool false) (by rfl) (.int Y Y Y)) Y (.nil (.leFold (b := b) (g := g) (ob := ob) (oc := oc) (ov := _) (rows := rows) (EC L i) t (o ++ o2) hr O (by exact rfl) (by exact rfl) (by exact rfl) (by exact rfl) (by exact rfl) (.then_n (.condF Y (.skip (.blk_n (.then_n (.region (.q (.add Y Y om) Y (.m Y (.nt (.leCast (L' := EC L (i + 1)) (o' := o ++ o2) O (XX L hi2 h34).symm Y ?_))))))))))))))))
  exact .rk ((i + 1, o2, q2)) (⟨by dsimp only; omega, by dsimp only; rw [show Mi L (i + 1) = Mi L i from XL hi2 (decide_eq_false h34)]; exact hO, hG⟩) (by dsimp only; omega) O
 have hie : i = L.sv.length := by omega
 subst hie
 rw [Wm]
 rw [O7] at hO
 refine .exit (.then_e (.then_e (.blk_e (.ng_n (.done_n ?_)))))
 exact .dn Y Y ⟨q2, o2, Y, hO, hG, Y⟩
theorem Xn {L : La} (h : ∀ z ∈ BD L, I64 z) : I64 (Ck (BD L)) := h _ (OQ _ (by unfold BD; simp))
theorem OO (b g ob oc : Nat) (L : La) (t : Int) (o : Lo) (x : Nat) (Λ : Lg) (hΛ : SR Λ) (hlast : A5 Λ = zt L.h) (hacks : ∀ z ∈ BD L, I64 z) (hn : L.sv.length ≤ 6) (ho : o.length ≤ 900) : Fn prog 81 #[AG b] [Dg b g ob oc L t o, BW g x Λ] fun v K => ∃ o2, v = .tuple #[] ∧ (∀ (H : List En) (p : HP), Gp H p o2 (CN Ck L).2) ∧ K = [Dg b g ob oc (CN Ck L).1 t (o ++ o2), BW g x Λ] := by
 refine Fn.intro func81 Y Y fun F W => ?_
 have hal := Mj L
 have hsl : (Bw (BD L)).length = L.sv.length + 1 := by rw [Gs, hal]
 refine .leOpen (b := b) (g := g) (ob := ob) (oc := oc) (L := L) (t := t) (o := o) O fun rows ov hr => ?_
 have hrl := AQ hr
 refine .sm Y (.nf Y Bv (.u (.ld Y B1) (.oq (.c func25 [_] (B2 g x Λ hΛ)) ?_)))
 rintro v L' ⟨rfl, rfl⟩; rw [hlast]
 refine .oq (.buildSlice1 (vs := [_]) BC Fk Y Y Y Y Y dQ) ?_
 rintro v L' ⟨b12, rfl, rfl⟩
 refine .a Y (.nil (.leFold (b := b) (g := g) (ob := ob) (oc := oc) (ov := _) (rows := rows) L t o hr O (by exact rfl) (by exact rfl) (by exact rfl) (by exact rfl) (by exact rfl) (.ptCast (b := b12) (l' := Aq (FS L 0)) O (by unfold FS; rw [take_zero]; rfl) (.fold (p := AV 3 1 (.slice (some ⟨b12, 0, none⟩) 1 1) 1 (Aq (FS L 0))) (.cons (p := Ar b12 _ _) O .nil) (fun h hp => HI (n := 1) (sz := 1) (HX hp) (by unfold FS; rw [take_zero]; rfl)) (.then_n (.seq (.seq (.leOpen (b := b) (g := g) (ob := ob) (oc := oc) (L := L) (t := t) (o := o) O fun rows ov hr => ?_))))))))
 have hrl := AQ hr
 refine .region (.m Y (.nf Y CH (.u (.ld Y F6) (.q (.slen Y underlying99 Y) Y (.m Y (.nil (.leFold (b := b) (g := g) (ob := ob) (oc := oc) (ov := _) (rows := rows) L t o hr O (by exact rfl) (by exact rfl) (by exact rfl) (by exact rfl) (by exact rfl) (.then_n (.block (.loopK (ι := Nat × Value) (fun q E => (18, AA q.1) :: (2, q.2) :: E) (fun q => [Dg b g ob oc L t o, AV 3 1 q.2 (q.1 + 1) (Aq (FS L q.1))]) (fun q => q.1 ≤ L.sv.length ∧ ∃ a c, q.2 = .slice a (q.1 + 1) c) (fun q => L.sv.length - q.1) (0, .slice (some ⟨b12, 0, none⟩) 1 1) (ts := [0, 16, 17]) O (⟨Nat.zero_le _, _, _, Y⟩) O O ?_))))))))))
 rintro ⟨i, u⟩ ⟨hi, au, cu, hu⟩
 dsimp only
 dsimp only at hi hu
 subst hu
 refine .sr (.ui Y Y Y (.nt (.seq (.condD Y (fun h19 => ?_) (fun h19 => ?_)))))
 ·have hi2 : i < L.sv.length := by omega
  refine .leOpen (b := b) (g := g) (ob := ob) (oc := oc) (L := L) (t := t) (o := o) O fun rows ov hr => ?_
  have hrl := AQ hr
  have hir : i < rows.length := by omega
  have hra := DI hr hir hi2
  refine .sk (.seq (.block (.sr (.q (.indexAddr Y Y G1 om) Y (.q (.loadRdA (sz := 8) (j := i * 8) (k := 8) (p := AV 103 8 (.slice (some ⟨ob, 0, none⟩) L.sv.length oc) L.sv.length (rows.flatMap Cb)) (vs := Cb rows[i]) Y MR O (fun h hp => AE hp) (by simp [Cb]) om om (BE (f := Cb) (sz := 8) (fun _ _ => Y) om)) Y (.oq (.allocA HE) ?_))))))
  rintro v L' ⟨b7, rfl, rfl⟩
  refine .sa Y Y LY (by exact FL (hr.cell _ (getElem_mem hir))) ?_
  refine .nil (.ptCast (b := b7) (l' := Cb rows[i]) O (by exact rfl) (.leFold (b := b) (g := g) (ob := ob) (oc := oc) (ov := _) (rows := rows) L t o hr O (by exact rfl) (by exact rfl) (by exact rfl) (by exact rfl) (by exact rfl) (.then_n (.region (.m Y (.fa Y JP (.q (.to (v' := AA L.sv[i].ack) (.load Y AF O (by exact rfl)) (by rw [← hra])) Y (.oq (.buildSlice1 (vs := [_]) BC Fk Y Y Y Y Y dQ) ?_))))))))
  rintro v L' ⟨b25, rfl, rfl⟩
  refine .oq (.append1 Y Y Y BC Fk Y Y ?c30 ?c31 (Nat.le_refl _) ?c32 dQ) ?_
  case c30 => (first | (simp [AD]; done) | (simp [AD, Cd, Value.cells]; done))
  case c31 => rfl
  case c32 => omega
  rintro v L' ⟨⟨a4, c4, rfl⟩, rfl⟩
  refine .a Y (.nil (.blk_n (.then_n (.region (.q (.add Y Y om) Y (.m Y (.nt (.slCast (T := 3) (m' := i + 1 + 1) (xs' := Aq (FS L (i + 1))) O Y (by rw [UD L hi2]; simp [Aq, Value.cells]) ?_))))))))
  exact .rk ((i + 1, .slice a4 (i + 1 + 1) c4)) (⟨by dsimp only; omega, _, _, rfl⟩) (by dsimp only; omega) O
 have hie : i = L.sv.length := by omega
 subst hie
 rw [VW]
 refine .xe (.sm Y (.oq (.call func46 Y Y (vs := [_]) Y (K2 _ (L.sv.length + 1) (BD L) om)) ?_))
 rintro v L' ⟨rfl, rfl⟩
 refine .nt (.seq (.leOpen (b := b) (g := g) (ob := ob) (oc := oc) (L := L) (t := t) (o := o) O fun rows ov hr => ?_))
 have hrl := AQ hr
 refine .region (.m Y (.q (.slen Y underlying22 Y) Y (.q (.sub Y Y om) Y (.m Y (.nf Y QX (.u (.ld Y AF) ?_))))))
 have hdv : ((L.sv.length : Int) + 1).tdiv 2 = (((L.sv.length + 1) / 2 : Nat) : Int) := by rw [Int.tdiv_eq_ediv_of_nonneg om]; omega
 refine .q (.quo Y Y dQ om) Y (.q (.to (v' := AA ((L.sv.length - (L.sv.length + 1) / 2 : Nat) : Int)) (.sub Y Y om) (by rw [hdv]; congr 1; omega)) Y (.a Y (.nil (.leFold (b := b) (g := g) (ob := ob) (oc := oc) (ov := _) (rows := rows) L t o hr O (by exact rfl) (by exact rfl) (by exact rfl) (by exact rfl) (by exact rfl) (.then_n (.seq (.sm Y (.q (.as (v' := .bool false) (by exact congrArg Value.bool (decide_eq_false om)) (.int Y Y Y)) Y (.nt (.condF Y (.sk (.seq (.slShape (T := 3) (sz := 1) (v := .slice au (L.sv.length + 1) cu) (xs := Aq (Bw (BD L))) O om fun bs bs2 e0 _ _ => ?_)))))))))))))
 simp only [Value.slice.injEq, true_and] at e0
 obtain ⟨rfl, rfl⟩ := e0
 have hjl : L.sv.length - (L.sv.length + 1) / 2 < (Bw (BD L)).length := by omega
 refine .region (.m Y (.m Y (.q (.indexAddr Y Y BC om) Y (.q (.loadEl (p := AV 3 1 _ (L.sv.length + 1) (Aq (Bw (BD L)))) (i := (L.sv.length - (L.sv.length + 1) / 2) * 1) (v := AA (Ck (BD L))) Y AF O (fun h hp => AE hp) (by rw [Nat.mul_one, ← Zp L rfl hjl]; simp [Aq, hjl])) Y (.an Y (.seq (.leOpen (b := b) (g := g) (ob := ob) (oc := oc) (L := L) (t := t) (o := o) O fun rows ov hr => ?_)))))))
 have hrl := AQ hr
 refine .region (.m Y (.m Y (.nf Y FP (.u (.ld Y AF) (.ui Y Y Y (.nt (.condD Y (fun h50 => ?_) (fun h50 => ?_))))))))
 ·refine .sm Y (.m Y (.nf Y FP (.oq (.store Y Y Y BV ?c60 (Bk _ _)) ?_)))
  case c60 => simp [GX]
  rintro v L' rfl
  refine .nt (.region (.m Y (.m Y (.q (.to (v' := .agg (BF (FK 9 0 (Ck (BD L)))).toArray) (.buildN (pl := [(0, 1), (1, 1), (2, 1), (3, 1), (4, 1), (5, 1), (6, 1), (7, 1), (8, 10), (18, 1)]) (us := [(0, _), (2, _)]) (cells := BF (FK 9 0 (Ck (BD L)))) underlying67 kQ CO Y Y) Y) Y (.leFold (b := b) (g := g) (ob := ob) (oc := oc) (ov := _) (rows := rows) (⟨L.ph, Ck (BD L), L.h, L.sv⟩ : La) t o hr O (by exact rfl) (by exact rfl) (by exact rfl) (by exact rfl) (by exact rfl) (.cv func42 [_, _, _] (Gv b g ob oc (⟨L.ph, Ck (BD L), L.h, L.sv⟩ : La) t o 5 (FK 9 0 (Ck (BD L))) (CT Y) hn ho) ?_))))))
  refine .nil (.done_n ?_)
  have he : CN Ck L = ((⟨L.ph, Ck (BD L), L.h, L.sv⟩ : La), JR L.sv 5 (.com (Ck (BD L)))) := by unfold CN; rw [if_pos h50]
  rw [he]
  exact .dn Y Y ⟨CQ L.sv 5 (FK 9 0 (Ck (BD L))), Y, fun H p => Gp.tell (AAA (Xn hacks)) _ _, Y⟩
 refine .skip (.done_n ?_)
 have he : CN Ck L = (L, []) := by unfold CN; rw [if_neg h50]
 rw [he]
 refine .leFold (b := b) (g := g) (ob := ob) (oc := oc) (ov := _) (rows := rows) L t o hr O (by exact rfl) (by exact rfl) (by exact rfl) (by exact rfl) (by exact rfl) ?_
 exact .dn Y Y ⟨[], Y, fun H p => trivial, by rw [append_nil]⟩
theorem Ig (b g ob oc : Nat) (L : La) (t : Int) (o : Lo) (x d : Nat) (s : Ld) (H : List En) (N Cn : Int) (hH : Hz H) (hh : L.h = H.length) (hL : FX L) (hS : KS L H s (N + 4000000 * L.ph) (Cn + 2 * L.ph)) (hC : Cn + 100 < 4294967295) (hN : N + 100000000 ≤ 1000000000000) (ho : o.length ≤ 700) (pq : HP) : Fn prog 43 #[AG b] [Dg b g ob oc L t o, BW g x (s).Λ, CX x d (s).ω, Bg d (s).δ, pq] fun v K => ∃ o2 s2 q2, v = .tuple #[] ∧ HC H pq (Dl Ck L) o2 s2 q2 N Cn 30 ∧ K = [Dg b g ob oc (Dl Ck L).1 t (o ++ o2), BW g x (s2).Λ, CX x d (s2).ω, Bg d (s2).δ, q2] := by
 refine Fn.intro func43 Y Y fun F W => ?_
 have hgo : Dl Ck L = Gx Ck (Do (DD (CL L))) := rfl
 rw [hgo]
 refine .leCast (L' := L) (o' := o ++ []) O Y (append_nil o).symm ?_
 have hG : HC H pq (L, []) [] s pq N Cn 0 := ⟨trivial, CI.rfl pq, hL, hS, hh, Nat.le_refl _⟩
 refine .seq (.joinK (ι := Lo × Ld × HP) (fun q E => E) (fun q => [Dg b g ob oc (CL L).1 t (o ++ q.1), BW g x q.2.1.Λ, CX x d q.2.1.ω, Bg d q.2.1.δ, q.2.2]) (fun q => HC H pq (CL L) q.1 q.2.1 q.2.2 N Cn 6) (pre := [Dg b g ob oc L t (o ++ []), BW g x s.Λ, CX x d s.ω, Bg d s.δ, pq]) (ts := [0]) O O ?_ ?_)
 ·refine .seq (.leOpen (b := b) (g := g) (ob := ob) (oc := oc) (L := L) (t := t) (o := (o ++ [])) O fun rows ov hr => ?_)
  have hrl := AQ hr
  refine .region (.m Y (.nf Y BR (.u (.ld Y AF) (.ui Y Y Y (.m Y (.dec (t := 7) Y (fun h0_7 => ?_) (fun h0_7 => ?_)))))))
  ·refine .kDT (t := 6) Y h0_7 (.gr (.m Y (.leFold (b := b) (g := g) (ob := ob) (oc := oc) (ov := _) (rows := rows) L t (o ++ []) hr O (by exact rfl) (by exact rfl) (by exact rfl) (by exact rfl) (by exact rfl) (.gr (.cv func78 [_, _] (Jo b g ob oc L t (o ++ []) 1 hG.le.n) ?_)))))
   refine .pT Y Y (.nt (.condB Y (fun h10 => ?_) (fun h10 => ?_)))
   ·have hp : L.ph = 0 := h0_7
    have hs1 : Em s H 1 1 (N + 4000000 * L.ph) (Cn + 2 * L.ph) := by have := hS; unfold KS at this; rw [if_pos hp, if_pos om] at this; exact this
    refine .region (.m Y (.cv func79 [_] (T3 b g ob oc L t (o ++ []) x d s H (N + 4000000 * L.ph) (Cn + 2 * L.ph) hs1 om om hp hL.told hL.n (by rw [append_nil]; omega)) ?_))
    refine .nt ?_
    have hp : L.ph = 0 := h0_7
    have hB : (decide (L.ph = 0) && Cq L 1) = true := by rw [decide_eq_true h0_7, h10]; rfl
    refine .leCast (L' := (CL L).1) (o' := o ++ Ep L.sv L.sv.length) O (by unfold CL; rw [Ej hB]) (by rw [append_nil]) ?_
    exact .mk ((Ep L.sv L.sv.length, (AR s 2).1, pq)) ((by exact (X6 (R := (L, [])) hB hp om hG).more om om om)) O
   refine .sk ?_
   have hB : (decide (L.ph = 0) && Cq L 1) = false := by rw [decide_eq_true h0_7, h10]; rfl
   refine .leCast (L' := (CL L).1) (o' := o ++ []) O (by unfold CL; rw [Fs hB]) (Y) ?_
   exact .mk (([], s, pq)) ((by exact (IR (R := (L, [])) hB hG).more om om om)) O
  refine .kDF (t := 6) Y h0_7 (.gk (.leFold (b := b) (g := g) (ob := ob) (oc := oc) (ov := _) (rows := rows) L t (o ++ []) hr O (by exact rfl) (by exact rfl) (by exact rfl) (by exact rfl) (by exact rfl) (.gk (.pF Y Y (.nt (.condF Y (.sk ?_)))))))
  have hB : (decide (L.ph = 0) && Cq L 1) = false := by rw [decide_eq_false h0_7]; rfl
  refine .leCast (L' := (CL L).1) (o' := o ++ []) O (by unfold CL; rw [Fs hB]) (Y) ?_
  exact .mk (([], s, pq)) ((by exact (IR (R := (L, [])) hB hG).more om om om)) O
 rintro ⟨o1, s1, q1⟩ hG
 dsimp only
 dsimp only at hG
 obtain ⟨R1, hR1⟩ : ∃ R, CL L = R := ⟨_, rfl⟩
 rw [hR1] at hG ⊢
 refine .seq (.joinK (ι := Lo × Ld × HP) (fun q E => E) (fun q => [Dg b g ob oc (DD R1).1 t (o ++ q.1), BW g x q.2.1.Λ, CX x d q.2.1.ω, Bg d q.2.1.δ, q.2.2]) (fun q => HC H pq (DD R1) q.1 q.2.1 q.2.2 N Cn 12) (pre := [Dg b g ob oc R1.1 t (o ++ o1), BW g x s1.Λ, CX x d s1.ω, Bg d s1.δ, q1]) (ts := [0]) O O ?_ ?_)
 ·refine .seq (.leOpen (b := b) (g := g) (ob := ob) (oc := oc) (L := R1.1) (t := t) (o := (o ++ o1)) O fun rows ov hr => ?_)
  have hrl := AQ hr
  refine .region (.m Y (.nf Y BR (.u (.ld Y AF) (.ui Y Y Y (.m Y (.dec (t := 18) Y (fun h2_18 => ?_) (fun h2_18 => ?_)))))))
  ·refine .kDT (t := 17) Y h2_18 (.gr (.m Y (.leFold (b := b) (g := g) (ob := ob) (oc := oc) (ov := _) (rows := rows) R1.1 t (o ++ o1) hr O (by exact rfl) (by exact rfl) (by exact rfl) (by exact rfl) (by exact rfl) (.gr (.cv func78 [_, _] (Jo b g ob oc R1.1 t (o ++ o1) 3 hG.le.n) ?_)))))
   refine .pT Y Y (.nt (.condB Y (fun h21 => ?_) (fun h21 => ?_)))
   ·have hp : R1.1.ph = 1 := h2_18
    have hs1 : Em s1 H 2 1 (N + 4000000 * R1.1.ph) (Cn + 2 * R1.1.ph) := by have := hG.ls; unfold KS at this; rw [if_neg om, if_pos om] at this; exact this
    have hlen := hG.len
    have hle := hG.le.h
    refine .region (.m Y (.oq (.c func80 [_] (Md b g ob oc R1.1 t (o ++ o1) x d s1 H (N + 4000000 * R1.1.ph) (Cn + 2 * R1.1.ph) hs1 om om hp hH hG.hh hle.1 hG.le.ans hG.le.n (by rw [length_append]; omega) q1)) ?_))
    rintro v L' ⟨q2, o2, rfl, hO2, hG2, rfl⟩
    refine .nt ?_
    have hp : R1.1.ph = 1 := h2_18
    have hB : (decide (R1.1.ph = 1) && Cq R1.1 3) = true := by rw [decide_eq_true h2_18, h21]; rfl
    refine .leCast (L' := (DD R1).1) (o' := o ++ (o1 ++ o2)) O (by unfold DD; rw [Ej hB]) (by rw [append_assoc]) ?_
    exact .mk ((o1 ++ o2, (AY s1 2).1, q2)) ((by exact (TS (R := R1) hB hp om hG hO2 hG2).more om om om)) O
   refine .sk ?_
   have hB : (decide (R1.1.ph = 1) && Cq R1.1 3) = false := by rw [decide_eq_true h2_18, h21]; rfl
   refine .leCast (L' := (DD R1).1) (o' := o ++ o1) O (by unfold DD; rw [Fs hB]) (Y) ?_
   exact .mk ((o1, s1, q1)) ((by exact (IR (R := R1) hB hG).more om om om)) O
  refine .kDF (t := 17) Y h2_18 (.gk (.leFold (b := b) (g := g) (ob := ob) (oc := oc) (ov := _) (rows := rows) R1.1 t (o ++ o1) hr O (by exact rfl) (by exact rfl) (by exact rfl) (by exact rfl) (by exact rfl) (.gk (.pF Y Y (.nt (.condF Y (.sk ?_)))))))
  have hB : (decide (R1.1.ph = 1) && Cq R1.1 3) = false := by rw [decide_eq_false h2_18]; rfl
  refine .leCast (L' := (DD R1).1) (o' := o ++ o1) O (by unfold DD; rw [Fs hB]) (Y) ?_
  exact .mk ((o1, s1, q1)) ((by exact (IR (R := R1) hB hG).more om om om)) O
 rintro ⟨o2, s2, q2⟩ hG
 dsimp only
 dsimp only at hG
 obtain ⟨R2, hR2⟩ : ∃ R, DD R1 = R := ⟨_, rfl⟩
 rw [hR2] at hG ⊢
 refine .seq (.joinK (ι := Lo × Ld × HP) (fun q E => E) (fun q => [Dg b g ob oc (Do R2).1 t (o ++ q.1), BW g x q.2.1.Λ, CX x d q.2.1.ω, Bg d q.2.1.δ, q.2.2]) (fun q => HC H pq (Do R2) q.1 q.2.1 q.2.2 N Cn 18) (pre := [Dg b g ob oc R2.1 t (o ++ o2), BW g x s2.Λ, CX x d s2.ω, Bg d s2.δ, q2]) (ts := [0]) O O ?_ ?_)
 ·refine .seq (.leOpen (b := b) (g := g) (ob := ob) (oc := oc) (L := R2.1) (t := t) (o := (o ++ o2)) O fun rows ov hr => ?_)
  have hrl := AQ hr
  refine .region (.m Y (.nf Y BR (.u (.ld Y AF) (.ui Y Y Y (.m Y (.dec (t := 29) Y (fun h4_29 => ?_) (fun h4_29 => ?_)))))))
  ·refine .kDT (t := 28) Y h4_29 (.gr (.m Y (.leFold (b := b) (g := g) (ob := ob) (oc := oc) (ov := _) (rows := rows) R2.1 t (o ++ o2) hr O (by exact rfl) (by exact rfl) (by exact rfl) (by exact rfl) (by exact rfl) (.gr (.cv func78 [_, _] (Jo b g ob oc R2.1 t (o ++ o2) 5 hG.le.n) ?_)))))
   refine .pT Y Y (.nt (.condB Y (fun h32 => ?_) (fun h32 => ?_)))
   ·refine .seq (.leOpen (b := b) (g := g) (ob := ob) (oc := oc) (L := R2.1) (t := t) (o := (o ++ o2)) O fun rows ov hr => ?_)
    have hrl := AQ hr
    have hlen := hG.len
    have hle := hG.le.h
    refine .region (.m Y (.nf Y BR (.oq (.store Y Y Y BV ?c36 (Bk _ _)) ?_)))
    case c36 => simp [GX]
    rintro v L' rfl
    refine .nt (.sm Y (.m Y (.nf Y Bv (.u (.ld Y B1) (.oq (.c func25 [_] (B2 g x s2.Λ (Em.w hG.ls).w.i)) ?_)))))
    rintro v L' ⟨rfl, rfl⟩; rw [KS.last hG.ls hH hG.hh]
    refine .nf Y FP (.oq (.store Y Y Y BV ?c48 (Bk _ _)) ?_)
    case c48 => simp [GX]
    rintro v L' rfl
    refine .nt (.region (.m Y (.m Y (.nf Y FP (.q (.to (v' := AA (zt R2.1.h)) (.load Y AF O (by exact rfl)) (by exact rfl)) Y (.q (.to (v' := .agg (BF (FK 6 0 (zt R2.1.h))).toArray) (.buildN (pl := [(0, 1), (1, 1), (2, 1), (3, 1), (4, 1), (5, 1), (6, 1), (7, 1), (8, 10), (18, 1)]) (us := [(0, _), (2, _)]) (cells := BF (FK 6 0 (zt R2.1.h))) underlying67 kQ CO Y Y) Y) Y ?_))))))
    have hp : R2.1.ph = 2 := h4_29
    refine .leFold (b := b) (g := g) (ob := ob) (oc := oc) (ov := _) (rows := rows) (Sw R2.1).1 t (o ++ o2) hr O (by unfold GX Qi; rw [if_neg om]; exact rfl) (by exact rfl) (by exact rfl) (by exact rfl) (by exact rfl) (.cv func42 [_, _, _] (Gv b g ob oc (Sw R2.1).1 t (o ++ o2) 5 (FK 6 0 (zt R2.1.h)) (CT Y) hG.le.n (by rw [length_append]; omega)) ?_)
    refine .nt ?_
    have hp : R2.1.ph = 2 := h4_29
    have hB : (decide (R2.1.ph = 2) && Cq R2.1 5) = true := by rw [decide_eq_true h4_29, h32]; rfl
    refine .leCast (L' := (Do R2).1) (o' := o ++ (o2 ++ CQ R2.1.sv 5 (FK 6 0 (zt R2.1.h)))) O (by unfold Do; rw [Ej hB]) (by rw [append_assoc]; rfl) ?_
    exact .mk ((o2 ++ CQ R2.1.sv 5 (FK 6 0 (zt R2.1.h)), s2, q2)) ((by exact (Zy (R := R2) hB hp hG).more om om om)) O
   refine .sk ?_
   have hB : (decide (R2.1.ph = 2) && Cq R2.1 5) = false := by rw [decide_eq_true h4_29, h32]; rfl
   refine .leCast (L' := (Do R2).1) (o' := o ++ o2) O (by unfold Do; rw [Fs hB]) (Y) ?_
   exact .mk ((o2, s2, q2)) ((by exact (IR (R := R2) hB hG).more om om om)) O
  refine .kDF (t := 28) Y h4_29 (.gk (.leFold (b := b) (g := g) (ob := ob) (oc := oc) (ov := _) (rows := rows) R2.1 t (o ++ o2) hr O (by exact rfl) (by exact rfl) (by exact rfl) (by exact rfl) (by exact rfl) (.gk (.pF Y Y (.nt (.condF Y (.sk ?_)))))))
  have hB : (decide (R2.1.ph = 2) && Cq R2.1 5) = false := by rw [decide_eq_false h4_29]; rfl
  refine .leCast (L' := (Do R2).1) (o' := o ++ o2) O (by unfold Do; rw [Fs hB]) (Y) ?_
  exact .mk ((o2, s2, q2)) ((by exact (IR (R := R2) hB hG).more om om om)) O
 rintro ⟨o3, s3, q3⟩ hG
 dsimp only
 dsimp only at hG
 obtain ⟨R3, hR3⟩ : ∃ R, Do R2 = R := ⟨_, rfl⟩
 rw [hR3] at hG ⊢
 refine .seq (.leOpen (b := b) (g := g) (ob := ob) (oc := oc) (L := R3.1) (t := t) (o := (o ++ o3)) O fun rows ov hr => ?_)
 have hrl := AQ hr
 have hlen := hG.len
 have hle := hG.le.h
 refine .region (.m Y (.nf Y BR (.u (.ld Y AF) (.ui Y Y Y (.nil (.leFold (b := b) (g := g) (ob := ob) (oc := oc) (ov := _) (rows := rows) R3.1 t (o ++ o3) hr O (by exact rfl) (by exact rfl) (by exact rfl) (by exact rfl) (by exact rfl) (.then_n (.condD Y (fun h55 => ?_) (fun h55 => ?_)))))))))
 ·refine .region (.m Y (.oq (.c func81 [_] (OO b g ob oc R3.1 t (o ++ o3) x s3.Λ (Em.w hG.ls).w.i (KS.last hG.ls hH hG.hh) hG.le.i64 hG.le.n (by rw [length_append]; omega))) ?_))
  rintro v L' ⟨o4, rfl, hO4, rfl⟩
  refine .nil (.done_n ?_)
  have hb4 : decide (R3.1.ph = 3) = true := decide_eq_true h55
  refine .leCast (L' := (Gx Ck R3).1) (o' := o ++ (o3 ++ o4)) O (by unfold Gx; rw [Ej hb4]) (by rw [append_assoc]) ?_
  exact .dn Y Y ⟨o3 ++ o4, s3, q3, Y, (XV (R := R3) hb4 h55 hG (hO4 H q3)).more om om om, Y⟩
 refine .skip (.done_n ?_)
 have hb4 : decide (R3.1.ph = 3) = false := decide_eq_false h55
 refine .leCast (L' := (Gx Ck R3).1) (o' := o ++ o3) O (by unfold Gx; rw [Fs hb4]) Y ?_
 exact .dn Y Y ⟨o3, s3, q3, Y, (IR (R := R3) hb4 hG).more om om om, Y⟩
theorem Rz (b g ob oc : Nat) (L : La) (t : Int) (o : Lo) (i : Nat) (hi : i < L.sv.length) (m : Ms) (hm : ∀ v ∈ BF m, AD v = true) (hep : m.ep = 1) (hn : L.sv.length ≤ 6) (ho : o.length ≤ 900) : Fn prog 50 #[AG b, .pointer (some ⟨ob, i * 8, none⟩), .agg (BF m).toArray] [Dg b g ob oc L t o] fun v K => v = .tuple #[] ∧ K = [Dg b g ob oc (L.set i (A2 L L.sv[i] .info).1) t (o ++ if L.ph = 0 then [] else [(L.sv[i].id, (FK 2 2 0))])] := by
 refine Fn.intro func50 Y Y fun F W => ?_
 refine .leOpen (b := b) (g := g) (ob := ob) (oc := oc) (L := L) (t := t) (o := o) O fun rows ov hr => ?_
 have hrl := AQ hr
 have hir : i < rows.length := by omega
 have hra := DI hr hir hi
 refine .sr (.oq (.box Y) ?_)
 rintro v L' ⟨bm, rfl, rfl⟩
 refine .nil (.ptCast (b := bm) (l' := BF m) O (by exact rfl) (.then_n (.sm Y (.fa Y EI (.q (.to (v' := AA 1) (.load Y AF O (by exact rfl)) (by rw [← hep])) Y (.nf Y Qf (.oq (.storeRd (sz := 8) (j := i * 8 + 2) Y Y Y BV ?ho8 ?hi9) ?_)))))))
 case ho8 => omega
 case hi9 => omega
 rintro v L' rfl
 refine .nil (.slCast (T := 103) (sz := 8) (m' := L.sv.length) (xs' := (rows.set i ((L.sv[i].eps 1), rows[i].2)).flatMap Cb) O Y (FB hir dQ (by rw [← hra]; rfl)) (.then_n (.block (.sm Y (.nf Y BR (.u (.ld Y AF) (.ui Y Y Y (.an Y (.condD Y (fun h25 => ?_) (fun h25 => ?_))))))))))
 ·refine .region (.m Y (.nf Y B6 (.oq (.storeRd (sz := 8) (j := i * 8 + 1) Y Y Y BV ?ho19 ?hi20) ?_)))
  case ho19 => omega
  case hi20 => omega
  rintro v L' rfl
  refine .nil (.slCast (T := 103) (sz := 8) (m' := L.sv.length) (xs' := (rows.set i (((L.sv[i].eps 1).to 1), rows[i].2)).flatMap Cb) O Y (EK hir dQ Y) ?_)
  rw [EW hir (r := (((L.sv[i].eps 1).to 1), rows[i].2)) (by unfold HR; rw [hra]; rfl)]
  refine .leFold (b := b) (g := g) (ob := ob) (oc := oc) (ov := _) (rows := (rows.set i (((L.sv[i].eps 1).to 1), rows[i].2))) (L.set i (((L.sv[i].eps 1).to 1))) t o (hr.set i (hr.cell _ (getElem_mem hir))) O (by unfold GX; rw [La.set_len]; exact rfl) (La.set_len _ _ _).symm (by exact rfl) (by exact rfl) (by exact rfl) ?_
  have hz : A2 L L.sv[i] .info = (((L.sv[i].eps 1).to 1), []) := by unfold A2; dsimp only; rw [if_pos h25]
  rw [hz, if_pos h25]
  refine .leCast (L' := L.set i ((L.sv[i].eps 1).to 1)) (o' := o ++ []) O Y (append_nil o).symm (.blk_n (.done_n ?_))
  exact .dn Y Y ⟨Y, Y⟩
 have hep2 : Qi L = 2 := by unfold Qi; rw [if_neg h25]
 refine .seq (.draw [] [[0, 1, 2, 3, 4, 5, 6, 7]] mixed kQ (.g0 (.kv Y (.fieldAddr Y EI) (.kv Y (.to (v' := AA 1) (.load Y AF O (by exact rfl)) (by rw [← hep])) (.mv Y Y (.nf Y Y Y EB (.kv Y (.to (v' := AA 2) (.load Y AF O (by exact rfl)) (by rw [hep2])) (.kv Y (.as (v' := .bool false) (by rfl) (.int Y Y Y)) (.kv Y (.assign Y) (.pf (.condF Y (.sm Y (.nf Y B6 (.oq (.storeRd (sz := 8) (j := i * 8 + 1) Y Y Y BV ?ho32 ?hi33) ?_))))))))))))))
 case ho32 => omega
 case hi33 => omega
 rintro v L' rfl
 refine .nil (.slCast (T := 103) (sz := 8) (m' := L.sv.length) (xs' := (rows.set i (((L.sv[i].eps 1).to 2), rows[i].2)).flatMap Cb) O Y (EK hir dQ Y) (.then_n (.draw [10] [[0, 1, 2, 3, 4, 5, 6, 7, 8, 9, 10]] mixed kQ (.g0 (.mv Y Y (.mv Y Y (.nf Y Y Y GE (.kv Y (.loadRd (sz := 8) (j := i * 8 + 0) (p := AV 103 8 _ L.sv.length ((rows.set i (((L.sv[i].eps 1).to 2), rows[i].2)).flatMap Cb)) (v := AA L.sv[i].id) Y AF O (fun h hp => AE hp) om ((FT (by simpa using hir) dQ).trans (by rw [getElem_set_self]; rfl))) (.mv Y Y (.nf Y Y Y EB (.kv Y (.to (v' := AA 2) (.load Y AF O (by exact rfl)) (by rw [hep2])) (.kv Y (.to (v' := .agg (BF (FK 2 2 0)).toArray) (.buildN (pl := [(0, 1), (1, 1), (2, 1), (3, 1), (4, 1), (5, 1), (6, 1), (7, 1), (8, 10), (18, 1)]) (us := [(0, _), (1, _)]) (cells := BF (FK 2 2 0)) underlying67 kQ CO Y Y) Y) ?_))))))))))))
 refine D.hh Y (.c func52 [_, _, _] (Gb b g ob oc L t o ov L.sv[i].id (FK 2 2 0) (CT Y) om)) ?_
 rintro v L' ⟨ov2, rfl, rfl⟩
 refine D.ph (.fin ?_)
 rw [EW hir (r := (((L.sv[i].eps 1).to 2), rows[i].2)) (by unfold HR; rw [hra]; rfl)]
 refine .leFold (b := b) (g := g) (ob := ob) (oc := oc) (ov := ov2) (rows := (rows.set i (((L.sv[i].eps 1).to 2), rows[i].2))) (L.set i (((L.sv[i].eps 1).to 2))) t (o ++ [(L.sv[i].id, (FK 2 2 0))]) (hr.set i (hr.cell _ (getElem_mem hir))) O (by unfold GX; rw [La.set_len]; exact rfl) (La.set_len _ _ _).symm (by exact rfl) (by exact rfl) (by exact rfl) ?_
 have hz : A2 L L.sv[i] .info = (((L.sv[i].eps 1).to 2), [.ep]) := by unfold A2; dsimp only; rw [if_neg h25]
 rw [hz, if_neg h25]
 refine .blk_n (.done_n ?_)
 exact .dn Y Y ⟨Y, Y⟩
theorem Ol (b g ob oc : Nat) (L : La) (t : Int) (o : Lo) (x : Nat) (H : List En) (a c : Int) (hH : Hz H) (hW : Iq (BO H a c)) (hh : L.h = H.length) (hL : FX L) (hc : c = if L.ph ≤ 1 then 1 else 2) (i : Nat) (hi : i < L.sv.length) (pq : HP) (m : Ms) (b1 : Bool) (k : Nat) (hm : Nm pq m (.ack b1 k)) (hw : Ga L L.sv[i] (.ack b1 k)) (ho : o.length ≤ 900) : Fn prog 51 #[AG b, .pointer (some ⟨ob, i * 8, none⟩), .agg (BF m).toArray] [Dg b g ob oc L t o, BW g x (BO H a c), pq] fun v K => ∃ q2 o2, v = .tuple #[] ∧ Gp H q2 o2 ((A2 L L.sv[i] (.ack b1 k)).2.map fun d => (L.sv[i].id, d)) ∧ CI pq q2 ∧ o2.length ≤ 1 ∧ K = [Dg b g ob oc (L.set i (A2 L L.sv[i] (.ack b1 k)).1) t (o ++ o2), BW g x (BO H a c), q2] := by
 refine Fn.intro func51 Y Y fun F W => ?_
 obtain ⟨hk, he, hnu, ⟨am, cm, hmv⟩, hrd⟩ := hm.is
 rw [hmv] at hrd
 have hLI := hW.i
 have hcell := hm.a.cells
 have hn := hL.n
 have hid := hL.ids i hi
 have hh4 := hL.h
 have hph := hL.ph
 have hml : (AS k).length ≤ 1 := by unfold AS; split <;> simp
 refine .leOpen (b := b) (g := g) (ob := ob) (oc := oc) (L := L) (t := t) (o := o) O fun rows ov hr => ?_
 have hrl := AQ hr
 have hir : i < rows.length := by omega
 have hra := DI hr hir hi
 refine .sr (.oq (.box Y) ?_)
 rintro v L' ⟨bm, rfl, rfl⟩
 refine .nil (.ptCast (b := bm) (l' := BF m) O (by exact rfl) (.then_n (.seq (.seq (.draw [] [[0, 1, 2, 3, 4, 5, 6, 7, 8, 9, 10, 11, 12, 13]] mixed kQ (.g0 (.mv Y Y (.nf Y Y Y B6 (.kv Y (.loadRd (sz := 8) (j := i * 8 + 1) (p := AV 103 8 (.slice (some ⟨ob, 0, none⟩) L.sv.length oc) L.sv.length (rows.flatMap Cb)) (v := AA L.sv[i].st) Y AF O (fun h hp => AE hp) om ((FT om dQ).trans (by rw [← hra]; rfl))) (.kv Y (.int Y Y Y) (.mv Y Y (.ndec (t := 14) Y (fun h1_14 => ?_) (fun h1_14 => ?_)))))))))))))
 ·refine D.kNT (t := 13) Y h1_14 (.gz Y (.gz Y (.gz Y (.gz Y (.gz Y (.gz Y (.gz Y (.kv Y (.pickT Y Y) (.pf (.condT Y (.rt ?_)))))))))))
  have hz : A2 L L.sv[i] (.ack b1 k) = (L.sv[i], []) := by unfold A2; dsimp only; rw [if_pos (by simpa using h1_14)]
  rw [hz]
  refine .leFold (b := b) (g := g) (ob := ob) (oc := oc) (ov := _) (rows := rows) L t o hr O (by exact rfl) (by exact rfl) (by exact rfl) (by exact rfl) (by exact rfl) (.leCast (L' := L.set i L.sv[i]) (o' := o ++ []) O (La.set_same L hi).symm (append_nil o).symm ?_)
  exact .dn Y Y ⟨pq, [], Y, trivial, CI.rfl pq, Nat.zero_le _, Y⟩
 have h2 : L.sv[i].st = 2 := by simpa using h1_14
 obtain ⟨hb, hk4, hp1⟩ := hw h2
 subst hb
 have hep : Qi L = 2 := by unfold Qi; rw [if_neg om]
 refine D.kNF (t := 13) Y h1_14 (.gv Y (.fieldAddr Y EI) (.gv Y (.to (v' := AA 2) (.load Y AF O (by exact rfl)) (by rw [← he])) (.gv Y (.move Y) (.gv Y (.nilp Y) (.gv Y (.fieldAddr Y EB) (.gv Y (.to (v' := AA 2) (.load Y AF O (by exact rfl)) (by rw [← hep])) (.gv Y (.as (v' := .bool false) (by rfl) (.int Y Y Y)) (.kv Y (.pickF Y Y) (.pf (.condF Y (.sk (.sr (.an Y (.seq (.joinK (ι := Unit) (fun q E => (6, AA (zt k)) :: E) (fun q => [Ar bm (BF m) 67, Ar b (GX g ob oc L t ov) 101, AV 103 8 (.slice (some ⟨ob, 0, none⟩) L.sv.length oc) L.sv.length (rows.flatMap Cb), Aj HR rows, AV 77 20 ov o.length (o.flatMap Ik), BW g x (BO H a c), pq]) (fun q => True) (pre := [Ar bm (BF m) 67, Ar b (GX g ob oc L t ov) 101, AV 103 8 (.slice (some ⟨ob, 0, none⟩) L.sv.length oc) L.sv.length (rows.flatMap Cb), Aj HR rows, AV 77 20 ov o.length (o.flatMap Ik), BW g x (BO H a c), pq]) (ts := [0, 1, 5]) O O ?_ ?_)))))))))))))))
 ·refine .sr (.fa Y Kg (.q (.to (v' := .slice am (AS k).length cm) (.load Y DM O (by exact rfl)) (by rw [← hmv])) Y (.q (.slen Y underlying22 Y) Y (.an Y (.sm Y (.ui Y Y Y (.nt (.condD Y (fun h27 => ?_) (fun h27 => ?_)))))))))
  ·have hk0 : k ≠ 0 := fun e => by subst e; exact absurd h27 dQ
   have hmo : AS k = [zt k] := by unfold AS; rw [if_neg hk0]
   refine .rdShape (p := pq) hrd O (by rw [hmo]; exact Nat.one_pos) fun bf of e => ?_
   subst e
   refine .region (.fa Y Kg (.q (.to (v' := .slice (some ⟨bf, of, none⟩) (AS k).length cm) (.load Y DM O (by exact rfl)) (by rw [← hmv])) Y (.m Y (.q (.to (v' := AA ((0 : Nat) : Int)) (.sub Y Y om) (by rw [hmo]; rfl)) Y (.q (.indexAddr Y Y BC om) Y (.q (.loadEl (p := pq) (i := 0 * 1) (v := AA (zt k)) Y AF O hrd (by rw [hmo]; rfl)) Y (.an Y ?_)))))))
   exact .mk (()) (trivial) O
  refine .sk ?_
  have hk0 : k = 0 := by apply Decidable.byContradiction; intro g0; unfold AS at h27; rw [if_neg g0] at h27; exact h27 (by show (0 : Int) < 1; decide)
  subst hk0
  exact .mk (()) (trivial) O
 rintro _u _
 refine .sm Y (.fa Y Hi (.q (.to (v' := AA 1) (.load Y AF O (by exact rfl)) (by rw [hnu]; rfl)) Y (.q (.as (v' := .bool true) (by rfl) (.int Y Y Y)) Y (.nf Y JK (.oq (.storeRd (sz := 8) (j := i * 8 + 6) Y Y Y Og ?ho32 ?hi33) ?_)))))
 case ho32 => omega
 case hi33 => omega
 rintro v L' rfl
 refine .nil (.slCast (T := 103) (sz := 8) (m' := L.sv.length) (xs' := (rows.set i ((⟨L.sv[i].id, L.sv[i].st, L.sv[i].ep, L.sv[i].ack, L.sv[i].bro, L.sv[i].heard, true, L.sv[i].marks⟩ : Sv), rows[i].2)).flatMap Cb) O Y (FB hir dQ (by rw [← hra]; rfl)) (.then_n (.seq (.sm Y (.nf Y Bv (.u (.ld Y B1) (.nf Y DG (.cv func85 [_] (NO g x (BO H a c)) ?_))))))))
 refine .an Y (.sr ?_)
 by_cases hp1 : L.ph ≤ 1
 ·rw [if_pos hp1] at hc
  subst hc
  refine .m Y (.nf Y JK (.q (.loadRd (sz := 8) (j := i * 8 + 6) (p := AV 103 8 _ L.sv.length ((rows.set i ((⟨L.sv[i].id, L.sv[i].st, L.sv[i].ep, L.sv[i].ack, L.sv[i].bro, L.sv[i].heard, true, L.sv[i].marks⟩ : Sv), rows[i].2)).flatMap Cb)) (v := .bool true) Y FV O (fun h hp => AE hp) om ((FT (by simpa using hir) dQ).trans (by rw [getElem_set_self]; rfl))) Y (.m Y (.gr (.fa Y Hi (.gr (.q (.to (v' := AA 1) (.load Y AF O (by exact rfl)) (by rw [hnu]; rfl)) Y (.gr (.m Y (.gr (.q (.as (v' := .bool false) (by rfl) (.int Y Y Y)) Y (.gr (.m Y (.gr (.fa Y Hi (.gr (.q (.to (v' := AA 1) (.load Y AF O (by exact rfl)) (by rw [hnu]; rfl)) Y ?_)))))))))))))))))
  refine .gr (.m Y (.gr (.q (.as (v' := .bool true) (by rfl) (.int Y Y Y)) Y (.gr (.m Y (.gr (.m Y (.gr (.m Y (.gr (.u (.nilp Y) (.gr (.fa Y Bv (.gr (.u (.ld Y B1) (.gr (.oq (.c func25 [_] (B2 g x (BO H a 1) hLI)) ?_)))))))))))))))))
  rintro v L' ⟨rfl, rfl⟩; rw [D4 hH, ← hh]
  refine .gr (.q (.as (v' := .bool false) (by exact congrArg Value.bool (decide_eq_false (by have := KD (show k ≤ L.h by omega); omega))) (.int Y Y Y)) Y (.gr (.pT Y Y (.gr (.pF Y Y (.pT Y Y (.nt (.condF Y (.sk (.sm Y (.m Y (.fa Y Kg (.q (.to (v' := .slice am (AS k).length cm) (.load Y DM O (by exact rfl)) (by rw [← hmv])) Y (.oq (.call func86 Y Y (vs := [_]) Y (Hb _ (AS k).length (Aq (AS k)) pq hrd (MQ _) om)) ?_))))))))))))))
  rintro v L' ⟨⟨a2, c2, rfl⟩, rfl⟩
  refine .nf Y LP (.oq (.storeRd (sz := 8) (j := i * 8 + 7) Y Y Y HV ?ho69 ?hi70) ?_)
  case ho69 => omega
  case hi70 => omega
  rintro v L' rfl
  refine .slCast (T := 103) (sz := 8) (m' := L.sv.length) (xs' := (rows.set i ((⟨L.sv[i].id, L.sv[i].st, L.sv[i].ep, L.sv[i].ack, L.sv[i].bro, L.sv[i].heard, true, AS k⟩ : Sv), (.slice a2 (AS k).length c2))).flatMap Cb) O Y (EK hir dQ Y) (.nf Y B6 (.oq (.storeRd (sz := 8) (j := i * 8 + 1) Y Y Y BV ?ho74 ?hi75) ?_))
  case ho74 => omega
  case hi75 => omega
  rintro v L' rfl
  refine .nil (.slCast (T := 103) (sz := 8) (m' := L.sv.length) (xs' := (rows.set i ((L.sv[i].answ k), (.slice a2 (AS k).length c2))).flatMap Cb) O Y (EK hir dQ Y) (.bigAt (f := HR) (i := i) hir O (.bigTo (f := HR) (l := rows) (i := i) hir ((L.sv[i].answ k), (.slice a2 (AS k).length c2)) (p := AV 3 1 (.slice a2 (AS k).length c2) (AS k).length (Aq (AS k))) Y O (.leFold (b := b) (g := g) (ob := ob) (oc := oc) (ov := _) (rows := (rows.set i ((L.sv[i].answ k), (.slice a2 (AS k).length c2)))) (L.set i ((L.sv[i].answ k))) t o (hr.set i Y) O (by unfold GX; rw [La.set_len]; exact rfl) (La.set_len _ _ _).symm (by exact rfl) (by exact rfl) (by exact rfl) (.then_n (.seq ?_))))))
  refine .leOpen (b := b) (g := g) (ob := ob) (oc := oc) (L := (L.set i (L.sv[i].answ k))) (t := t) (o := o) O fun rows ov hr => ?_
  have hrl := AQ hr
  refine .region (.m Y (.nf Y BR (.u (.ld Y AF) (.q (.as (v' := .bool false) (by exact congrArg Value.bool (decide_eq_false (by show ¬ L.ph = 2; omega))) (.int Y Y Y)) Y (.m Y (.gr (.m Y (.gr (.u (.nilp Y) (.gr (.fa Y BR (.gr (.u (.ld Y AF) (.gr (.q (.as (v' := .bool false) (by exact congrArg Value.bool (decide_eq_false (by show ¬ L.ph = 3; omega))) (.int Y Y Y)) Y (.pF Y Y (.nil (.leFold (b := b) (g := g) (ob := ob) (oc := oc) (ov := _) (rows := rows) (L.set i (L.sv[i].answ k)) t o hr O (by exact rfl) (by exact rfl) (by exact rfl) (by exact rfl) (by exact rfl) (.then_n (.condF Y (.skip (.done_n ?_))))))))))))))))))))))
  have hz : A2 L L.sv[i] (.ack true k) = ((L.sv[i].answ k), []) := by unfold A2; dsimp only; rw [if_neg (fun e => e h2), if_neg om]
  rw [hz]
  refine .leCast (L' := L.set i (L.sv[i].answ k)) (o' := o ++ []) O Y (append_nil o).symm ?_
  exact .dn Y Y ⟨pq, [], Y, trivial, CI.rfl pq, Nat.zero_le _, Y⟩
 rw [if_neg hp1] at hc
 subst hc
 refine .m Y (.nf Y JK (.q (.loadRd (sz := 8) (j := i * 8 + 6) (p := AV 103 8 _ L.sv.length ((rows.set i ((⟨L.sv[i].id, L.sv[i].st, L.sv[i].ep, L.sv[i].ack, L.sv[i].bro, L.sv[i].heard, true, L.sv[i].marks⟩ : Sv), rows[i].2)).flatMap Cb)) (v := .bool true) Y FV O (fun h hp => AE hp) om ((FT (by simpa using hir) dQ).trans (by rw [getElem_set_self]; rfl))) Y (.m Y (.gr (.fa Y Hi (.gr (.q (.to (v' := AA 1) (.load Y AF O (by exact rfl)) (by rw [hnu]; rfl)) Y (.gr (.m Y (.gr (.q (.as (v' := .bool false) (by rfl) (.int Y Y Y)) Y (.gr (.m Y (.gr (.fa Y Hi (.gr (.q (.to (v' := AA 1) (.load Y AF O (by exact rfl)) (by rw [hnu]; rfl)) Y ?_)))))))))))))))))
 refine .gr (.m Y (.gr (.q (.as (v' := .bool false) (by rfl) (.int Y Y Y)) Y (.gr (.m Y (.gk (.gk (.gk (.gk (.gk (.gk (.gk (.gr (.pF Y Y (.gr (.pF Y Y (.pT Y Y (.nt (.condF Y (.sk (.sm Y (.m Y (.fa Y Kg (.q (.to (v' := .slice am (AS k).length cm) (.load Y DM O (by exact rfl)) (by rw [← hmv])) Y (.oq (.call func86 Y Y (vs := [_]) Y (Hb _ (AS k).length (Aq (AS k)) pq hrd (MQ _) om)) ?_)))))))))))))))))))))))))
 rintro v L' ⟨⟨a2, c2, rfl⟩, rfl⟩
 refine .nf Y LP (.oq (.storeRd (sz := 8) (j := i * 8 + 7) Y Y Y HV ?ho106 ?hi107) ?_)
 case ho106 => omega
 case hi107 => omega
 rintro v L' rfl
 refine .slCast (T := 103) (sz := 8) (m' := L.sv.length) (xs' := (rows.set i ((⟨L.sv[i].id, L.sv[i].st, L.sv[i].ep, L.sv[i].ack, L.sv[i].bro, L.sv[i].heard, true, AS k⟩ : Sv), (.slice a2 (AS k).length c2))).flatMap Cb) O Y (EK hir dQ Y) (.nf Y B6 (.oq (.storeRd (sz := 8) (j := i * 8 + 1) Y Y Y BV ?ho111 ?hi112) ?_))
 case ho111 => omega
 case hi112 => omega
 rintro v L' rfl
 refine .nil (.slCast (T := 103) (sz := 8) (m' := L.sv.length) (xs' := (rows.set i ((L.sv[i].answ k), (.slice a2 (AS k).length c2))).flatMap Cb) O Y (EK hir dQ Y) (.bigAt (f := HR) (i := i) hir O (.bigTo (f := HR) (l := rows) (i := i) hir ((L.sv[i].answ k), (.slice a2 (AS k).length c2)) (p := AV 3 1 (.slice a2 (AS k).length c2) (AS k).length (Aq (AS k))) Y O (.leFold (b := b) (g := g) (ob := ob) (oc := oc) (ov := _) (rows := (rows.set i ((L.sv[i].answ k), (.slice a2 (AS k).length c2)))) (L.set i ((L.sv[i].answ k))) t o (hr.set i Y) O (by unfold GX; rw [La.set_len]; exact rfl) (La.set_len _ _ _).symm (by exact rfl) (by exact rfl) (by exact rfl) (.then_n (.seq ?_))))))
 refine .leOpen (b := b) (g := g) (ob := ob) (oc := oc) (L := (L.set i (L.sv[i].answ k))) (t := t) (o := o) O fun rows ov hr => ?_
 have hrl := AQ hr
 refine .region (.m Y (.nf Y BR (.u (.ld Y AF) (.ui Y Y Y (.m Y (.dec (t := 89) Y (fun h11_89 => ?_) (fun h11_89 => ?_)))))))
 ·refine .kDT (t := 88) Y h11_89 (.gk (.gk (.gk (.gk (.gk (.pT Y Y (.nil (.leFold (b := b) (g := g) (ob := ob) (oc := oc) (ov := _) (rows := rows) (L.set i (L.sv[i].answ k)) t o hr O (by exact rfl) (by exact rfl) (by exact rfl) (by exact rfl) (by exact rfl) (.then_n (.condT Y (.region (.m Y (.m Y (.oq (.c func87 [_, _] (HF b g ob oc (L.set i (L.sv[i].answ k)) t o x H a 2 hH hW hh hh4.1 (by show L.ph = 2 ∨ L.ph = 3; omega) i (by rw [La.set_len]; exact hi) k hk4 (by rw [La.set_at]; rfl) (by rw [La.set_len]; exact hn) ho pq)) ?_))))))))))))))
  rintro v L' ⟨q3, m3, rfl, hg, hm3, rfl⟩; rw [La.set_at, La.set2]
  refine .nil (.done_n ?_)
  have hz : A2 L L.sv[i] (.ack true k) = ((L.sv[i].answ k).sent (zt L.h), [.sync ((L.sv[i].answ k).marks.headD 0) L.h]) := by unfold A2; dsimp only; rw [if_neg (fun e => e h2), if_pos om]
  rw [hz, show (L.sv[i].answ k).marks.headD 0 = zt k from Fd k]
  exact .dn Y Y ⟨q3, [(L.sv[i].id, m3)], Y, ⟨Y, hm3, trivial⟩, hg, Nat.le_refl _, Y⟩
 refine .kDF (t := 88) Y h11_89 (.gr (.m Y (.gr (.u (.nilp Y) (.gr (.fa Y BR (.gr (.u (.ld Y AF) (.gr (.q (.as (v' := .bool true) (by exact congrArg Value.bool (decide_eq_true (by have e : ¬ L.ph = 2 := h11_89; show L.ph = 3; omega))) (.int Y Y Y)) Y (.pF Y Y (.nil (.leFold (b := b) (g := g) (ob := ob) (oc := oc) (ov := _) (rows := rows) (L.set i (L.sv[i].answ k)) t o hr O (by exact rfl) (by exact rfl) (by exact rfl) (by exact rfl) (by exact rfl) (.then_n (.condT Y (.region (.m Y (.m Y (.oq (.c func87 [_, _] (HF b g ob oc (L.set i (L.sv[i].answ k)) t o x H a 2 hH hW hh hh4.1 (by show L.ph = 2 ∨ L.ph = 3; omega) i (by rw [La.set_len]; exact hi) k hk4 (by rw [La.set_at]; rfl) (by rw [La.set_len]; exact hn) ho pq)) ?_)))))))))))))))))))
 rintro v L' ⟨q3, m3, rfl, hg, hm3, rfl⟩; rw [La.set_at, La.set2]
 refine .nil (.done_n ?_)
 have hz : A2 L L.sv[i] (.ack true k) = ((L.sv[i].answ k).sent (zt L.h), [.sync ((L.sv[i].answ k).marks.headD 0) L.h]) := by unfold A2; dsimp only; rw [if_neg (fun e => e h2), if_pos om]
 rw [hz, show (L.sv[i].answ k).marks.headD 0 = zt k from Fd k]
 exact .dn Y Y ⟨q3, [(L.sv[i].id, m3)], Y, ⟨Y, hm3, trivial⟩, hg, Nat.le_refl _, Y⟩
theorem IK (b g ob oc : Nat) (L : La) (t : Int) (x d : Nat) (s : Ld) (H : List En) (N Cn : Int) (hH : Hz H) (hh : L.h = H.length) (hL : FX L) (hS : KS L H s (N + 4000000 * L.ph) (Cn + 2 * L.ph)) (hC : Cn + 100 < 4294967295) (hN : N + 100000000 ≤ 1000000000000) (i : Nat) (hi : i < L.sv.length) (pq : HP) (m : Ms) (u : Um) (hm : Nm pq m u) (hw : Ga L L.sv[i] u) : Fn prog 18 #[AG b, AA ((i : Int) + 1), .agg (BF m).toArray] [Dg b g ob oc L t [], BW g x (s).Λ, CX x d (s).ω, Bg d (s).δ, pq] fun v K => ∃ o2 s2 q2, (∃ a c, v = .slice a o2.length c) ∧ HC H pq (CW Ck L i (L.sv[i].hrd t) u) o2 s2 q2 N Cn 31 ∧ K = [Dg b g ob oc (CW Ck L i (L.sv[i].hrd t) u).1 t [], BW g x (s2).Λ, CX x d (s2).ω, Bg d (s2).δ, q2, AV 77 20 v o2.length (o2.flatMap Ik)] := by
 refine Fn.intro func18 Y Y fun F W => ?_
 have hcell := hm.a.cells
 have hn := hL.n
 have hid := hL.ids i hi
 have hh4 := hL.h
 have hph := hL.ph
 have hL1 := hL.heard hi t
 have hi1 : i < (L.set i (L.sv[i].hrd t)).sv.length := by rw [La.set_len]; exact hi
 have he1 : (L.set i (L.sv[i].hrd t)).sv[i] = (L.sv[i].hrd t) := La.set_at L (L.sv[i].hrd t) hi1
 have hw1 : Ga (L.set i (L.sv[i].hrd t)) (L.set i (L.sv[i].hrd t)).sv[i] u := by rw [he1]; exact hw.hrd hi
 refine .sr (.oq (.box Y) ?_)
 rintro v L' ⟨bm, rfl, rfl⟩
 refine .a Y (.nil (.ptCast (b := bm) (l' := BF m) O (by exact rfl) (.then_n (.sm Y (.m Y (.cv func49 [_, _] (QB b g ob oc L t [] i hi hn hL.ids) ?_))))))
 refine .an Y (.seq (.seq (.leOpen (b := b) (g := g) (ob := ob) (oc := oc) (L := L) (t := t) (o := []) O fun rows ov hr => ?_)))
 have hrl := AQ hr
 have hir : i < rows.length := by omega
 have hra := DI hr hir hi
 refine .region (.m Y (.q (.as (v' := .bool false) (by rfl) (.ptreq Y Y underlying108)) Y (.m Y (.gr (.m Y (.gr (.u (.nilp Y) (.gr (.fa Y BR (.gr (.u (.ld Y AF) (.gr (.q (.as (v' := .bool false) (by exact congrArg Value.bool (decide_eq_false om)) (.int Y Y Y)) Y (.pF Y Y (.nt (.condF Y (.sk (.sm Y (.m Y (.nf Y GF (.u (.ld Y AF) (.nf Y QV (.oq (.storeRd (sz := 8) (j := i * 8 + 5) Y Y Y BV ?ho20 ?hi21) ?_)))))))))))))))))))))))
 case ho20 => omega
 case hi21 => omega
 rintro v L' rfl
 refine .nil (.slCast (T := 103) (sz := 8) (m' := L.sv.length) (xs' := (rows.set i ((L.sv[i].hrd t), rows[i].2)).flatMap Cb) O Y (FB hir dQ (by rw [← hra]; rfl)) ?_)
 rw [EW hir (r := ((L.sv[i].hrd t), rows[i].2)) (by unfold HR; rw [hra]; rfl)]
 refine .leFold (b := b) (g := g) (ob := ob) (oc := oc) (ov := _) (rows := (rows.set i ((L.sv[i].hrd t), rows[i].2))) (L.set i ((L.sv[i].hrd t))) t [] (hr.set i (hr.cell _ (getElem_mem hir))) O (by unfold GX; rw [La.set_len]; exact rfl) (La.set_len _ _ _).symm (by exact rfl) (by exact rfl) (by exact rfl) (.then_n (.seq (.joinK (ι := Lo × HP) (fun q E => E) (fun q => [Dg b g ob oc (CR L i (L.sv[i].hrd t) u).1 t q.1, BW g x s.Λ, CX x d s.ω, Bg d s.δ, q.2]) (fun q => HC H pq (CR L i (L.sv[i].hrd t) u) q.1 s q.2 N Cn 1) (pre := [Dg b g ob oc (L.set i (L.sv[i].hrd t)) t [], BW g x s.Λ, CX x d s.ω, Bg d s.δ, pq]) (ts := [0, 6]) O O ?_ ?_)))
 ·refine .sr (.fa Y Kn (.q (.to (v' := AA m.kind) (.load Y AF O (by exact rfl)) (by exact rfl)) Y (.nt (.block (.sr (.ui Y Y Y (.an Y (.condD Y (fun h29 => ?_) (fun h29 => ?_)))))))))
  ·have hu := hm.k1 h29
   subst hu
   refine .region (.m Y (.m Y (.q (.loadAs (vs := BF m) Y DJ O (by simp [BF]) Y) Y (.cv func50 [_, _, _] (Rz b g ob oc (L.set i (L.sv[i].hrd t)) t [] i hi1 m hcell hm.is.2 (by rw [La.set_len]; exact hn) (by simp)) ?_))))
   refine .nil (.blk_n (.then_n (.leCast (L' := (CR L i (L.sv[i].hrd t) .info).1) (o' := (if L.ph = 0 then [] else [(L.sv[i].id, FK 2 2 0)])) O (by rw [he1, JV, La.set2]; exact rfl) (by rw [he1]; exact nil_append _) ?_)))
   exact .mk (((if L.ph = 0 then [] else [(L.sv[i].id, FK 2 2 0)]), pq)) ((by exact FR hL hS hh hi hw t (by by_cases h0 : L.ph = 0 <;> simp only [A2, h0, if_true, if_false, map_nil, map_cons] <;> first | trivial | exact ⟨rfl, AAO, trivial⟩) (CI.rfl pq) (by split <;> simp))) O
  refine .sr (.ui Y Y Y (.an Y (.condD Y (fun h35 => ?_) (fun h35 => ?_))))
  ·obtain ⟨b1, k, hu⟩ := hm.k3 h35
   subst hu
   have hep := hS.Λ
   rw [hep]
   refine .region (.m Y (.m Y (.q (.loadAs (vs := BF m) Y DJ O (by simp [BF]) Y) Y (.oq (.c func51 [_, _, _] (Ol b g ob oc (L.set i (L.sv[i].hrd t)) t [] x H (if L.ph = 0 then 1 else 2) (if L.ph ≤ 1 then 1 else 2) hH (by rw [← hep]; exact hS.w.w) hh hL1 Y i hi1 pq m b1 k hm hw1 (by simp))) ?_))))
   rintro v L' ⟨q1, o1, rfl, hO, hG, hO1, rfl⟩; rw [← hep]
   refine .nil (.blk_n (.then_n (.leCast (L' := (CR L i (L.sv[i].hrd t) (.ack b1 k)).1) (o' := o1) O (by rw [he1, JV, La.set2]; exact rfl) (nil_append _) ?_)))
   exact .mk ((o1, q1)) ((by exact FR hL hS hh hi hw t (by rw [he1, JV] at hO; exact hO) (hG) (hO1))) O
  refine .sr (.ui Y Y Y (.an Y (.condD Y (fun h41 => ?_) (fun h41 => ?_))))
  ·have hu := hm.k5 h41
   subst hu
   have hw' := hw
   obtain ⟨hw4, hw2⟩ := hw'
   have hz : A2 L (L.sv[i].hrd t) .synced = ((L.sv[i].hrd t).joined, if L.ph = 3 then [.up L.com] else []) := rfl
   refine .leOpen (b := b) (g := g) (ob := ob) (oc := oc) (L := (L.set i (L.sv[i].hrd t))) (t := t) (o := []) O fun rows ov hr => ?_
   have hrl := AQ hr
   rw [La.set_len] at hrl
   have hir : i < rows.length := by omega
   have hra : rows[i].1 = (L.sv[i].hrd t) := (DI hr hir hi1).trans he1
   refine .seq (.seq (.draw [] [[0, 1, 2, 3, 4, 5, 6, 7, 8, 9, 10, 11, 12, 13]] mixed kQ (.g0 (.mv Y Y (.nf Y Y Y B6 (.kv Y (.loadRd (sz := 8) (j := i * 8 + 1) (p := AV 103 8 _ _ (rows.flatMap Cb)) (v := AA 4) Y AF O (fun h hp => AE hp) om (((FT om dQ).trans (congrArg (fun r : Sv => (Cb (r, rows[i].2))[1]?) hra)).trans (congrArg (fun z : Int => some (AA z)) hw4))) ?_))))))
   refine D.kv Y (.as (v' := .bool false) (by rfl) (.int Y Y Y)) (.mv Y Y (.gv Y (.fieldAddr Y EI) (.gv Y (.to (v' := AA 2) (.load Y AF O (by exact rfl)) (by rw [← hm.is.2])) (.gv Y (.move Y) (.gv Y (.nilp Y) (.gv Y (.fieldAddr Y EB) (.gv Y (.to (v' := AA 2) (.load Y AF O (by exact rfl)) (by show AA (Qi L) = _; unfold Qi; rw [if_neg om])) (.gv Y (.as (v' := .bool false) (by rfl) (.int Y Y Y)) (.kv Y (.pickF Y Y) (.pf (.condF Y (.sk (.sm Y (.m Y (.m Y (.nf Y MS (.q (.loadRd (sz := 8) (j := i * 8 + 4) (p := AV 103 8 _ _ (rows.flatMap Cb)) (v := AA (L.sv[i].hrd t).bro) Y AF O (fun h hp => AE hp) om ((FT om dQ).trans (congrArg (fun r : Sv => (Cb (r, rows[i].2))[4]?) hra))) Y ?_)))))))))))))))))
   refine .nf Y B6 (.oq (.storeRd (sz := 8) (j := i * 8 + 1) Y Y Y BV ?ho52 ?hi53) ?_)
   case ho52 => omega
   case hi53 => first | omega | (rw [La.set_len]; omega)
   rintro v L' rfl
   refine .slCast (T := 103) (sz := 8) (m' := (L.set i (L.sv[i].hrd t)).sv.length) (xs' := (rows.set i ((⟨L.sv[i].id, 5, L.sv[i].ep, L.sv[i].ack, L.sv[i].bro, t, L.sv[i].cnt, L.sv[i].marks⟩ : Sv), rows[i].2)).flatMap Cb) O Y (FB hir dQ (by show (Cb (rows[i].1, rows[i].2)).set 1 _ = _; rw [hra]; rfl)) (.nf Y JP (.oq (.storeRd (sz := 8) (j := i * 8 + 3) Y Y Y BV ?ho57 ?hi58) ?_))
   case ho57 => omega
   case hi58 => first | omega | (rw [La.set_len]; omega)
   rintro v L' rfl
   refine .nil (.slCast (T := 103) (sz := 8) (m' := (L.set i (L.sv[i].hrd t)).sv.length) (xs' := (rows.set i ((L.sv[i].hrd t).joined, rows[i].2)).flatMap Cb) O Y (EK hir dQ Y) ?_)
   rw [EW hir (r := ((L.sv[i].hrd t).joined, rows[i].2)) (by unfold HR; rw [hra]; rfl)]
   refine .leFold (b := b) (g := g) (ob := ob) (oc := oc) (ov := _) (rows := (rows.set i ((L.sv[i].hrd t).joined, rows[i].2))) (L.set i ((L.sv[i].hrd t).joined)) t [] (by rw [← La.set2 L i (L.sv[i].hrd t)]; exact hr.set i (hr.cell _ (getElem_mem hir))) O (by unfold GX; rw [La.set_len, La.set_len]; exact rfl) (by rw [La.set_len, La.set_len]) (by exact rfl) (by exact rfl) (by exact rfl) (.then_n (.seq (.leOpen (b := b) (g := g) (ob := ob) (oc := oc) (L := (L.set i (L.sv[i].hrd t).joined)) (t := t) (o := []) O fun rows ov hr => ?_)))
   have hrl := AQ hr
   refine .region (.m Y (.nf Y BR (.u (.ld Y AF) (.ui Y Y Y (.nil (.leFold (b := b) (g := g) (ob := ob) (oc := oc) (ov := _) (rows := rows) (L.set i (L.sv[i].hrd t).joined) t [] hr O (by exact rfl) (by exact rfl) (by exact rfl) (by exact rfl) (by exact rfl) (.then_n (.condD Y (fun h71 => ?_) (fun h71 => ?_)))))))))
   ·refine .leOpen (b := b) (g := g) (ob := ob) (oc := oc) (L := (L.set i (L.sv[i].hrd t).joined)) (t := t) (o := []) O fun rows ov hr => ?_
    have hrl := AQ hr
    refine .region (.m Y (.m Y (.m Y (.nf Y FP (.u (.ld Y AF) (.q (.to (v' := .agg (BF (FK 6 0 L.com)).toArray) (.buildN (pl := [(0, 1), (1, 1), (2, 1), (3, 1), (4, 1), (5, 1), (6, 1), (7, 1), (8, 10), (18, 1)]) (us := [(0, _), (2, _)]) (cells := BF (FK 6 0 L.com)) underlying67 kQ CO Y Y) Y) Y (.leFold (b := b) (g := g) (ob := ob) (oc := oc) (ov := _) (rows := rows) (L.set i (L.sv[i].hrd t).joined) t [] hr O (by exact rfl) (by exact rfl) (by exact rfl) (by exact rfl) (by exact rfl) (.oq (.c func52 [_, _, _] (Mm b g ob oc (L.set i (L.sv[i].hrd t).joined) t [] ((i : Int) + 1) (FK 6 0 L.com) (CT Y) (by simp))) ?_))))))))
    rintro v L' ⟨rfl, rfl⟩; rw [← hid]
    refine .nil (.blk_n (.then_n (.leCast (L' := (CR L i (L.sv[i].hrd t) .synced).1) (o' := [(L.sv[i].id, (FK 6 0 L.com))]) O (by exact rfl) (by exact rfl) ?_)))
    exact .mk (([(L.sv[i].id, (FK 6 0 L.com))], pq)) ((by exact FR hL hS hh hi hw t (by rw [hz, if_pos (show L.ph = 3 from h71)]; exact ⟨rfl, AAF hL.com64, trivial⟩) (CI.rfl pq) (Nat.le_refl _))) O
   refine .skip (.blk_n (.then_n (.leCast (L' := (CR L i (L.sv[i].hrd t) .synced).1) (o' := []) O (by exact rfl) (by exact rfl) ?_)))
   exact .mk (([], pq)) ((by exact FR hL hS hh hi hw t (by rw [hz, if_neg (show ¬ L.ph = 3 from h71)]; trivial) (CI.rfl pq) (Nat.zero_le _))) O
  refine .sr (.ui Y Y Y (.an Y (.condD Y (fun h80 => ?_) (fun h80 => ?_))))
  ·obtain ⟨z, hu, hzx⟩ := hm.k8 h80
   subst hu
   have hw' := hw
   obtain ⟨hw5, hw2, hwz⟩ := hw'
   have hep := hS.Λ
   refine .leOpen (b := b) (g := g) (ob := ob) (oc := oc) (L := (L.set i (L.sv[i].hrd t))) (t := t) (o := []) O fun rows ov hr => ?_
   have hrl := AQ hr
   rw [La.set_len] at hrl
   have hir : i < rows.length := by omega
   have hra : rows[i].1 = (L.sv[i].hrd t) := (DI hr hir hi1).trans he1
   refine .seq (.draw [] [[0, 1, 2, 3, 4, 5, 6, 7, 8, 9, 10, 11, 12, 13, 14, 15, 16, 17, 18, 19, 20, 21, 22, 23]] mixed kQ (.go [Ar bm (BF m) 67, Ar b _ 101, AV 103 8 _ _ (rows.flatMap Cb), BW g x s.Λ] O (.mv Y Y (.nf Y Y Y B6 (.kv Y (.loadRd (sz := 8) (j := i * 8 + 1) (p := AV 103 8 _ _ (rows.flatMap Cb)) (v := AA 5) Y AF O (fun h hp => AE hp) om (((FT om dQ).trans (congrArg (fun r : Sv => (Cb (r, rows[i].2))[1]?) hra)).trans (congrArg (fun z : Int => some (AA z)) hw5))) ?_)))))
   refine D.kv Y (.as (v' := .bool true) (by rfl) (.int Y Y Y)) (.mv Y Y (.gv Y (.fieldAddr Y Cx) (.gv Y (.to (v' := AA z) (.load Y AF O (by exact rfl)) (by rw [← hzx])) (.gv Y (.move Y) (.gv Y (.nilp Y) (.gv Y (.fieldAddr Y JP) (.gv Y (.loadRd (sz := 8) (j := i * 8 + 3) (p := AV 103 8 _ _ (rows.flatMap Cb)) (v := AA (L.sv[i].hrd t).ack) Y AF O (fun h hp => AE hp) om ((FT om dQ).trans (congrArg (fun r : Sv => (Cb (r, rows[i].2))[3]?) hra))) ?_)))))))
   refine D.gv Y (.int Y Y Y) (.kv Y (.pickT Y Y) (.mv Y Y (.dec (t := 96) Y (fun h16_96 => ?_) (fun h16_96 => ?_))))
   ·have hz : A2 L (L.sv[i].hrd t) (.acked z) = (((L.sv[i].hrd t).acks z), []) := by unfold A2; dsimp only; rw [if_pos ⟨hw5, h16_96, hwz⟩]
    refine D.kDT (t := 94) Y h16_96 (.kDT (t := 95) Y h16_96 (.gv Y (.fieldAddr Y Cx) (.gv Y (.to (v' := AA z) (.load Y AF O (by exact rfl)) (by rw [← hzx])) (.gv Y (.move Y) (.gv Y (.nilp Y) (.gv Y (.fieldAddr Y Bv) (.gv Y (.ld Y B1) (.gm (t := 96) Y Y Y kQ (.c func25 [_] (B2 g x s.Λ (Em.w hS).w.i)) O ?_))))))))
    rw [KS.last hS hH hh]
    refine D.gv Y (.as (v' := .bool true) (by exact congrArg Value.bool (decide_eq_true hwz)) (.int Y Y Y)) (.kv Y (.pickT Y Y) (.pf (.condT Y (.region (.m Y (.fa Y Cx (.q (.to (v' := AA z) (.load Y AF O (by exact rfl)) (by rw [← hzx])) Y (.nf Y JP (.oq (.storeRd (sz := 8) (j := i * 8 + 3) Y Y Y BV ?ho98 ?hi99) ?_)))))))))
    case ho98 => omega
    case hi99 => first | omega | (rw [La.set_len]; omega)
    rintro v L' rfl
    refine .nil (.slCast (T := 103) (sz := 8) (m' := (L.set i (L.sv[i].hrd t)).sv.length) (xs' := (rows.set i (((L.sv[i].hrd t).acks z), rows[i].2)).flatMap Cb) O Y (FB hir dQ (by show (Cb (rows[i].1, rows[i].2)).set 3 _ = _; rw [hra]; rfl)) ?_)
    rw [EW hir (r := (((L.sv[i].hrd t).acks z), rows[i].2)) (by unfold HR; rw [hra]; rfl)]
    refine .leFold (b := b) (g := g) (ob := ob) (oc := oc) (ov := _) (rows := (rows.set i (((L.sv[i].hrd t).acks z), rows[i].2))) (L.set i (((L.sv[i].hrd t).acks z))) t [] (by rw [← La.set2 L i (L.sv[i].hrd t)]; exact hr.set i (hr.cell _ (getElem_mem hir))) O (by unfold GX; rw [La.set_len, La.set_len]; exact rfl) (by rw [La.set_len, La.set_len]) (by exact rfl) (by exact rfl) (by exact rfl) (.blk_n (.then_n (.leCast (L' := (CR L i (L.sv[i].hrd t) (.acked z)).1) (o' := []) O (by unfold CR; rw [hz]) (Y) ?_)))
    exact .mk (([], pq)) ((by exact FR hL hS hh hi hw t (by rw [hz]; trivial) (CI.rfl pq) (Nat.zero_le _))) O
   have hz : A2 L (L.sv[i].hrd t) (.acked z) = ((L.sv[i].hrd t), []) := by unfold A2; dsimp only; rw [if_neg (fun e => h16_96 e.2.1)]
   refine D.kDF (t := 94) Y h16_96 (.kDF (t := 95) Y h16_96 (.gz Y (.gz Y (.gz Y (.gz Y (.gz Y (.gz Y (.gz Y (.gz Y (.kv Y (.pickF Y Y) (.ph (.fin (.leFold (b := b) (g := g) (ob := ob) (oc := oc) (ov := _) (rows := rows) (L.set i (L.sv[i].hrd t)) t [] hr O (by exact rfl) (by first | exact rfl | exact (La.set_len _ _ _).symm) (by exact rfl) (by exact rfl) (by exact rfl) (.then_n (.condF Y (.skip (.blk_n (.then_n (.leCast (L' := (CR L i (L.sv[i].hrd t) (.acked z)).1) (o' := []) O (by unfold CR; rw [hz]) (Y) ?_)))))))))))))))))))
   exact .mk (([], pq)) ((by exact FR hL hS hh hi hw t (by rw [hz]; trivial) (CI.rfl pq) (Nat.zero_le _))) O
  have hu := hm.k0 h29 h35 h41 h80
  subst hu
  have hz : A2 L (L.sv[i].hrd t) .pong = ((L.sv[i].hrd t), []) := rfl
  refine .skip (.blk_n (.then_n (.leCast (L' := (CR L i (L.sv[i].hrd t) .pong).1) (o' := []) O (by unfold CR; rw [hz]) (Y) ?_)))
  exact .mk (([], pq)) ((by exact FR hL hS hh hi hw t (by rw [hz]; trivial) (CI.rfl pq) (Nat.zero_le _))) O
 rintro ⟨o1, q1⟩ hG
 dsimp only
 dsimp only at hG
 obtain ⟨RR, hRR⟩ : ∃ r, (CR L i (L.sv[i].hrd t) u) = r := ⟨_, rfl⟩
 rw [hRR] at hG ⊢
 have hA : CW Ck L i (L.sv[i].hrd t) u = ((Dl Ck RR.1).1, RR.2 ++ (Dl Ck RR.1).2) := by unfold CW; rw [hRR]
 rw [hA]
 refine .seq (.seq (.leOpen (b := b) (g := g) (ob := ob) (oc := oc) (L := RR.1) (t := t) (o := o1) O fun rows ov hr => ?_))
 have hrl := AQ hr
 refine .region (.m Y (.nf Y BR (.u (.ld Y AF) (.q (.as (v' := .bool true) (by exact congrArg Value.bool (by rw [decide_eq_false (show ¬ RR.1.ph = 4 by have := hG.le.ph; omega)]; rfl)) (.int Y Y Y)) Y (.nil (.leFold (b := b) (g := g) (ob := ob) (oc := oc) (ov := _) (rows := rows) RR.1 t o1 hr O (by exact rfl) (by exact rfl) (by exact rfl) (by exact rfl) (by exact rfl) (.then_n (.condT Y (.region (.m Y (.oq (.c func43 [_] (Ig b g ob oc RR.1 t o1 x d s H N Cn hH hG.hh hG.le hG.ls om om (by have := hG.len; omega) q1)) ?_)))))))))))
 rintro v L' ⟨o2, s2, q2, rfl, hG2, rfl⟩
 refine .nt (.sm Y (.oq (.c func44 [_] (IY b g ob oc (Dl Ck RR.1).1 t (o1 ++ o2))) ?_))
 rintro v L' ⟨av, cv, rfl, rfl⟩
 refine .an Y (.ret ?_)
 exact .dn Y Y ⟨o1 ++ o2, s2, q2, ⟨av, cv, Y⟩, (by have h9 := LH hG hG2; exact h9), Y⟩
theorem Rl (b g ob oc : Nat) (L : La) (t : Int) (x d : Nat) (s : Ld) (H : List En) (N Cn : Int) (hH : Hz H) (hh : L.h = H.length) (hL : FX L) (hS : KS L H s (N + 4000000 * L.ph) (Cn + 2 * L.ph)) (hC : Cn + 100 < 4294967295) (hN : N + 100000000 ≤ 1000000000000) (ht : 0 ≤ t ∧ t < 7) (pq : HP) : Fn prog 15 #[AG b] [Dg b g ob oc L t [], BW g x (s).Λ, CX x d (s).ω, Bg d (s).δ, pq] fun v K => ∃ o2 s2 q2, (∃ a c, v = .slice a o2.length c) ∧ HC H pq ((Dl Ck L).1, KF L ++ (Dl Ck L).2) o2 s2 q2 N Cn 36 ∧ K = [Dg b g ob oc (Dl Ck L).1 (t + 1) [], BW g x (s2).Λ, CX x d (s2).ω, Bg d (s2).δ, q2, AV 77 20 v o2.length (o2.flatMap Ik)] := by
 refine Fn.intro func15 Y Y fun F W => ?_
 have hn := hL.n
 have hph := hL.ph
 have hG := WC (pq := pq) hL hS hh
 refine .leOpen (b := b) (g := g) (ob := ob) (oc := oc) (L := L) (t := t) (o := []) O fun rows ov hr => ?_
 have hrl := AQ hr
 refine .sr (.an Y (.seq (.sm Y (.nf Y BR (.u (.ld Y AF) (.q (.as (v' := .bool false) (by exact congrArg Value.bool (decide_eq_false om)) (.int Y Y Y)) Y (.nt (.condF Y (.sk (.sm Y (.nf Y GF (.u (.ld Y AF) (.q (.add Y Y om) Y (.nf Y GF (.oq (.store Y Y Y BV ?c14 (Bk _ _)) ?_)))))))))))))))
 case c14 => simp [GX]
 rintro v L' rfl
 refine .nil (.leFold (b := b) (g := g) (ob := ob) (oc := oc) (ov := _) (rows := rows) L (t + 1) [] hr O (by exact rfl) (by exact rfl) (by exact rfl) (by exact rfl) (by exact rfl) (.then_n (.sr (.an Y (.seq (.seq (.leOpen (b := b) (g := g) (ob := ob) (oc := oc) (L := L) (t := (t + 1)) (o := []) O fun rows ov hr => ?_)))))))
 have hrl := AQ hr
 refine .region (.m Y (.nf Y CH (.u (.ld Y F6) (.q (.slen Y underlying99 Y) Y (.m Y (.nil (.leFold (b := b) (g := g) (ob := ob) (oc := oc) (ov := _) (rows := rows) L (t + 1) [] hr O (by exact rfl) (by exact rfl) (by exact rfl) (by exact rfl) (by exact rfl) (.then_n (.block (.loopK (ι := Nat × Nat) (fun q E => (23, AA q.1) :: (3, AA q.2) :: E) (fun q => [Dg b g ob oc L (t + 1) []]) (fun q => q.1 ≤ L.sv.length ∧ q.2 ≤ q.1 + 1) (fun q => L.sv.length - q.1) (0, 1) (ts := [0, 2, 21, 22]) O (⟨Nat.zero_le _, by decide⟩) O O ?_))))))))))
 rintro ⟨i, c⟩ ⟨hi, hc⟩
 dsimp only
 dsimp only at hi hc
 refine .sr (.ui Y Y Y (.nt (.seq (.condD Y (fun h24 => ?_) (fun h24 => ?_)))))
 ·have hi2 : i < L.sv.length := by omega
  refine .leOpen (b := b) (g := g) (ob := ob) (oc := oc) (L := L) (t := (t + 1)) (o := []) O fun rows ov hr => ?_
  have hrl := AQ hr
  have hir : i < rows.length := by omega
  have hra := DI hr hir hi2
  refine .sk (.seq (.block (.sr (.q (.indexAddr Y Y G1 om) Y (.q (.loadRdA (sz := 8) (j := i * 8) (k := 8) (p := AV 103 8 (.slice (some ⟨ob, 0, none⟩) L.sv.length oc) L.sv.length (rows.flatMap Cb)) (vs := Cb rows[i]) Y MR O (fun h hp => AE hp) (by simp [Cb]) om om (BE (f := Cb) (sz := 8) (fun _ _ => Y) om)) Y (.oq (.allocA HE) ?_))))))
  rintro v L' ⟨b7, rfl, rfl⟩
  refine .sa Y Y LY (by exact FL (hr.cell _ (getElem_mem hir))) ?_
  refine .nil (.ptCast (b := b7) (l' := Cb rows[i]) O (by exact rfl) (.then_n (.seq (.draw [] [[0, 1, 2, 3, 4, 5, 6, 7]] mixed kQ (.g0 (.kv Y (.fieldAddr Y QV) (.kv Y (.ld Y AF) (.mv Y Y (.nf Y Y Y GF (.kv Y (.ld Y AF) (.kv Y (.sub Y Y om) (.kv Y (.int Y Y Y) (.ph (.fin (.leFold (b := b) (g := g) (ob := ob) (oc := oc) (ov := _) (rows := rows) L (t + 1) [] hr O (by exact rfl) (by exact rfl) (by exact rfl) (by exact rfl) (by exact rfl) (.then_n (.condD Y (fun h34 => ?_) (fun h34 => ?_))))))))))))))))))
  ·refine .region (.m Y (.q (.add Y Y om) Y (.a Y (.nil (.blk_n (.then_n (.region (.q (.add Y Y om) Y (.m Y (.nt ?_))))))))))
   exact .rk ((i + 1, c + 1)) (⟨by dsimp only; omega, by dsimp only; omega⟩) (by dsimp only; omega) O
  refine .skip (.blk_n (.then_n (.region (.q (.add Y Y om) Y (.m Y (.nt ?_))))))
  exact .rk ((i + 1, c)) (⟨by dsimp only; omega, by dsimp only; omega⟩) (by dsimp only; omega) O
 refine .xe (.seq (.seq (.leOpen (b := b) (g := g) (ob := ob) (oc := oc) (L := L) (t := (t + 1)) (o := []) O fun rows ov hr => ?_)))
 have hrl := AQ hr
 refine .region (.m Y (.nf Y GF (.u (.ld Y AF) (.q (.as (v' := .bool false) (by exact congrArg Value.bool (decide_eq_false om)) (.int Y Y Y)) Y (.m Y (.gk (.gk (.gk (.gk (.gk (.pF Y Y (.m Y (.gr (.m Y (.gr (.u (.nilp Y) (.gr (.fa Y GF (.gr (.u (.ld Y AF) (.gr (.q (.as (v' := .bool false) (by exact congrArg Value.bool (decide_eq_false om)) (.int Y Y Y)) Y (.gr (.m Y (.gk (.gk (.gk (.gk (.gk (.gk (.gk (.gr (.pF Y Y (.pF Y Y (.nt (.condF Y (.sk (.sm Y (.m Y (.nf Y FP ?_))))))))))))))))))))))))))))))))))))))))
 refine .u (.ld Y AF) (.q (.to (v' := .agg (BF (FK 10 0 L.com)).toArray) (.buildN (pl := [(0, 1), (1, 1), (2, 1), (3, 1), (4, 1), (5, 1), (6, 1), (7, 1), (8, 10), (18, 1)]) (us := [(0, _), (2, _)]) (cells := BF (FK 10 0 L.com)) underlying67 kQ CO Y Y) Y) Y (.leFold (b := b) (g := g) (ob := ob) (oc := oc) (ov := _) (rows := rows) L (t + 1) [] hr O (by exact rfl) (by exact rfl) (by exact rfl) (by exact rfl) (by exact rfl) (.cv func42 [_, _, _] (Gv b g ob oc L (t + 1) [] 4 (FK 10 0 L.com) (CT Y) hn (by simp)) ?_)))
 refine .nt (.seq (.leCast (L' := L) (o' := CQ L.sv 4 (FK 10 0 L.com)) O Y (nil_append _) (.region (.m Y (.oq (.c func43 [_] (Ig b g ob oc L (t + 1) (CQ L.sv 4 (FK 10 0 L.com)) x d s H N Cn hH hG.hh hG.le hG.ls om om (by have := hG.len; omega) pq)) ?_)))))
 rintro v L' ⟨o2, s2, q2, rfl, hG2, rfl⟩
 refine .nt (.sm Y (.oq (.c func44 [_] (IY b g ob oc (Dl Ck L).1 (t + 1) ((CQ L.sv 4 (FK 10 0 L.com)) ++ o2))) ?_))
 rintro v L' ⟨av, cv, rfl, rfl⟩
 refine .an Y (.ret ?_)
 exact .dn Y Y ⟨CQ L.sv 4 (FK 10 0 L.com) ++ o2, s2, q2, ⟨av, cv, Y⟩, (by have h9 := LH hG hG2; exact h9), Y⟩
theorem VQ (zx ss xi : Int) (s0 s1 s2 s3 s4 s5 s6 s7 : Value) : Instr.fill (fun i => [(0, 1), (1, 1), (2, 1), (3, 8)].toArray[i]?) ([.int .i64 0, .int .i64 0, .int .i64 0, .int .i64 0, .string (bs []), .string (bs []), .slice none 0 0, .int .i64 0, .int .i64 0, .int .i64 0, .slice none 0 0] : List Value).toArray [(0, AA zx), (1, AA ss), (2, AA xi), (3, .agg ([s0, s1, s2, s3, s4, s5, s6, s7] : List Value).toArray)] = some (([AA zx, AA ss, AA xi] ++ [s0, s1, s2, s3, s4, s5, s6, s7] : List Value).toArray) := by kernel_rfl
theorem QQ (q : HP) : CI JW q := fun w hw => ⟨w, fun _ _ e => e, trivial⟩
theorem TO {q : HP} {e : En} (h : MU q e) : ∀ v ∈ C5 e.x, AD v = true := fun v hv => h.l.cells v (by unfold BX; exact mem_append_right _ hv)
theorem MT (b g ob oc : Nat) (L : La) (t : Int) (x d : Nat) (s : Ld) (H : List En) (N Cn : Int) (hH : Hz H) (hh : L.h = H.length) (hL : FX L) (hS : KS L H s (N + 4000000 * L.ph) (Cn + 2 * L.ph)) (hC : Cn + 200 < 4294967295) (hN : N + 200000000 ≤ 1000000000000) (ses xid : Int) (y : Pt) (hX : MU JW (⟨zt (L.h + 1), ses, xid, y, []⟩ : En)) (hO : Vv (⟨zt (L.h + 1), ses, xid, y, []⟩ : En)) (pq : HP) : Fn prog 17 #[AG b, AA ses, AA xid, .agg (C5 y).toArray] [Dg b g ob oc L t [], BW g x (s).Λ, CX x d (s).ω, Bg d (s).δ, pq] fun v K => ∃ (H2 : List En) (R : La × Ou) (o2 : Lo) (s2 : Ld) (q2 : HP) (a : Option Addr) (c : Nat) (er : Int), v = .tuple #[.slice a o2.length c, AA er] ∧ HC H2 pq R o2 s2 q2 (N + 4000000) (Cn + 2) 36 ∧ Hz H2 ∧ (R = (L, []) ∧ H2 = H ∨ L.ph = 3 ∧ R = KI Ck L ∧ ∃ e, H2 = H ++ [e]) ∧ K = [Dg b g ob oc R.1 t [], BW g x (s2).Λ, CX x d (s2).ω, Bg d (s2).δ, q2, AV 77 20 (.slice a o2.length c) o2.length (o2.flatMap Ik)] := by
 refine Fn.intro func17 Y Y fun F W => ?_
 have hn := hL.n
 have hph := hL.ph
 have hh4 := hL.h
 have hcy := TO hX
 obtain ⟨e, he⟩ : ∃ e, (⟨zt (L.h + 1), ses, xid, y, []⟩ : En) = e := ⟨_, rfl⟩
 have hXp : MU pq (⟨zt (L.h + 1), ses, xid, y, []⟩ : En) := hX.grow (QQ pq)
 have hez : zt (L.h + 1) = 8589934592 + ((L.h + 1 : Nat) : Int) - 4 := by unfold zt; rw [if_neg om, if_neg om]
 refine .leOpen (b := b) (g := g) (ob := ob) (oc := oc) (L := L) (t := t) (o := []) O fun rows ov hr => ?_
 have hrl := AQ hr
 refine .sr (.oq (.box Y) ?_)
 rintro v L' ⟨b7, rfl, rfl⟩
 refine .a Y (.a Y (.nil (.ptCast (b := b7) (l' := C5 y) O (by exact rfl) (.then_n (.seq (.sm Y (.nf Y BR (.u (.ld Y AF) (.ui Y Y Y (.nt (.condN Y (fun h16 => ?_) (fun h16 => ?_))))))))))))
 ·refine .leFold (b := b) (g := g) (ob := ob) (oc := oc) (ov := _) (rows := rows) L t [] hr O (by exact rfl) (by exact rfl) (by exact rfl) (by exact rfl) (by exact rfl) (.add (p := AV 77 20 BK 0 []) (Ak 77 20) (.sr (.a Y (.an Y (.rt ?_)))))
  exact .dn Y Y ⟨H, (L, []), [], s, pq, none, 0, _, Y, ⟨trivial, CI.rfl pq, hL, hS.more (by dsimp only; omega) (by dsimp only; omega), hh, Nat.zero_le _⟩, hH, .inl ⟨Y, Y⟩, Y⟩
 have h3 : L.ph = 3 := by simpa using h16
 have hS3 : Em s H 2 2 (N + 4000000 * L.ph) (Cn + 2 * L.ph) := by have e := hS; unfold KS at e; rw [if_neg om, if_neg om] at e; exact e
 have hep : Qi L = 2 := by unfold Qi; rw [if_neg om]
 have hwi := hS3.w.well.i om
 refine .sk (.seq (.sm Y (.nf Y JE (.u (.ld Y AF) (.q (.as (v' := .bool false) (by exact congrArg Value.bool (decide_eq_false om)) (.int Y Y Y)) Y (.nt (.condF Y (.sk (.seq (.draw [15, 16] [[0, 1, 2, 3, 4, 5, 6, 7, 8, 9, 10, 11, 12, 13, 14, 15], [16]] mixed kQ (.go [Ar b _ 101, Ar b7 _ 40] O (.k Y (.move Y) (.k Y (.nilp Y) (.k Y (.fieldAddr Y EB) (.k Y (.to (v' := AA 2) (.load Y AF O (by exact rfl)) (by rw [hep])) (.k Y (.mul Y Y om) (.k Y (.move Y) (.k Y (.nilp Y) (.k Y (.fieldAddr Y JE) (.k Y (.ld Y AF) (.k Y (.add Y Y om) (.k Y (.to (v' := AA (zt (L.h + 1))) (.add Y Y om) (by rw [hez]; congr 1; omega)) ?_))))))))))))))))))))))
 refine D.k Y (.move Y) (.k Y (.move Y) (.k Y (.loadAs (vs := C5 y) Y IF O (by simp [C5]) Y) (.k Y (.to (v' := .agg (BX (⟨zt (L.h + 1), ses, xid, y, []⟩ : En)).toArray) (.buildN (pl := [(0, 1), (1, 1), (2, 1), (3, 8)]) (us := [(0, AA (zt (L.h + 1))), (1, AA ses), (2, AA xid), (3, .agg (C5 y).toArray)]) (cells := BX (⟨zt (L.h + 1), ses, xid, y, []⟩ : En)) underlying42 kQ Et Y (VQ _ _ _ _ _ _ _ _ _ _ _)) Y) (.hh Y (.allocA Et) ?_))))
 rintro v L' ⟨be, rfl, rfl⟩
 refine D.ph (.g0 (.sa Y Y Y H9 (by exact hX.l.cells) ?_))
 refine D.ph (.fin (.ptCast (b := be) (l' := BX (⟨zt (L.h + 1), ses, xid, y, []⟩ : En)) O (by exact rfl) (.then_n (.seq (.draw [5] [[0, 1, 2, 3, 4, 5], [6]] mixed kQ (.g0 (.mv Y Y (.nf Y Y Y Bv (.kv Y (.ld Y B1) (.kv Y (.loadAs (vs := BX (⟨zt (L.h + 1), ses, xid, y, []⟩ : En)) Y D3 O (by simp [BX, C5]) Y) (.hh Y (.c func7 [_, _] (FE g x d s.δ s.ω s.Λ (⟨zt (L.h + 1), ses, xid, y, []⟩ : En) pq hXp hwi hS3.w.w.i)) ?_)))))))))))
 rintro v L' ⟨rfl, rfl⟩; rw [show AK ⟨s.δ, s.ω, s.Λ⟩ (⟨zt (L.h + 1), ses, xid, y, []⟩ : En) = AK s (⟨zt (L.h + 1), ses, xid, y, []⟩ : En) from rfl]; rcases Id hS3 hH hO (by show zt (L.h + 1) = _; rw [hh]) with ⟨e0, hS1, hH1⟩ | ⟨e0, e1, -⟩
 ·rw [e0]
  obtain ⟨s1, hs1⟩ : ∃ r, (AK s (⟨zt (L.h + 1), ses, xid, y, []⟩ : En)).1 = r := ⟨_, rfl⟩
  rw [hs1] at hS1 ⊢
  have hw1 := hS1.w.well.i om
  obtain ⟨hu0, hu1⟩ := Ev hS1 om
  have h200 : L.h + 1 ≤ 200 := by have := hH1.few; rw [length_append, length_singleton] at this; omega
  refine D.ph (.g0 (.kv Y (.assign Y) (.pf (.seq (.sm Y (.nt (.block (.sr (.q (.as (v' := .bool false) (by rfl) (.int Y Y Y)) Y (.an Y (.condF Y (.sr (.q (.as (v' := .bool true) (by rfl) (.int Y Y Y)) Y (.an Y (.condT Y (.region (.m Y (.nf Y Bv (.u (.ld Y B1) (.oq (.c func10 [_] (FN g x d s1.δ s1.ω s1.Λ hw1)) ?_))))))))))))))))))))
  rintro v L' ⟨rfl, rfl⟩; rw [show AO ⟨s1.δ, s1.ω, s1.Λ⟩ = AO s1 from rfl, hu0]
  refine .a Y (.nil (.blk_n (.then_n (.seq (.sm Y (.m Y (.cv func48 [_, _] (GO b) ?_)))))))
  refine .u (.not Y) (.nt (.condF Y (.sk (.sm Y (.nf Y JE (.u (.ld Y AF) (.q (.to (v' := AA (((L.h + 1 : Nat) : Int) - 4)) (.add Y Y om) (by congr 1; omega)) Y (.nf Y JE (.oq (.store Y Y Y BV ?c65 (Bk _ _)) ?_)))))))))
  case c65 => simp [GX]
  rintro v L' rfl
  refine .nil (.leFold (b := b) (g := g) (ob := ob) (oc := oc) (ov := _) (rows := rows) (Cz L).1 t [] hr O (by exact rfl) (by exact rfl) (by exact rfl) (by exact rfl) (by exact rfl) (.then_n (.sm Y (.q (.loadAs (vs := BX (⟨zt (L.h + 1), ses, xid, y, []⟩ : En)) Y D3 O (by simp [BX, C5]) Y) Y (.oq (.buildSlice (vs := [_]) Fr Et Y Y Y Y cQ dQ) ?_)))))
  rintro v L' ⟨b6, rfl, rfl⟩
  refine .ptCast (b := b6) (l' := BX (⟨zt (L.h + 1), ses, xid, y, []⟩ : En)) O (by simp [Value.cells, BX, C5]) (.fold (p := AV 42 11 (.slice (some ⟨b6, 0, none⟩) 1 1) 1 (BX (⟨zt (L.h + 1), ses, xid, y, []⟩ : En))) (.cons (p := Ar b6 _ _) O .nil) (fun h hp => HI (n := 1) (sz := 11) (HX hp) (by simp [BX, C5])) ?_)
  have hG := VL (N := N + 4000000) (C := Cn + 2) (pq := pq) (q := (CG [AV 42 11 (.slice (some ⟨b6, 0, none⟩) 1 1) 1 (BX (⟨zt (L.h + 1), ses, xid, y, []⟩ : En)), pq])) hL h3 (hu1.more om om) hh h200 (ev := (.slice (some ⟨b6, 0, none⟩) 1 1)) (fun h hp => by obtain ⟨h1, e1, p1⟩ := AZ hp; exact Bm (AE p1) e1) rfl (hX.grow (QQ _)) (CI.more [_] pq)
  refine .fold (p := (CG [AV 42 11 (.slice (some ⟨b6, 0, none⟩) 1 1) 1 (BX (⟨zt (L.h + 1), ses, xid, y, []⟩ : En)), pq])) (q := [AV 42 11 (.slice (some ⟨b6, 0, none⟩) 1 1) 1 (BX (⟨zt (L.h + 1), ses, xid, y, []⟩ : En)), pq]) O (fun _ h => h) (.q (.to (v' := .agg (BF (MW 7 0 0 (.slice (some ⟨b6, 0, none⟩) 1 1) [(⟨zt (L.h + 1), ses, xid, y, []⟩ : En)])).toArray) (.buildN (pl := [(0, 1), (1, 1), (2, 1), (3, 1), (4, 1), (5, 1), (6, 1), (7, 1), (8, 10), (18, 1)]) (us := [(0, _), (7, _)]) (cells := BF (MW 7 0 0 (.slice (some ⟨b6, 0, none⟩) 1 1) [(⟨zt (L.h + 1), ses, xid, y, []⟩ : En)])) underlying67 kQ CO Y Y) Y) Y (.cv func42 [_, _, _] (Gv b g ob oc (Cz L).1 t [] 4 (MW 7 0 0 (.slice (some ⟨b6, 0, none⟩) 1 1) [(⟨zt (L.h + 1), ses, xid, y, []⟩ : En)]) (CT Y) hn (by simp)) ?_))
  refine .nt (.seq (.leCast (L' := (Cz L).1) (o' := CQ L.sv 4 (MW 7 0 0 (.slice (some ⟨b6, 0, none⟩) 1 1) [(⟨zt (L.h + 1), ses, xid, y, []⟩ : En)])) O Y (nil_append _) ?_))
  obtain ⟨ot, hot⟩ : ∃ r, CQ L.sv 4 (MW 7 0 0 (.slice (some ⟨b6, 0, none⟩) 1 1) [(⟨zt (L.h + 1), ses, xid, y, []⟩ : En)]) = r := ⟨_, rfl⟩
  rw [hot] at hG ⊢
  obtain ⟨RR, hRR⟩ : ∃ r, Cz L = r := ⟨_, rfl⟩
  rw [hRR] at hG ⊢
  obtain ⟨s3, hs3⟩ : ∃ r, (AO s1).1 = r := ⟨_, rfl⟩
  rw [hs3] at hG ⊢
  refine .region (.m Y (.oq (.c func43 [_] (Ig b g ob oc RR.1 t ot x d s3 (H ++ [(⟨zt (L.h + 1), ses, xid, y, []⟩ : En)]) (N + 4000000) (Cn + 2) hH1 hG.hh hG.le hG.ls om om (by have := hG.len; omega) (CG [AV 42 11 (.slice (some ⟨b6, 0, none⟩) 1 1) 1 (BX (⟨zt (L.h + 1), ses, xid, y, []⟩ : En)), pq]))) ?_))
  rintro v L' ⟨o2, s2, q2, rfl, hG2, rfl⟩
  refine .nt (.sm Y (.oq (.c func44 [_] (IY b g ob oc (Dl Ck RR.1).1 t (ot ++ o2))) ?_))
  rintro v L' ⟨av, cv, rfl, rfl⟩
  refine .a Y (.an Y (.ret ?_))
  exact .dn Y Y ⟨H ++ [(⟨zt (L.h + 1), ses, xid, y, []⟩ : En)], ((Dl Ck RR.1).1, RR.2 ++ (Dl Ck RR.1).2), ot ++ o2, s2, q2, av, cv, _, Y, (by have h9 := LH hG hG2; exact h9.more om om om), hH1, .inr ⟨h3, by unfold KI; rw [hRR], _, rfl⟩, rfl⟩
 rw [e0, e1]
 refine D.ph (.g0 (.kv Y (.assign Y) (.pf (.seq (.sm Y (.nt (.block (.sr (.q (.as (v' := .bool true) (by rfl) (.int Y Y Y)) Y (.an Y (.condT Y (.sm Y (.a Y (.an Y (.ret (.blk_r (.then_r (.leFold (b := b) (g := g) (ob := ob) (oc := oc) (ov := _) (rows := rows) L t [] hr O (by exact rfl) (by exact rfl) (by exact rfl) (by exact rfl) (by exact rfl) (.add (p := AV 77 20 BK 0 []) (Ak 77 20) ?_)))))))))))))))))))
 exact .dn Y Y ⟨H, (L, []), [], s, pq, none, 0, _, Y, ⟨trivial, CI.rfl pq, hL, hS.more (by dsimp only; omega) (by dsimp only; omega), hh, Nat.zero_le _⟩, hH, .inl ⟨Y, Y⟩, Y⟩
end Go.Proofs.YtjhlofbhpjakgaaGreat
