/- Own work: what the calls of a log do, in plain words. -/
import Derived.Test.YtepncdidkjjllaaWalOpen
namespace Go.Proofs.Ytepncdidkjjllaa
open Go

def laySec (all : Bs) (i : Nat) : Bs := (all.drop (i * 64)).take 64 ++ List.replicate (64 - ((all.drop (i * 64)).take 64).length) 0
theorem laySec_len (all : Bs) (i : Nat) : (laySec all i).length = 64 := by simp [laySec]; omega
def layF : Nat → Dk → Int → Bs → Nat → Dk × Int
  | 0, δ, _, _, _ => (δ, 0)
  | f + 1, δ, area, all, i =>
    if i * 64 < all.length then
      (if (δ.write (2 + area * halfZ δ + i) (laySec all i)).2 ≠ 0 then ((δ.write (2 + area * halfZ δ + i) (laySec all i)).1, 2)
       else layF f (δ.write (2 + area * halfZ δ + i) (laySec all i)).1 area all (i + 1))
    else (δ, 0)
def layZ (δ : Dk) (area : Int) (all : Bs) (frm : Nat) : Dk × Int := layF (all.length + 1) δ area all (frm / 64)
theorem layF_end {f : Nat} {δ : Dk} {area : Int} {all : Bs} {i : Nat} (h : ¬ i * 64 < all.length) : layF f δ area all i = (δ, 0) := by
  cases f with
  | zero => rfl
  | succ f => simp only [layF]; rw [if_neg h]
theorem write_keeps (δ : Dk) (n : Int) (s : Bs) : (δ.write n s).1.now.length = δ.now.length ∧ (δ.write n s).1.acts ≤ δ.acts + 1 := by
  unfold Dk.write
  split
  · exact ⟨rfl, by simp; omega⟩
  · split
    · exact ⟨rfl, by simp; omega⟩
    · exact ⟨by simp [Dk.act, Dk.put], by simp [Dk.act, Dk.put]⟩
theorem sync_keeps (δ : Dk) : δ.sync.1.now = δ.now ∧ δ.sync.1.acts ≤ δ.acts + 1 := by
  unfold Dk.sync
  split
  · exact ⟨rfl, by simp; omega⟩
  · split <;> exact ⟨by simp [Dk.act], by simp [Dk.act]⟩
theorem halfZ_of {δ δ' : Dk} (h : δ'.now.length = δ.now.length) : halfZ δ' = halfZ δ := by unfold halfZ; rw [h]
def nextZ (δ : Dk) (m : Mk) : Dk × Int :=
  if (δ.write (m.count % 2) m.sec).2 ≠ 0 then ((δ.write (m.count % 2) m.sec).1, 2)
  else if (δ.write (m.count % 2) m.sec).1.sync.2 ≠ 0 then ((δ.write (m.count % 2) m.sec).1.sync.1, 2) else ((δ.write (m.count % 2) m.sec).1.sync.1, 0)
def Wl.mark (ω : Wl) (area : Int) (l : List Bs) (a b : Int) : Mk := ⟨ω.count + 1, area, (laidZ l).length, l.length, a, b⟩
def sealZ (δ : Dk) (ω : Wl) (area : Int) (l : List Bs) : Dk × Wl × Int :=
  if δ.sync.2 ≠ 0 then (δ.sync.1, ω, 2)
  else if (nextZ δ.sync.1 (ω.mark area l ω.a ω.b)).2 ≠ 0 then ((nextZ δ.sync.1 (ω.mark area l ω.a ω.b)).1, ω, 2)
  else ((nextZ δ.sync.1 (ω.mark area l ω.a ω.b)).1, { ω with recs := l, synced := l.length, area := area, count := ω.count + 1 }, 0)
def dbt (r : Dk × Wl × Int) : Dk × Wl × Int := if r.2.2 = 2 then (r.1, { r.2.1 with doubt := true }, r.2.2) else r
abbrev lastC : Int := 4294967295
def appendZ (δ : Dk) (ω : Wl) (s : Bs) : Dk × Wl × Int :=
  if ω.doubt then (δ, ω, 34) else if s.length > 4000 then (δ, ω, 33) else if ¬ ((laidZ ω.recs).length + s.length + 6 : Int) ≤ 64 * halfZ δ then (δ, ω, 30)
  else if (layZ δ ω.area (laidZ ω.recs ++ recZ s) (laidZ ω.recs).length).2 ≠ 0 then dbt ((layZ δ ω.area (laidZ ω.recs ++ recZ s) (laidZ ω.recs).length).1, ω, (layZ δ ω.area (laidZ ω.recs ++ recZ s) (laidZ ω.recs).length).2)
  else ((layZ δ ω.area (laidZ ω.recs ++ recZ s) (laidZ ω.recs).length).1, { ω with recs := ω.recs ++ [s] }, 0)
def syncZ (δ : Dk) (ω : Wl) : Dk × Wl × Int :=
  if ω.doubt then (δ, ω, 34) else if ω.synced = ω.recs.length then (δ, ω, 0) else if ω.count = 4294967295 then (δ, ω, 30) else dbt (sealZ δ ω ω.area ω.recs)
def cutZ (δ : Dk) (ω : Wl) (n : Int) : Dk × Wl × Int :=
  if ω.doubt then (δ, ω, 34) else if n < 0 ∨ n > ω.recs.length then (δ, ω, 32) else if ω.count = 4294967295 then (δ, ω, 30) else dbt (sealZ δ ω ω.area (ω.recs.take n.toNat))
def renewZ (δ : Dk) (ω : Wl) (l : List Bs) : Dk × Wl × Int :=
  if ω.doubt then (δ, ω, 34) else if l.any (fun s => decide (s.length > 4000)) then (δ, ω, 33) else if ¬ ((l.length : Int) * 6 ≤ 64 * halfZ δ) ∨ ω.count = 4294967295 then (δ, ω, 30)
  else if ¬ ((laidZ l).length : Int) ≤ 64 * halfZ δ then (δ, ω, 30)
  else if (layZ δ (1 - ω.area) (laidZ l) 0).2 ≠ 0 then dbt ((layZ δ (1 - ω.area) (laidZ l) 0).1, ω, (layZ δ (1 - ω.area) (laidZ l) 0).2)
  else dbt (sealZ (layZ δ (1 - ω.area) (laidZ l) 0).1 ω (1 - ω.area) l)
def setmZ (δ : Dk) (ω : Wl) (a b : Int) : Dk × Wl × Int :=
  if ω.doubt then (δ, ω, 34) else if a < 0 ∨ b < 0 then (δ, ω, 1) else if ω.count = 4294967295 then (δ, ω, 30)
  else if (nextZ δ (ω.mark ω.area (ω.recs.take ω.synced.toNat) a b)).2 ≠ 0 then dbt ((nextZ δ (ω.mark ω.area (ω.recs.take ω.synced.toNat) a b)).1, ω, (nextZ δ (ω.mark ω.area (ω.recs.take ω.synced.toNat) a b)).2)
  else ((nextZ δ (ω.mark ω.area (ω.recs.take ω.synced.toNat) a b)).1, { ω with a := a, b := b, count := ω.count + 1 }, 0)
structure WlI (δ : Dk) (ω : Wl) : Prop where
  size : 2 ≤ δ.now.length ∧ δ.now.length ≤ 32768
  acts : δ.acts + 10000000 < 4611686018427387904
  area : 0 ≤ ω.area ∧ ω.area ≤ 1
  count : 0 ≤ ω.count ∧ ω.count ≤ 4294967295
  synced : 0 ≤ ω.synced ∧ ω.synced ≤ ω.recs.length
  fits : ((laidZ ω.recs).length : Int) ≤ 64 * halfZ δ
theorem half_le {δ : Dk} (h : 2 ≤ δ.now.length ∧ δ.now.length ≤ 32768) : 0 ≤ halfZ δ ∧ halfZ δ ≤ 16383 := by unfold halfZ; omega
abbrev wc (d : Nat) (vr : Value) (sy : Int) (vb : Value) (ar ct a b : Int) (db : Bool) : List Value := [vptr d, vr, vint sy, vb, vint ar, vint ct, vint a, vint b, .bool db]
theorem lay_cells (all : Bs) (i k : Nat) (hk : k = all.length - i * 64) : spl (List.replicate 64 zB) 0 ((bysL (all.drop (i * 64))).take (min k 64 * 1)) = bysL (laySec all i) := by
  subst hk
  unfold laySec
  rw [bysL_append, Nat.mul_one]
  have e : (bysL (all.drop (i * 64))).take (min (all.length - i * 64) 64) = bysL ((all.drop (i * 64)).take 64) := by
    rw [show bysL ((all.drop (i * 64)).take 64) = (bysL (all.drop (i * 64))).take 64 from List.map_take]
    rcases Nat.le_total (all.length - i * 64) 64 with h | h
    · rw [Nat.min_eq_left h, List.take_of_length_le (by simp [bysL]), List.take_of_length_le (by simp [bysL]; omega)]
    · rw [Nat.min_eq_right h]
  rw [e]
  have hl : (bysL ((all.drop (i * 64)).take 64)).length = ((all.drop (i * 64)).take 64).length := bysL_len _
  generalize (all.drop (i * 64)).take 64 = t at *
  show (List.replicate 64 zB).take 0 ++ bysL t ++ (List.replicate 64 zB).drop (0 + (bysL t).length) = bysL t ++ bysL (List.replicate (64 - t.length) 0)
  rw [hl, Nat.zero_add, List.take_zero, List.nil_append, List.drop_replicate]
  congr 1
  show _ = (List.replicate (64 - t.length) (0 : UInt8)).map vbyte
  rw [List.map_replicate]; rfl
theorem layF_err : ∀ (f : Nat) (δ : Dk) (area : Int) (all : Bs) (i : Nat), (layF f δ area all i).2 = 0 ∨ (layF f δ area all i).2 = 2 := by
  intro f
  induction f with
  | zero => intro δ area all i; exact .inl rfl
  | succ f ih =>
    intro δ area all i
    simp only [layF]
    split
    · split
      · exact .inr rfl
      · exact ih _ _ _ _
    · exact .inl rfl
theorem layZ_err (δ : Dk) (area : Int) (all : Bs) (frm : Nat) : (layZ δ area all frm).2 = 0 ∨ (layZ δ area all frm).2 = 2 := layF_err _ _ _ _ _
theorem layF_keeps : ∀ (f : Nat) (δ : Dk) (area : Int) (all : Bs) (i : Nat), (layF f δ area all i).1.now.length = δ.now.length ∧ (layF f δ area all i).1.acts ≤ δ.acts + f := by
  intro f
  induction f with
  | zero => intro δ area all i; exact ⟨rfl, by simp [layF]⟩
  | succ f ih =>
    intro δ area all i
    simp only [layF]
    have hw := write_keeps δ (2 + area * halfZ δ + i) (laySec all i)
    split
    · split
      · exact ⟨hw.1, by dsimp only; omega⟩
      · have := ih (δ.write (2 + area * halfZ δ + i) (laySec all i)).1 area all (i + 1)
        exact ⟨by rw [this.1, hw.1], by omega⟩
    · exact ⟨rfl, by dsimp only; omega⟩
theorem nextZ_keeps (δ : Dk) (m : Mk) : (nextZ δ m).1.now.length = δ.now.length ∧ (nextZ δ m).1.acts ≤ δ.acts + 2 ∧ ((nextZ δ m).2 = 0 ∨ (nextZ δ m).2 = 2) := by
  have h1 := write_keeps δ (m.count % 2) m.sec
  have h2 := sync_keeps (δ.write (m.count % 2) m.sec).1
  unfold nextZ
  split
  · exact ⟨h1.1, by dsimp only; omega, .inr rfl⟩
  · split
    · exact ⟨by rw [h2.1, h1.1], by dsimp only; omega, .inr rfl⟩
    · exact ⟨by rw [h2.1, h1.1], by dsimp only; omega, .inl rfl⟩
end Go.Proofs.Ytepncdidkjjllaa
