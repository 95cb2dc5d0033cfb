/- Own work, some of it printed by program, texts that were built one by one: a part of the proof of leadFollowed.proved. -/
import Derived.Test.YtjhlofbhpjakgaaGreatCLFolP4
import Derived.Test.YtjhlofbhpjakgaaGreatCLFolP1
import Derived.Test.YtjhlofbhpjakgaaGreatRows
import Derived.WalkKit
import Derived.ProofKit
import Derived.OpenShut
import Derived.JoinedCond
import Derived.Carry
import Derived.Deep.Grids
import Derived.Handed
import Derived.Deep.Strs
set_option maxRecDepth 100000
namespace Go.Proofs.YtjhlofbhpjakgaaGreat
open Go List Go.Proofs.Tryz 
def Xk (x : Int × Int) : List Value := [AA x.1, AA x.2]
theorem H3 (g x : Nat) (H : List En) (a c : Int) (hH : Hz H) (hW : Iq (BO H a c)) (fs : List Fl) (hfs : ∀ y ∈ fs, ∃ (k : Nat) (ka kc : Int), k ≤ H.length ∧ y.s.Λ = BO (H.take k) ka kc ∧ Iq y.s.Λ) (al af : Option Addr) (cl cf n : Nat) (ff gg : List Nat) (hl : fs.length = n) (hff : fs.map (·.f) = ff) (hgg : fs.map (·.g) = gg) (hn : n ≤ 6) : Fn prog 21 #[AG g, .slice al n cl, .slice af n cf] [BW g x (BO H a c), Aj G0 fs, AV 27 1 (.slice al n cl) n (gg.map AG), AV 45 1 (.slice af n cf) n (ff.map AG)] fun v K => v = .bool true ∧ K = [BW g x (BO H a c), Aj G0 fs, AV 27 1 (.slice al n cl) n (gg.map AG), AV 45 1 (.slice af n cf) n (ff.map AG)] := by
 subst hl; subst hff; subst hgg
 have h := OJ g x H a c hH hW fs hfs al af cl cf hn
 have e1 : (fs.map fun y => AG y.g) = (fs.map (·.g)).map AG := by rw [map_map]; rfl
 have e2 : (fs.map fun y => AG y.f) = (fs.map (·.f)).map AG := by rw [map_map]; rfl
 rw [e1, e2] at h
 exact h
set_option maxHeartbeats 40000000 in
theorem Iu (c0 : Int) (hc0 : -9223372036854775808 ≤ c0 ∧ c0 ≤ 9223372036854775807) (vh : Value) (lh : List Int) (pp : HP) (hrh : ∀ h : Hp, pp h → B5 1 h vh lh.length (Aq lh)) (hlh : lh.length ≤ 1000000000) (hih : ∀ z ∈ lh, I64 z) (vs : Value) (xs : List (Int × Int)) (hrs : ∀ h : Hp, pp h → B5 2 h vs xs.length (xs.flatMap Xk)) (hls : xs.length ≤ 1000000000) (his : ∀ x ∈ xs, I64 x.1 ∧ I64 x.2) : Fn prog 3 #[AA c0, vh, vs] [pp] fun v K => v = .bool true ∧ K = [pp] := by
 refine Fn.intro func3 Y Y fun F W => ?_
 refine .rdAny (p := pp) hrh O fun ah ch e _ => ?_
 subst e
 refine .rdAny (p := pp) hrs O fun as0 cs e _ => ?_
 subst e
 refine .add (p := JW) (fun _ => trivial) (.sr (.an Y (.sr (.cv func4 [] (Nt) ?_))))
 refine .an Y (.sm Y (.oq (.c func5 [_, _] (DO c0 6 hc0 dQ)) ?_))
 rintro v L' ⟨rfl, rfl⟩; have hpr := Cw c0 (n := 6) dQ
 refine .q (.to (v' := AA ((1 + (E8 c0 6).toNat : Nat) : Int)) (.add Y Y om) (by congr 1; omega)) Y (.a Y (.nil ?_))
 obtain ⟨n, hn⟩ : ∃ n : Nat, 1 + (E8 c0 6).toNat = n := ⟨_, rfl⟩
 rw [hn]
 have hn1 : 1 ≤ n ∧ n ≤ 6 := by omega
 refine .then_n (.sr (.oq (.c func6 [] (Gl)) ?_))
 rintro v L' ⟨d, g, x, xr, y, w, rfl, rfl⟩; rw [show (RI : Lg) = LF.Λ from rfl]
 refine .m Y (.ex Y Y (.ex Y Y (.ex Y Y (.ex Y Y (.ex Y Y (.a Y (.a Y (.a Y (.a Y (.an Y (.seq (.sm Y (.u (.not Y) (.m Y (.gr (.m Y (.gr (.u (.not Y) (.pF Y Y (.nt (.condF Y (.sk (.sr (.an Y (.sr (.an Y (.sr (.an Y (.seq (.seq (.add (p := AV 27 1 BK 0 []) (Ak 27 1) (.add (p := AV 45 1 BK 0 []) (Ak 45 1) (.add (p := AV 49 3 BK 0 []) (Ak 49 3) (.add (p := Aj G0 []) (fun h => Iv h) (.region (.an Y (.block ?_)))))))))))))))))))))))))))))))))))))
 refine .loopK (ι := Nat × (List Fl) × Value × Value × Value) (fun q E => (14, q.2.2.1) :: (15, q.2.2.2.1) :: (16, q.2.2.2.2) :: (17, AA q.1) :: E) (fun q => [Aj G0 q.2.1, AV 27 1 q.2.2.1 q.1 (q.2.1.map fun y => AG y.g), AV 45 1 q.2.2.2.1 q.1 (q.2.1.map fun y => AG y.f), AV 49 3 q.2.2.2.2 (2 * q.1) ((Fy n q.1).flatMap B3)]) (fun q => q.1 ≤ n ∧ q.2.1.length = q.1 ∧ (∀ y ∈ q.2.1, ∃ k, k ≤ 4 ∧ y.Φ = Qv ((n : Int) + 1) ∧ Em y.s (H4.take k) 1 1 NF CF) ∧ (∃ a c, q.2.2.1 = .slice a q.1 c) ∧ (∃ a c, q.2.2.2.1 = .slice a q.1 c) ∧ (∃ a c, q.2.2.2.2 = .slice a (2 * q.1) c)) (fun q => n - q.1) (0, [], BK, BK, BK) (ts := [1, 2, 8, 10]) O (⟨Nat.zero_le _, Y, fun y hy => (by cases hy), ⟨none, 0, Y⟩, ⟨none, 0, Y⟩, ⟨none, 0, Y⟩⟩) O O ?_
 rintro ⟨i, fs, u1, u2, u3⟩ ⟨hi, hfl, hfs, ⟨p1, k1, hu1⟩, ⟨p2, k2, hu2⟩, ⟨p3, k3, hu3⟩⟩
 dsimp only
 dsimp only at hi hfl hfs hu1 hu2 hu3
 subst hu1
 subst hu2
 subst hu3
 refine .seq (.sm Y (.m Y (.ui Y Y Y (.nt (.condD Y (fun h64 => ?_) (fun h64 => ?_))))))
 ·refine .sk (.seq (.block (.sr (.oq (.c func6 [] (Gl)) ?_))))
  rintro v L' ⟨d1, g1, x1, xr1, y1, w1, rfl, rfl⟩; rw [show (RI : Lg) = LF.Λ from rfl]
  refine .m Y (.ex Y Y (.ex Y Y (.ex Y Y (.ex Y Y (.ex Y Y (.a Y (.a Y (.a Y (.a Y (.an Y (.seq (.sm Y (.u (.not Y) (.nt (.condF Y (.sk (.sr (.an Y (.seq (.joinK (ι := Nat) (fun q E => (23, AA q) :: E) (fun q => []) (fun q => q ≤ 3) (pre := []) (ts := [1, 2, 8, 10, 14, 15, 16, 17, 19, 22, 62, 63, 64, 67, 68, 69, 70, 71, 72, 73, 74, 75]) O O ?_ ?_))))))))))))))))))))
  ·refine .sm Y (.q (.slen Y underlying22 Y) Y (.ui Y Y Y (.nt (.condD Y (fun h78 => ?_) (fun h78 => ?_)))))
   ·have hl0 : 0 < lh.length := by omega
    have hml : i % lh.length < lh.length := Nat.mod_lt _ hl0
    refine .rdShape (p := pp) hrh O hl0 fun bh oh e => ?_
    subst e
    refine .region (.m Y (.m Y (.m Y (.q (.slen Y underlying22 Y) Y (.q (.to (v' := AA ((i % lh.length : Nat) : Int)) (.remE Y Y om om) (by congr 1)) Y (.q (.indexAddr Y Y BC om) Y (.q (.loadEl (p := pp) (i := (i % lh.length) * 1) (v := AA lh[i % lh.length]) Y AF O hrh (by simp [hml])) Y (.oq (.call func5 Y Y (vs := [_, _]) Y (DO lh[i % lh.length] 4 (hih _ (getElem_mem hml)) dQ)) ?_))))))))
    rintro v L' ⟨rfl, rfl⟩; have hp4 := Cw lh[i % lh.length] (n := 4) dQ; rw [show E8 lh[i % lh.length] 4 = (((E8 lh[i % lh.length] 4).toNat : Nat) : Int) by omega]
    refine .an Y ?_
    exact .mk ((E8 lh[i % lh.length] 4).toNat) (by have := Cw lh[i % lh.length] (n := 4) dQ; omega) O
   refine .sk ?_
   exact .mk (0) (Nat.zero_le _) O
  rintro k hk
  refine .seq (.sr (.an Y (.block (.loopK (ι := Nat × Ld) (fun q E => (24, AA ((q.1 + 1 : Nat) : Int)) :: E) (fun q => [BW g1 x1 q.2.Λ, CX x1 d1 q.2.ω, Bg d1 q.2.δ]) (fun q => q.1 ≤ k ∧ Em q.2 (H4.take q.1) 0 0 (5000000 + 2000000 * (q.1 : Int)) (500 + (q.1 : Int))) (fun q => k - q.1) (0, LF) (ts := [1, 2, 8, 10, 14, 15, 16, 17, 19, 22, 23, 62, 63, 64, 67, 68, 69, 70, 71, 72, 73, 74, 75]) O (⟨Nat.zero_le _, Ys.more om om⟩) O O ?_))))
  rintro ⟨z, s⟩ ⟨hz, hS⟩
  dsimp only
  dsimp only at hz hS
  have hk4 : k ≤ 4 := by omega
  refine .seq (.sm Y (.m Y (.ui Y Y Y (.nt (.condD Y (fun h89 => ?_) (fun h89 => ?_))))))
  ·have hz2 : z < k := by omega
   refine .sk (.seq (.block (.region (.m Y (.m Y (.q (.add Y Y om) Y (.m Y (.q (.to (v' := .agg (BX (e4 (z + 1))).toArray) (.buildN (pl := [(0, 1), (1, 1), (2, 1), (3, 8)]) (us := [(0, _), (1, _)]) (cells := BX (e4 (z + 1))) underlying42 kQ Et Y Y) Y) Y (.oq (.call func7 Y Y (vs := [_, _]) Y (FE g1 x1 d1 s.δ s.ω s.Λ (e4 (z + 1)) JW (AAM _ om) (hS.w.well.i om) hS.w.w.i)) ?_)))))))))
   rintro v L' ⟨rfl, rfl⟩; rw [show AK ⟨s.δ, s.ω, s.Λ⟩ (e4 (z + 1)) = AK s (e4 (z + 1)) from rfl]; obtain ⟨-, hS1⟩ := M6 (z := z) om hS
   refine .nil (.blk_n (.then_n (.region (.m Y (.q (.to (v' := AA ((z + 1 + 1 : Nat) : Int)) (.add Y Y om) (by congr 1)) Y (.an Y ?_))))))
   exact .rk ((z + 1, (AK s (e4 (z + 1))).1)) (⟨by dsimp only; omega, hS1.more (by dsimp only; omega) (by dsimp only; omega)⟩) (by dsimp only; omega) O
  have hze : z = k := by omega
  subst hze
  obtain ⟨-, hA⟩ := FO (n := 1) hS om ⟨by decide, by decide⟩
  obtain ⟨s1, hs1⟩ : ∃ r, (AR s 1).1 = r := ⟨_, rfl⟩
  rw [hs1] at hA
  obtain ⟨-, hB⟩ := GV (n := 1) hA om ⟨by decide, by decide⟩
  obtain ⟨hu0, hu1⟩ := Ev hA om
  obtain ⟨s2, hs2⟩ : ∃ r, (AY s1 1).1 = r := ⟨_, rfl⟩
  rw [hs2] at hB
  obtain ⟨-, hY⟩ := Ev hB om
  obtain ⟨s3, hs3⟩ : ∃ r, (AO s2).1 = r := ⟨_, rfl⟩
  rw [hs3] at hY
  refine .xe (.sm Y (.oq (.c func8 [_, _] (E9 g1 x1 d1 s.δ s.ω s.Λ 1 (hS.w.well.i om))) ?_))
  rintro v L' ⟨rfl, rfl⟩; rw [show AR ⟨s.δ, s.ω, s.Λ⟩ 1 = AR s 1 from rfl, hs1]
  refine .nt (.sm Y (.oq (.c func9 [_, _] (Fx g1 x1 d1 s1.δ s1.ω s1.Λ 1 (hA.w.well.i om) (hu1.w.well.i om))) ?_))
  rintro v L' ⟨rfl, rfl⟩; rw [show AY ⟨s1.δ, s1.ω, s1.Λ⟩ 1 = AY s1 1 from rfl, hs2]
  refine .nt (.sm Y (.oq (.c func10 [_] (FN g1 x1 d1 s2.δ s2.ω s2.Λ (hB.w.well.i om))) ?_))
  rintro v L' ⟨rfl, rfl⟩; rw [show AO ⟨s2.δ, s2.ω, s2.Λ⟩ = AO s2 from rfl, hs3]
  refine .nt (.sm Y (.m Y (.oq (.buildSlice1 (vs := [_]) ST Yw Y Y Y Y Y dQ) ?_)))
  rintro v L' ⟨b25, rfl, rfl⟩
  refine .oq (.append1 Y Y Y ST Yw Y Y ?c71 ?c72 (Nat.le_refl _) ?c73 dQ) ?_
  case c71 => (first | (simp [AD]; done) | (simp [AD, Cd, Value.cells]; done))
  case c72 => rfl
  case c73 => omega
  rintro v L' ⟨⟨a25, c25, rfl⟩, rfl⟩
  refine .an Y (.sm Y (.m Y (.q (.add Y Y om) Y (.m Y (.oq (.c func11 [_, _] (NU ((n : Int) + 1) g1)) ?_)))))
  rintro v L' ⟨f1, rfl, rfl⟩; rw [show (⟨(n : Int) + 1, 0, 0, 0, 0, []⟩ : Fw) = Qv ((n : Int) + 1) from rfl]
  refine .oq (.buildSlice1 (vs := [_]) HW Yo Y Y Y Y Y dQ) ?_
  rintro v L' ⟨b26, rfl, rfl⟩
  refine .oq (.append1 Y Y Y HW Yo Y Y ?c84 ?c85 (Nat.le_refl _) ?c86 dQ) ?_
  case c84 => (first | (simp [AD]; done) | (simp [AD, Cd, Value.cells]; done))
  case c85 => rfl
  case c86 => omega
  rintro v L' ⟨⟨a26, c26, rfl⟩, rfl⟩
  refine .an Y (.region (.m Y (.m Y (.q (.add Y Y om) Y (.m Y (.q (.add Y Y om) Y (.q (.to (v' := .agg (B3 (⟨(i : Int) + 1, (n : Int) + 1, []⟩, BK)).toArray) (.build (us := [(0, _), (1, _)]) Yf SA Y Y (by simp [AD])) Y) Y (.m Y (.q (.add Y Y om) Y (.m Y (.q (.add Y Y om) Y (.q (.to (v' := .agg (B3 (⟨(n : Int) + 1, (i : Int) + 1, []⟩, BK)).toArray) (.build (us := [(0, _), (1, _)]) Yf SA Y Y (by simp [AD])) Y) Y (.oq (.buildSlice (vs := [_, _]) BH SA Y Y Y Y cQ dQ) ?_)))))))))))))
  rintro v L' ⟨b27, rfl, rfl⟩
  refine .oq (.append1 Y Y Y BH SA Y Y ?c102 ?c103 (Nat.le_refl _) ?c104 dQ) ?_
  case c102 => simp [Value.cells, B3, AD]
  case c103 => rfl
  case c104 => omega
  rintro v L' ⟨⟨a27, c27, rfl⟩, rfl⟩
  refine .a Y (.nil (.slCast (T := 49) (sz := 3) (m' := 2 * (i + 1)) (xs' := (Fy n (i + 1)).flatMap B3) O om (by rw [Rf, flatMap_append]; simp [Value.cells, B3]) (.slCast (T := 27) (sz := 1) (m' := i + 1) (xs' := (fs ++ [(⟨f1, g1, x1, d1, Qv ((n : Int) + 1), s3⟩ : Fl)]).map fun y => AG y.g) O Y (by simp [Value.cells]) (.slCast (T := 45) (sz := 1) (m' := i + 1) (xs' := (fs ++ [(⟨f1, g1, x1, d1, Qv ((n : Int) + 1), s3⟩ : Fl)]).map fun y => AG y.f) O Y (by simp [Value.cells]) (.blk_n (.then_n (.region (.m Y (.q (.add Y Y om) Y (.an Y (.flSnoc (⟨f1, g1, x1, d1, Qv ((n : Int) + 1), s3⟩ : Fl) O ?_)))))))))))
  exact .rk ((i + 1, fs ++ [(⟨f1, g1, x1, d1, Qv ((n : Int) + 1), s3⟩ : Fl)], .slice a25 (i + 1) c25, .slice a26 (i + 1) c26, .slice a27 (2 * i + 2) c27)) (⟨by dsimp only; omega, by dsimp only; rw [length_append, hfl]; rfl, (fun y hy => by rcases mem_append.1 hy with h | h; exact hfs y h; rw [mem_singleton] at h; subst h; exact ⟨z, by omega, rfl, hY.more (by unfold NF; omega) (by unfold CF; omega)⟩), ⟨_, _, rfl⟩, ⟨_, _, rfl⟩, ⟨_, _, rfl⟩⟩) (by dsimp only; omega) O
 have hie : n = i := by omega
 subst hie
 refine .xe (.seq (.sr (.an Y (.block (.loopK (ι := Nat × Ld) (fun q E => (25, AA ((q.1 + 1 : Nat) : Int)) :: E) (fun q => [BW g x q.2.Λ, CX x d q.2.ω, Bg d q.2.δ]) (fun q => q.1 ≤ 4 ∧ Em q.2 (H4.take q.1) 0 0 (5000000 + 2000000 * (q.1 : Int)) (500 + (q.1 : Int))) (fun q => 4 - q.1) (0, LF) (ts := [2, 8, 10, 14, 15, 16]) O (⟨Nat.zero_le _, Ys.more om om⟩) O O ?_)))))
 rintro ⟨z, s⟩ ⟨hz, hS⟩
 dsimp only
 dsimp only at hz hS
 have hk4 : 4 ≤ 4 := Nat.le_refl _
 refine .seq (.sm Y (.ui Y Y Y (.nt (.condD Y (fun h129 => ?_) (fun h129 => ?_)))))
 ·have hz2 : z < 4 := by omega
  refine .sk (.seq (.block (.region (.m Y (.m Y (.q (.add Y Y om) Y (.m Y (.q (.to (v' := .agg (BX (e4 (z + 1))).toArray) (.buildN (pl := [(0, 1), (1, 1), (2, 1), (3, 8)]) (us := [(0, _), (1, _)]) (cells := BX (e4 (z + 1))) underlying42 kQ Et Y Y) Y) Y (.oq (.call func7 Y Y (vs := [_, _]) Y (FE g x d s.δ s.ω s.Λ (e4 (z + 1)) JW (AAM _ om) (hS.w.well.i om) hS.w.w.i)) ?_)))))))))
  rintro v L' ⟨rfl, rfl⟩; rw [show AK ⟨s.δ, s.ω, s.Λ⟩ (e4 (z + 1)) = AK s (e4 (z + 1)) from rfl]; obtain ⟨-, hS1⟩ := M6 (z := z) om hS
  refine .nil (.blk_n (.then_n (.region (.m Y (.q (.to (v' := AA ((z + 1 + 1 : Nat) : Int)) (.add Y Y om) (by congr 1)) Y (.an Y ?_))))))
  exact .rk ((z + 1, (AK s (e4 (z + 1))).1)) (⟨by dsimp only; omega, hS1.more (by dsimp only; omega) (by dsimp only; omega)⟩) (by dsimp only; omega) O
 have hze : z = 4 := by omega
 subst hze
 obtain ⟨-, hA⟩ := FO (n := 1) hS om ⟨by decide, by decide⟩
 obtain ⟨s1, hs1⟩ : ∃ r, (AR s 1).1 = r := ⟨_, rfl⟩
 rw [hs1] at hA
 obtain ⟨-, hB⟩ := GV (n := 1) hA om ⟨by decide, by decide⟩
 obtain ⟨hu0, hu1⟩ := Ev hA om
 obtain ⟨s2, hs2⟩ : ∃ r, (AY s1 1).1 = r := ⟨_, rfl⟩
 rw [hs2] at hB
 obtain ⟨-, hY⟩ := Ev hB om
 obtain ⟨s3, hs3⟩ : ∃ r, (AO s2).1 = r := ⟨_, rfl⟩
 rw [hs3] at hY
 refine .xe (.sm Y (.oq (.c func8 [_, _] (E9 g x d s.δ s.ω s.Λ 1 (hS.w.well.i om))) ?_))
 rintro v L' ⟨rfl, rfl⟩; rw [show AR ⟨s.δ, s.ω, s.Λ⟩ 1 = AR s 1 from rfl, hs1]
 refine .nt (.sm Y (.oq (.c func9 [_, _] (Fx g x d s1.δ s1.ω s1.Λ 1 (hA.w.well.i om) (hu1.w.well.i om))) ?_))
 rintro v L' ⟨rfl, rfl⟩; rw [show AY ⟨s1.δ, s1.ω, s1.Λ⟩ 1 = AY s1 1 from rfl, hs2]
 refine .nt (.sm Y (.oq (.c func10 [_] (FN g x d s2.δ s2.ω s2.Λ (hB.w.well.i om))) ?_))
 rintro v L' ⟨rfl, rfl⟩; rw [show AO ⟨s2.δ, s2.ω, s2.Λ⟩ = AO s2 from rfl, hs3]
 refine .nt (.sm Y (.q (.add Y Y om) Y (.m Y (.q (.add Y Y om) Y (.m Y (.oq (.c func12 [_, _, _] (UO n g hn1)) ?_))))))
 rintro v L' ⟨b, ob, oc, rfl, rfl⟩
 refine .an Y (.seq (.sm Y (.q (.as (v' := .bool false) (by rfl) (.ptreq Y Y underlying50)) Y (.nt (.condF Y (.sk (.seq (.seq (.slShape (T := 49) (sz := 3) (v := .slice p3 (2 * n) k3) O om fun b3 ke e0 _ _ => ?_)))))))))
 simp only [Value.slice.injEq, true_and] at e0
 obtain ⟨rfl, rfl⟩ := e0
 refine .slShape (T := 27) (sz := 1) (v := .slice p1 (n) k1) O om fun b1 ke e0 _ _ => ?_
 simp only [Value.slice.injEq, true_and] at e0
 obtain ⟨rfl, rfl⟩ := e0
 refine .slShape (T := 45) (sz := 1) (v := .slice p2 (n) k2) O om fun b2 ke e0 _ _ => ?_
 simp only [Value.slice.injEq, true_and] at e0
 obtain ⟨rfl, rfl⟩ := e0
 refine .add (p := Aj Mc (Fy n n)) (Xd n n) (.lnFold (As n (fun _ => []) (fun _ => [])) (rows := Fy n n) (VK n) O (Tw n n).symm Y ?_)
 obtain ⟨ff, hff⟩ : ∃ l, fs.map (·.f) = l := ⟨_, rfl⟩
 obtain ⟨gg, hgg⟩ : ∃ l, fs.map (·.g) = l := ⟨_, rfl⟩
 refine .slCast (T := 27) (sz := 1) (m' := n) (xs' := gg.map AG) O Y (by rw [← hgg, map_map]; rfl) (.slCast (T := 45) (sz := 1) (m' := n) (xs' := ff.map AG) O Y (by rw [← hff, map_map]; rfl) (.region (.an Y (.block (.loopK (ι := Nat × (Nat → List Ms) × HP) (fun q E => (16, (.slice (some ⟨b3, 0, none⟩) (2 * n) k3)) :: (27, AA q.1) :: E) (fun q => [Ke (.slice (some ⟨b3, 0, none⟩) (2 * n) k3) (As n q.2.1 (fun _ => [])), q.2.2, Aj G0 fs]) (fun q => q.1 ≤ n ∧ (∀ j, j < q.1 → Dj q.2.2 (q.2.1 j) [.info]) ∧ (∀ j, q.1 ≤ j → q.2.1 j = [])) (fun q => n - q.1) (0, (fun _ => []), JW) (ts := [2, 8, 10, 14, 15, 26]) O (⟨Nat.zero_le _, fun j hj => absurd hj (Nat.not_lt_zero _), fun _ _ => Y⟩) O O ?_)))))
 rintro ⟨i, U, pq⟩ ⟨hi, hU1, hU2⟩
 dsimp only
 dsimp only at hi hU1 hU2
 refine .seq (.sm Y (.m Y (.ui Y Y Y (.nt (.condD Y (fun h154 => ?_) (fun h154 => ?_))))))
 ·have hi2 : i < n := by omega
  have hif : i < fs.length := by omega
  obtain ⟨kk, hkk, hΦ, hLs⟩ := hfs _ (getElem_mem hif)
  refine .flAt hif O (.lnOpen (k := As n U (fun _ => [])) O fun rows hr => ?_)
  have hrl := DU hr
  rw [hrl, AL]
  refine .sk (.seq (.block (.region (.m Y (.m Y (.q (.add Y Y om) Y (.m Y (.m Y (.q (.indexAddr Y Y HW om) Y (.q (.loadEl (p := AV 45 1 _ n (ff.map AG)) (i := (i) * 1) (v := AG fs[i].f) Y Ir O (fun h hp => AE hp) (by rw [Nat.mul_one, List.getElem?_map, ← hff, List.getElem?_map, List.getElem?_eq_getElem om]; rfl)) Y ?_))))))))))
  refine .oq (.c func14 [_] (KO fs[i].f fs[i].g fs[i].x fs[i].Φ fs[i].s.δ fs[i].s.ω fs[i].s.Λ)) ?_
  rintro v L' ⟨ao, co, rfl, rfl⟩; rw [show E2 fs[i].Φ ⟨fs[i].s.δ, fs[i].s.ω, fs[i].s.Λ⟩ = E2 fs[i].Φ fs[i].s from rfl]
  refine .oq (.call func13 Y Y (vs := [_, _, _]) Y (D5 (some ⟨b3, 0, none⟩) ao k3 co (2 * n) (As n U (fun _ => [])) ((i : Int) + 1) (E2 fs[i].Φ fs[i].s) fs[i].Φ.ld pq hr (AL ..) om (Ts hU1 hU2))) ?_
  rintro v L' ⟨o1, q1, hO, rfl, rfl⟩
  refine .a Y (.nil (.blk_n (.then_n (.region (.m Y (.q (.add Y Y om) Y (.an Y (.flSame hif O (.lnCast (v' := _) (k' := As n (A0 U i (U i ++ o1.map (·.2))) (fun _ => [])) O Y (GL U _ hi2 (fun x hx => (hO.to x hx).trans (by rw [hΦ]; rfl))) ?_)))))))))
  exact .rk ((i + 1, A0 U i (U i ++ o1.map (·.2)), q1)) (⟨by dsimp only; omega, (Kv hU1 hU2 hO (by rw [hΦ]; exact NV hLs)).1, (Kv hU1 hU2 hO (by rw [hΦ]; exact NV hLs)).2⟩) (by dsimp only; omega) O
 have hie : i = n := by omega
 subst i
 obtain ⟨cv0, hC0⟩ := XN hn1 hfl (s := s3) (N := 30000000) (C := 1000) (hY.more om om) hfs hU1
 have hM0 : Main n 0 ff gg ⟨H4, L0 n, 0, s3, pq, U, fun _ => [], fs⟩ cv0 (List.replicate n 0) := ⟨hC0.more om om om, ⟨Int.le_refl 0, show (0 : Int) ≤ 7 by decide⟩, length_replicate, fun j h => by rw [getElem_replicate]; decide, fun j h h2 => by rw [getElem_replicate]; show fs[j].Φ.sil ≤ 0; obtain ⟨kk, -, hΦ, -⟩ := hfs _ (getElem_mem h); rw [hΦ]; exact Int.le_refl 0, hff, hgg⟩
 refine .xe (.sr (.an Y (.sm Y (.oq (.make Y Y BC Fk Y ⟨by simp, by simp; rfl⟩ ?hc157) ?_))))
 case hc157 => omega
 rintro v L' ⟨bq, rfl, rfl⟩; rw [Int.toNat_natCast]
 refine .a Y (.nil (.ptCast (b := bq) (l' := Aq (List.replicate n 0)) O (by simp [Aq]) (.fold (p := AV 3 1 (.slice (some ⟨bq, 0, none⟩) n n) n (Aq (List.replicate n 0))) (.cons (p := Ar bq _ _) O .nil) (fun h hp => HI (n := n) (sz := 1) (HX hp) (by simp [Aq])) (.then_n (.seq (.joinK (ι := Sy × (Nat → Cv)) (fun q E => (16, (.slice (some ⟨b3, 0, none⟩) (2 * n) k3)) :: E) (fun q => [Dg b g ob oc q.1.L q.1.t [], BW g x q.1.sL.Λ, CX x d q.1.sL.ω, Bg d q.1.sL.δ, Aj G0 q.1.fs, Ke (.slice (some ⟨b3, 0, none⟩) (2 * n) k3) (As n q.1.U q.1.D), q.1.q]) (fun q => Dr n 0 0 ff gg q.1 q.2) (pre := [Dg b g ob oc (⟨H4, L0 n, 0, s3, pq, U, fun _ => [], fs⟩ : Sy).L (⟨H4, L0 n, 0, s3, pq, U, fun _ => [], fs⟩ : Sy).t [], BW g x (⟨H4, L0 n, 0, s3, pq, U, fun _ => [], fs⟩ : Sy).sL.Λ, CX x d (⟨H4, L0 n, 0, s3, pq, U, fun _ => [], fs⟩ : Sy).sL.ω, Bg d (⟨H4, L0 n, 0, s3, pq, U, fun _ => [], fs⟩ : Sy).sL.δ, Aj G0 (⟨H4, L0 n, 0, s3, pq, U, fun _ => [], fs⟩ : Sy).fs, Ke (.slice (some ⟨b3, 0, none⟩) (2 * n) k3) (As n (⟨H4, L0 n, 0, s3, pq, U, fun _ => [], fs⟩ : Sy).U (⟨H4, L0 n, 0, s3, pq, U, fun _ => [], fs⟩ : Sy).D), (⟨H4, L0 n, 0, s3, pq, U, fun _ => [], fs⟩ : Sy).q, AV 3 1 (.slice (some ⟨bq, 0, none⟩) n n) n (Aq (List.replicate n 0))]) (ts := [8, 10, 14, 15, 26]) O O ?_ ?_))))))
 ·refine .sr (.an Y (.block (.loopK (ι := Nat × Sy × (Nat → Cv) × (List Int)) (fun q E => (16, (.slice (some ⟨b3, 0, none⟩) (2 * n) k3)) :: (28, AA q.2.1.t) :: (30, AA q.1) :: E) (fun q => [Dg b g ob oc q.2.1.L q.2.1.t [], BW g x q.2.1.sL.Λ, CX x d q.2.1.sL.ω, Bg d q.2.1.sL.δ, Aj G0 q.2.1.fs, Ke (.slice (some ⟨b3, 0, none⟩) (2 * n) k3) (As n q.2.1.U q.2.1.D), q.2.1.q, AV 3 1 (.slice (some ⟨bq, 0, none⟩) n n) n (Aq q.2.2.2)]) (fun q => q.1 ≤ xs.length ∧ q.1 ≤ 300 ∧ Main n q.1 ff gg q.2.1 q.2.2.1 q.2.2.2) (fun q => xs.length - q.1) (0, ⟨H4, L0 n, 0, s3, pq, U, fun _ => [], fs⟩, cv0, List.replicate n 0) (ts := [2, 8, 10, 14, 15, 26, 29]) O (⟨Nat.zero_le _, Nat.zero_le _, hM0⟩) O O ?_)))
  rintro ⟨i, S, cv, qt⟩ ⟨hi, hi3, hM⟩
  dsimp only
  dsimp only at hi hi3 hM
  have hff := hM.ff
  have hgg := hM.gg
  have hfl := hM.c.fl
  have hsl := hM.c.len
  have hfew := hM.c.few
  have hst := hM.t
  refine .seq (.sm Y (.m Y (.q (.slen Y underlying23 Y) Y (.ui Y Y Y (.m Y (.dec (t := 172) Y (fun h45_172 => ?_) (fun h45_172 => ?_)))))))
  ·have hi2 : i < xs.length := by omega
   refine .kDT (t := 171) Y h45_172 (.gr (.m Y (.gr (.ui Y Y Y (.pT Y Y (.nt (.condD Y (fun h175 => ?_) (fun h175 => ?_))))))))
   ·obtain ⟨hx1, hx2⟩ := his _ (getElem_mem hi2)
    have hp12 := Cw xs[i].1 (n := 12) dQ
    refine .rdShape (p := pp) hrs O om fun bs0 os e => ?_
    subst e
    refine .sk (.seq (.block (.sm Y (.m Y (.q (.indexAddr Y Y Pd om) Y (.fa Y XA (.q (.loadRd (sz := 2) (j := i * 2 + 0) (p := pp) (v := AA xs[i].1) Y AF O hrs om ((BP (f := Xk) (sz := 2) (fun _ => Y) hi2 dQ).trans (by exact rfl))) Y (.cv func5 [_, _] (DO xs[i].1 12 hx1 dQ) ?_))))))))
    refine .an Y (.seq (.joinK (ι := Sy × (Nat → Cv) × (List Int)) (fun q E => (16, (.slice (some ⟨b3, 0, none⟩) (2 * n) k3)) :: (28, AA q.1.t) :: E) (fun q => [Dg b g ob oc q.1.L q.1.t [], BW g x q.1.sL.Λ, CX x d q.1.sL.ω, Bg d q.1.sL.δ, Aj G0 q.1.fs, Ke (.slice (some ⟨b3, 0, none⟩) (2 * n) k3) (As n q.1.U q.1.D), q.1.q, AV 3 1 (.slice (some ⟨bq, 0, none⟩) n n) n (Aq q.2.2)]) (fun q => Main n (i + 1) ff gg q.1 q.2.1 q.2.2) (pre := [Dg b g ob oc S.L S.t [], BW g x S.sL.Λ, CX x d S.sL.ω, Bg d S.sL.δ, Aj G0 S.fs, Ke (.slice (some ⟨b3, 0, none⟩) (2 * n) k3) (As n S.U S.D), S.q, AV 3 1 (.slice (some ⟨bq, 0, none⟩) n n) n (Aq qt)]) (ts := [2, 8, 10, 14, 15, 26, 29, 30, 31, 168, 169, 170, 171, 172, 173, 174, 175, 178, 179, 180, 181, 182, 183]) O O ?_ ?_))
    ·refine .block (.sm Y (.ui Y Y Y (.m Y (.dec (t := 187) Y (fun h48_187 => ?_) (fun h48_187 => ?_)))))
     ·refine .kDT (t := 186) Y h48_187 (.gr (.m Y (.gr (.ui Y Y Y (.pT Y Y (.an Y (.condD Y (fun h184 => ?_) (fun h184 => ?_))))))))
      ·refine .sm Y (.q (.add Y Y om) Y (.an Y (.lnOpen (k := As n S.U S.D) O fun rows hr => ?_)))
       have hrl := DU hr
       rw [hrl, AL]
       refine .region (.m Y (.m Y (.q (.add Y Y om) Y (.m Y (.oq (.c func15 [_] (Rl b g ob oc S.L S.t x d S.sL S.H (30000000 + 4000000 * (i : Int)) (1000 + 2 * (i : Int)) hM.c.hH hM.c.hh hM.c.le hM.c.ls om om om S.q)) ?_)))))
       rintro v L' ⟨o2, s2, q2, ⟨ao, co, rfl⟩, hG, rfl⟩
       refine .cv func13 [_, _, _] (DS (some ⟨b3, 0, none⟩) ao k3 co (2 * n) (As n S.U S.D) ((n : Int) + 1) o2 hr (AL ..) (by have := hG.len; omega) om hG.ou.cells (fun r hr => Nat.le_trans (hfew r hr) om)) ?_
       refine .a Y (.nil (.blk_n (.then_n ?_)))
       obtain ⟨cv2, hM2⟩ := hM.tick om hG
       refine .lnCast (v' := _) (k' := As n S.U (fun j => S.D j ++ Df ((j : Int) + 1) o2)) O Y (FH ..) ?_
       exact .mk ((⟨S.H, (Dl Ck S.L).1, S.t + 1, s2, q2, S.U, fun j => S.D j ++ Df ((j : Int) + 1) o2, S.fs⟩, cv2, qt)) (by exact hM2) O
      refine .sm Y (.ui Y Y Y (.an Y (.condD Y (fun h199 => ?_) (fun h199 => ?_))))
      ·refine .sm Y (.m Y (.q (.indexAddr Y Y Pd om) Y (.fa Y Kj (.q (.loadRd (sz := 2) (j := i * 2 + 1) (p := pp) (v := AA xs[i].2) Y AF O hrs om ((BP (f := Xk) (sz := 2) (fun _ => Y) hi2 dQ).trans (by exact rfl))) Y (.m Y (.oq (.c func5 [_, _] (DO xs[i].2 (n : Int) hx2 om)) ?_))))))
       rintro v L' ⟨rfl, rfl⟩; have hpa := Cw xs[i].2 (n := (n : Int)) om; obtain ⟨a, ha⟩ : ∃ a : Nat, E8 xs[i].2 (n : Int) = (a : Int) := ⟨_, (Int.toNat_of_nonneg hpa.1).symm⟩; rw [ha] at hpa ⊢; have ha2 : a < n := om; have haq : a < qt.length := (by have := hM.ql; omega); have haf : a < S.fs.length := om
       refine .an Y (.sm Y (.m Y (.q (.indexAddr Y Y BC om) Y (.q (.loadEl (p := AV 3 1 (.slice (some ⟨bq, 0, none⟩) n n) n (Aq qt)) (i := a * 1) (v := AA qt[a]) Y AF O (fun h hp => AE hp) (by simp [Aq, haq])) Y (.ui Y Y Y (.nt (.condD Y (fun h213 => ?_) (fun h213 => ?_))))))))
       ·have hq6 := hM.q6 a haq
        have hsq := hM.sil a haf haq
        refine .sm Y (.m Y (.q (.indexAddr Y Y BC om) Y (.q (.loadEl (p := AV 3 1 (.slice (some ⟨bq, 0, none⟩) n n) n (Aq qt)) (i := a * 1) (v := AA qt[a]) Y AF O (fun h hp => AE hp) (by simp [Aq, haq])) Y (.q (.add Y Y om) Y (.q (.indexAddr Y Y BC om) Y (.oq (.storeEl (i := a * 1) Y Y Y BV ?hi205) ?_))))))
        case hi205 => omega
        rintro v L' rfl
        refine .nil (.slCast (T := 3) (sz := 1) (m' := n) (xs' := Aq (qt.set a (qt[a] + 1))) O Y (by simp [Aq, map_set]) (.flAt haf O (.lnOpen (k := As n S.U S.D) O fun rows hr => ?_)))
        have hrl := DU hr
        rw [hrl, AL]
        refine .then_n (.region (.m Y (.m Y (.q (.add Y Y om) Y (.m Y (.m Y (.q (.indexAddr Y Y HW om) Y (.q (.loadEl (p := AV 45 1 _ n (ff.map AG)) (i := (a) * 1) (v := AG S.fs[a].f) Y Ir O (fun h hp => AE hp) (by rw [Nat.mul_one, List.getElem?_map, ← hff, List.getElem?_map, List.getElem?_eq_getElem om]; rfl)) Y ?_))))))))
        refine .oq (.call func16 Y Y (vs := [_, _]) Y (MI S.fs[a].f S.fs[a].g S.fs[a].x S.fs[a].Φ S.fs[a].s.δ S.fs[a].s.ω S.fs[a].s.Λ (.slice none 0 0) [] S.q 0 (hM.c.fwi haf om) dQ (fun _ _ => .inl ⟨Y, Y, _, _, Y⟩))) ?_
        rintro v L' ⟨ao, co, rfl, rfl⟩; rw [show Bl S.fs[a].Φ ⟨S.fs[a].s.δ, S.fs[a].s.ω, S.fs[a].s.Λ⟩ [] = Bl S.fs[a].Φ S.fs[a].s [] from rfl]
        refine .oq (.c func13 [_, _, _] (D5 (some ⟨b3, 0, none⟩) ao k3 co (2 * n) (As n S.U S.D) ((a : Int) + 1) (Bl S.fs[a].Φ S.fs[a].s []).2 S.fs[a].Φ.ld S.q hr (AL ..) om (fun r hr => Nat.le_trans (hfew r hr) om))) ?_
        rintro v L' ⟨o1, q1, hO, rfl, rfl⟩
        refine .a Y (.nil (.blk_n (.then_n ?_)))
        obtain ⟨hto, cv2, hM2⟩ := hM.ftick ha2 haf haq h213 hO
        refine .flTo haf ⟨S.fs[a].f, S.fs[a].g, S.fs[a].x, S.fs[a].d, (Bl S.fs[a].Φ S.fs[a].s []).1, S.fs[a].s⟩ O (.lnCast (v' := _) (k' := As n (A0 S.U a (S.U a ++ o1.map (·.2))) S.D) O Y (GL S.U S.D ha2 hto) ?_)
        exact .mk ((⟨S.H, S.L, S.t, S.sL, q1, A0 S.U a (S.U a ++ o1.map (·.2)), S.D, S.fs.set a ⟨S.fs[a].f, S.fs[a].g, S.fs[a].x, S.fs[a].d, (Bl S.fs[a].Φ S.fs[a].s []).1, S.fs[a].s⟩⟩, cv2, qt.set a (qt[a] + 1))) (by exact hM2) O
       refine .skip (.blk_n (.then_n ?_))
       exact .mk ((S, cv, qt)) (by exact hM.next) O
      refine .sm Y (.ui Y Y Y (.an Y (.condD Y (fun h229 => ?_) (fun h229 => ?_))))
      ·refine .seq ?_
       have hz64 := FU (j := S.L.h + 1) (by have := hM.c.le.h; omega)
       refine .region (.m Y (.m Y (.q (.to (v' := .agg (C5 (YI [115, 111, 109, 101])).toArray) (.build (us := [(2, _)]) Yv Kr Y Y (by simp [AD])) Y) Y (.oq (.c func17 [_, _, _, _] (MT b g ob oc S.L S.t x d S.sL S.H (30000000 + 4000000 * (i : Int)) (1000 + 2 * (i : Int)) hM.c.hH hM.c.hh hM.c.le hM.c.ls om om 9 (i : Int) (YI [115, 111, 109, 101]) (WM (d := [115, 111, 109, 101]) hz64 dQ ⟨by omega, by omega⟩ dQ) (SV (d := [115, 111, 109, 101]) hz64 dQ ⟨by omega, by omega⟩ dQ) S.q)) ?_))))
       rintro v L' ⟨H2, R, o2, s2, q2, ao, co, er, rfl, hG, hH2, hR, rfl⟩
       refine .m Y (.q (.extract (vs := [.slice ao o2.length co, AA er]) Y Y) Y (.q (.extract (vs := [.slice ao o2.length co, AA er]) Y Y) Y (.a Y (.an Y (.lnOpen (k := As n S.U S.D) O fun rows hr => ?_)))))
       have hrl := DU hr
       rw [hrl, AL]
       refine .region (.m Y (.m Y (.q (.add Y Y om) Y (.m Y (.cv func13 [_, _, _] (DS (some ⟨b3, 0, none⟩) ao k3 co (2 * n) (As n S.U S.D) ((n : Int) + 1) o2 hr (AL ..) (by have := hG.len; omega) om hG.ou.cells (fun r hr => Nat.le_trans (hfew r hr) om)) ?_)))))
       refine .a Y (.nil (.blk_n (.then_n ?_)))
       obtain ⟨cv2, hM2⟩ := hM.prop hn1.1 hH2 hR hG
       refine .lnCast (v' := _) (k' := As n S.U (fun j => S.D j ++ Df ((j : Int) + 1) o2)) O Y (FH ..) ?_
       exact .mk ((⟨H2, R.1, S.t, s2, q2, S.U, fun j => S.D j ++ Df ((j : Int) + 1) o2, S.fs⟩, cv2, qt)) (by exact hM2) O
      refine .sm Y (.ui Y Y Y (.an Y (.condD Y (fun h244 => ?_) (fun h244 => ?_))))
      ·refine .sm Y (.m Y (.q (.indexAddr Y Y Pd om) Y (.fa Y Kj (.q (.loadRd (sz := 2) (j := i * 2 + 1) (p := pp) (v := AA xs[i].2) Y AF O hrs om ((BP (f := Xk) (sz := 2) (fun _ => Y) hi2 dQ).trans (by exact rfl))) Y (.m Y (.q (.slen Y underlying34 Y) Y (.oq (.c func5 [_, _] (DO xs[i].2 ((2 * n : Nat) : Int) hx2 om)) ?_)))))))
       rintro v L' ⟨rfl, rfl⟩; have hpk := Cw xs[i].2 (n := ((2 * n : Nat) : Int)) om; obtain ⟨k, hk⟩ : ∃ k : Nat, E8 xs[i].2 ((2 * n : Nat) : Int) = (k : Int) := ⟨_, (Int.toNat_of_nonneg hpk.1).symm⟩; rw [hk] at hpk ⊢; have hka : ∃ a, k = 2 * a ∨ k = 2 * a + 1 := ⟨k / 2, om⟩; obtain ⟨a, hka⟩ := hka
       refine .an Y (.seq (.seq (.lnOpen (k := As n S.U S.D) O fun rows hr => ?_)))
       have hrl := DU hr
       rw [hrl, AL]
       refine .region ?_
       rcases hka with hka | hka
       ·subst hka
        have ha2 : a < n := by omega
        have hal : a < S.L.sv.length := by omega
        have hkr : 2 * a < rows.length := by rw [hrl, AL]; omega
        have hrk : rows[2 * a].1 = ⟨(a : Int) + 1, (n : Int) + 1, S.U a⟩ := (GP hr hkr (by rw [AL]; omega)).trans (EM ha2 _)
        refine .lqLen hkr O fun aq cq hqv => (.m Y (.m Y (.q (.indexAddr Y Y BH om) Y (.fa Y BM (.q (.loadRd (sz := 3) (j := (2 * a) * 3 + 2) (p := AV 49 3 _ _ (rows.flatMap B3)) (v := .slice aq rows[2 * a].1.l.length cq) Y EG O (fun h hp => AE hp) om ((BP (f := B3) (sz := 3) (fun _ => Y) om dQ).trans (by show some rows[2 * a].2 = _; rw [hqv]))) Y (.q (.slen Y underlying47 Y) Y (.ui Y Y Y (.nt (.condD Y (fun h261 => ?_) (fun h261 => ?_))))))))))
        ·refine .lnFold (As n S.U S.D) (rows := rows) (hr) O (by first | (rw [hrl, AL]) | rfl | exact (length_set ..).symm | (rw [length_set])) (by exact rfl) (.exit (.then_e (.blk_o Y (.then_e (.blk_e (.then_n (.region (.m Y (.q (.add Y Y om) Y (.an Y ?_))))))))))
         exact .rk ((i + 1, S, cv, qt)) (⟨by dsimp only; omega, by dsimp only; omega, hM.next⟩) (by dsimp only; omega) O
        refine .sk (.seq (.lqHead hkr om O fun m Q bw ow cw hl hv hc => ?_))
        have hQU : S.U a = m :: Q := by rw [hrk] at hl; exact hl
        obtain ⟨u, V, hU, hm, hV⟩ := hM.c.topU ha2 hQU
        have hmc := hm.a.cells
        refine .region (.m Y (.m Y (.q (.indexAddr Y Y BH om) Y (.fa Y BM (.q (.loadRd (sz := 3) (j := (2 * a) * 3 + 2) (p := AV 49 3 _ _ (rows.flatMap B3)) (v := .slice (some ⟨bw, ow, none⟩) (Q.length + 1) cw) Y EG O (fun h hp => AE hp) om ((BP (f := B3) (sz := 3) (fun _ => Y) om dQ).trans (by show some rows[2 * a].2 = _; rw [hv]))) Y (.q (.indexAddr Y Y Ft om) Y (.q (.loadRdA (sz := 19) (j := 0 * 19) (k := 19) (p := IG 67 19 _ _ ((m :: Q).flatMap BF)) (vs := BF m) Y DJ O (fun h hp => IM hp) (by simp [BF]) om om (by rfl)) Y (.oq (.allocA CO) ?_))))))))
        rintro v L' ⟨bm, rfl, rfl⟩
        refine .sa Y Y J1 (by exact hmc) ?_
        refine .nil (.ptCast (b := bm) (l' := BF m) O (by exact rfl) (.then_n (.sm Y (.m Y (.m Y (.m Y (.q (.indexAddr Y Y BH om) Y (.fa Y BM (.q (.loadRd (sz := 3) (j := (2 * a) * 3 + 2) (p := AV 49 3 _ _ (rows.flatMap B3)) (v := .slice (some ⟨bw, ow, none⟩) (Q.length + 1) cw) Y EG O (fun h hp => AE hp) om ((BP (f := B3) (sz := 3) (fun _ => Y) om dQ).trans (by show some rows[2 * a].2 = _; rw [hv]))) Y (.q (.to (v' := (.slice (if cw = 1 then (some ⟨bw, ow, none⟩ : Option Addr) else (some ⟨bw, ow, none⟩ : Option Addr).map (·.add (1 * 19))) Q.length (cw - 1))) (.slSlice (i := 1) (j := ((Q.length + 1 : Nat) : Int)) Y Ft Y Y om) (by by_cases e : cw = 1 <;> simp [e, Addr.add_eq])) Y (.q (.indexAddr Y Y BH om) Y (.fa Y BM ?_))))))))))))
        refine .oq (.storeRd (sz := 3) (j := (2 * a) * 3 + 2) Y Y Y Ls ?ho268 ?hi269) ?_
        case ho268 => omega
        case hi269 => omega
        rintro v L' rfl
        refine .nil (.lqDrop O (.lqPut hkr rows[2 * a].1.fr rows[2 * a].1.to O (.slCast (T := 49) (sz := 3) (m' := 2 * n) (xs' := (rows.set (2 * a) ((⟨rows[2 * a].1.fr, rows[2 * a].1.to, Q⟩ : Lq), (.slice (if cw = 1 then (some ⟨bw, ow, none⟩ : Option Addr) else (some ⟨bw, ow, none⟩ : Option Addr).map (·.add (1 * 19))) Q.length (cw - 1)))).flatMap B3) O Y (IP hkr dQ Y) ?_)))
        have hr2 : HB (rows.set (2 * a) ((⟨rows[2 * a].1.fr, rows[2 * a].1.to, Q⟩ : Lq), (.slice (if cw = 1 then (some ⟨bw, ow, none⟩ : Option Addr) else (some ⟨bw, ow, none⟩ : Option Addr).map (·.add (1 * 19))) Q.length (cw - 1)))) (As n (A0 S.U a Q) S.D) := by rw [← Hr S.U S.D ha2 Q, show (⟨(a : Int) + 1, (n : Int) + 1, Q⟩ : Lq) = (⟨rows[2 * a].1.fr, rows[2 * a].1.to, Q⟩ : Lq) by rw [hrk]]; exact hr.set _ rfl
        obtain ⟨rows2, hrw⟩ : ∃ l, rows.set (2 * a) ((⟨rows[2 * a].1.fr, rows[2 * a].1.to, Q⟩ : Lq), (.slice (if cw = 1 then (some ⟨bw, ow, none⟩ : Option Addr) else (some ⟨bw, ow, none⟩ : Option Addr).map (·.add (1 * 19))) Q.length (cw - 1))) = l := ⟨_, rfl⟩
        rw [hrw] at hr2 ⊢
        have hrl2 := DU hr2
        have hkr2 : 2 * a < rows2.length := by rw [hrl2, AL]; omega
        have hrk2 : rows2[2 * a].1 = (⟨(a : Int) + 1, (n : Int) + 1, Q⟩ : Lq) := (GP hr2 hkr2 (by rw [AL]; omega)).trans ((EM ha2 _).trans (by unfold A0; rw [if_pos rfl]))
        have hfew2 : ∀ r ∈ As n (A0 S.U a Q) S.D, r.l.length ≤ 1000000 := Wy ha2 hQU hfew om
        refine .then_n (.sm Y (.m Y (.q (.indexAddr Y Y BH om) Y (.fa Y DY (.q (.loadRd (sz := 3) (j := (2 * a) * 3 + 1) (p := AV 49 3 _ _ (rows2.flatMap B3)) (v := AA ((n : Int) + 1)) Y AF O (fun h hp => AE hp) om ((BP (f := B3) (sz := 3) (fun _ => Y) om dQ).trans (by show some (AA rows2[2 * a].1.to) = _; rw [hrk2]))) Y (.m Y (.q (.add Y Y om) Y (.q (.as (v' := .bool true) (by exact congrArg Value.bool (decide_eq_true rfl)) (.int Y Y Y)) Y (.nt (.condT Y (.draw [10, 11] [[0, 1, 2, 3, 4, 5, 6, 7, 8, 9, 10], [11], [12]] mixed kQ (.go [AV 49 3 _ _ (rows2.flatMap B3), Ar bm _ _] O (.k Y (.move Y) (.k Y (.move Y) (.k Y (.add Y Y om) (.mv Y Y (.mv Y Y ?_)))))))))))))))))
        refine D.mv Y Y (.kv Y (.indexAddr Y Y BH om) (.kv Y (.fieldAddr Y Kf) (.kv Y (.loadRd (sz := 3) (j := (2 * a) * 3 + 0) (p := AV 49 3 _ _ (rows2.flatMap B3)) (v := AA ((a : Int) + 1)) Y AF O (fun h hp => AE hp) om ((BP (f := B3) (sz := 3) (fun _ => Y) om dQ).trans (by show some (AA rows2[2 * a].1.fr) = _; rw [hrk2]))) (.kv Y (.loadAs (vs := BF m) Y DJ O (by simp [BF]) Y) (.hh Y (.c func18 [_, _, _] (IK b g ob oc S.L S.t x d S.sL S.H (30000000 + 4000000 * (i : Int)) (1000 + 2 * (i : Int)) hM.c.hH hM.c.hh hM.c.le hM.c.ls om om a hal S.q m u hm (OX hM.c.inv hal hU))) ?_)))))
        rintro v L' ⟨o2, s2, q2, ⟨ao, co, rfl⟩, hG, rfl⟩
        refine D.ph (.g0 (.hh Y (.c func13 [_, _, _] (DS (some ⟨b3, 0, none⟩) ao k3 co (2 * n) (As n (A0 S.U a Q) S.D) ((n : Int) + 1) o2 hr2 (AL ..) (by have := hG.len; omega) om hG.ou.cells hfew2)) ?_))
        rintro v L' ⟨rfl, rfl⟩
        refine D.ph (.g0 (.kv Y (.assign Y) (.ph (.fin (.blk_n (.then_n ?_))))))
        obtain ⟨cv2, hM2⟩ := hM.hear ha2 hal hU hV hG
        refine .lnCast (v' := _) (k' := As n (A0 S.U a Q) (fun j => S.D j ++ Df ((j : Int) + 1) o2)) O Y (FH ..) ?_
        exact .mk ((⟨S.H, (CW Ck S.L a (S.L.sv[a].hrd S.t) u).1, S.t, s2, q2, A0 S.U a Q, fun j => S.D j ++ Df ((j : Int) + 1) o2, S.fs⟩, cv2, qt)) (by exact hM2) O
       subst hka
       have ha2 : a < n := by omega
       have haf : a < S.fs.length := by omega
       have hkr : 2 * a + 1 < rows.length := by rw [hrl, AL]; omega
       have hrk : rows[2 * a + 1].1 = ⟨(n : Int) + 1, (a : Int) + 1, S.D a⟩ := (GP hr hkr (by rw [AL]; omega)).trans (D9 ha2 _)
       refine .lqLen hkr O fun aq cq hqv => (.m Y (.m Y (.q (.indexAddr Y Y BH om) Y (.fa Y BM (.q (.loadRd (sz := 3) (j := (2 * a + 1) * 3 + 2) (p := AV 49 3 _ _ (rows.flatMap B3)) (v := .slice aq rows[2 * a + 1].1.l.length cq) Y EG O (fun h hp => AE hp) om ((BP (f := B3) (sz := 3) (fun _ => Y) om dQ).trans (by show some rows[2 * a + 1].2 = _; rw [hqv]))) Y (.q (.slen Y underlying47 Y) Y (.ui Y Y Y (.nt (.condD Y (fun h261 => ?_) (fun h261 => ?_))))))))))
       ·refine .lnFold (As n S.U S.D) (rows := rows) (hr) O (by first | (rw [hrl, AL]) | rfl | exact (length_set ..).symm | (rw [length_set])) (by exact rfl) (.exit (.then_e (.blk_o Y (.then_e (.blk_e (.then_n (.region (.m Y (.q (.add Y Y om) Y (.an Y ?_))))))))))
        exact .rk ((i + 1, S, cv, qt)) (⟨by dsimp only; omega, by dsimp only; omega, hM.next⟩) (by dsimp only; omega) O
       refine .sk (.seq (.lqHead hkr om O fun m Q bw ow cw hl hv hc => ?_))
       have hQU : S.D a = m :: Q := by rw [hrk] at hl; exact hl
       obtain ⟨u, V, hU, hm, hV⟩ := hM.c.topD ha2 hQU
       have hmc := hm.a.cells
       refine .region (.m Y (.m Y (.q (.indexAddr Y Y BH om) Y (.fa Y BM (.q (.loadRd (sz := 3) (j := (2 * a + 1) * 3 + 2) (p := AV 49 3 _ _ (rows.flatMap B3)) (v := .slice (some ⟨bw, ow, none⟩) (Q.length + 1) cw) Y EG O (fun h hp => AE hp) om ((BP (f := B3) (sz := 3) (fun _ => Y) om dQ).trans (by show some rows[2 * a + 1].2 = _; rw [hv]))) Y (.q (.indexAddr Y Y Ft om) Y (.q (.loadRdA (sz := 19) (j := 0 * 19) (k := 19) (p := IG 67 19 _ _ ((m :: Q).flatMap BF)) (vs := BF m) Y DJ O (fun h hp => IM hp) (by simp [BF]) om om (by rfl)) Y (.oq (.allocA CO) ?_))))))))
       rintro v L' ⟨bm, rfl, rfl⟩
       refine .sa Y Y J1 (by exact hmc) ?_
       refine .nil (.ptCast (b := bm) (l' := BF m) O (by exact rfl) (.then_n (.sm Y (.m Y (.m Y (.m Y (.q (.indexAddr Y Y BH om) Y (.fa Y BM (.q (.loadRd (sz := 3) (j := (2 * a + 1) * 3 + 2) (p := AV 49 3 _ _ (rows.flatMap B3)) (v := .slice (some ⟨bw, ow, none⟩) (Q.length + 1) cw) Y EG O (fun h hp => AE hp) om ((BP (f := B3) (sz := 3) (fun _ => Y) om dQ).trans (by show some rows[2 * a + 1].2 = _; rw [hv]))) Y (.q (.to (v' := (.slice (if cw = 1 then (some ⟨bw, ow, none⟩ : Option Addr) else (some ⟨bw, ow, none⟩ : Option Addr).map (·.add (1 * 19))) Q.length (cw - 1))) (.slSlice (i := 1) (j := ((Q.length + 1 : Nat) : Int)) Y Ft Y Y om) (by by_cases e : cw = 1 <;> simp [e, Addr.add_eq])) Y (.q (.indexAddr Y Y BH om) Y (.fa Y BM ?_))))))))))))
       refine .oq (.storeRd (sz := 3) (j := (2 * a + 1) * 3 + 2) Y Y Y Ls ?ho320 ?hi321) ?_
       case ho320 => omega
       case hi321 => omega
       rintro v L' rfl
       refine .nil (.lqDrop O (.lqPut hkr rows[2 * a + 1].1.fr rows[2 * a + 1].1.to O (.slCast (T := 49) (sz := 3) (m' := 2 * n) (xs' := (rows.set (2 * a + 1) ((⟨rows[2 * a + 1].1.fr, rows[2 * a + 1].1.to, Q⟩ : Lq), (.slice (if cw = 1 then (some ⟨bw, ow, none⟩ : Option Addr) else (some ⟨bw, ow, none⟩ : Option Addr).map (·.add (1 * 19))) Q.length (cw - 1)))).flatMap B3) O Y (IP hkr dQ Y) ?_)))
       have hr2 : HB (rows.set (2 * a + 1) ((⟨rows[2 * a + 1].1.fr, rows[2 * a + 1].1.to, Q⟩ : Lq), (.slice (if cw = 1 then (some ⟨bw, ow, none⟩ : Option Addr) else (some ⟨bw, ow, none⟩ : Option Addr).map (·.add (1 * 19))) Q.length (cw - 1)))) (As n S.U (A0 S.D a Q)) := by rw [← Hl S.U S.D ha2 Q, show (⟨(n : Int) + 1, (a : Int) + 1, Q⟩ : Lq) = (⟨rows[2 * a + 1].1.fr, rows[2 * a + 1].1.to, Q⟩ : Lq) by rw [hrk]]; exact hr.set _ rfl
       obtain ⟨rows2, hrw⟩ : ∃ l, rows.set (2 * a + 1) ((⟨rows[2 * a + 1].1.fr, rows[2 * a + 1].1.to, Q⟩ : Lq), (.slice (if cw = 1 then (some ⟨bw, ow, none⟩ : Option Addr) else (some ⟨bw, ow, none⟩ : Option Addr).map (·.add (1 * 19))) Q.length (cw - 1))) = l := ⟨_, rfl⟩
       rw [hrw] at hr2 ⊢
       have hrl2 := DU hr2
       have hkr2 : 2 * a + 1 < rows2.length := by rw [hrl2, AL]; omega
       have hrk2 : rows2[2 * a + 1].1 = (⟨(n : Int) + 1, (a : Int) + 1, Q⟩ : Lq) := (GP hr2 hkr2 (by rw [AL]; omega)).trans ((D9 ha2 _).trans (by unfold A0; rw [if_pos rfl]))
       have hfew2 : ∀ r ∈ As n S.U (A0 S.D a Q), r.l.length ≤ 1000000 := VZ ha2 hQU hfew om
       refine .then_n (.sm Y (.m Y (.q (.indexAddr Y Y BH om) Y (.fa Y DY (.q (.loadRd (sz := 3) (j := (2 * a + 1) * 3 + 1) (p := AV 49 3 _ _ (rows2.flatMap B3)) (v := AA ((a : Int) + 1)) Y AF O (fun h hp => AE hp) om ((BP (f := B3) (sz := 3) (fun _ => Y) om dQ).trans (by show some (AA rows2[2 * a + 1].1.to) = _; rw [hrk2]))) Y (.m Y (.q (.add Y Y om) Y (.q (.as (v' := .bool false) (by exact congrArg Value.bool (decide_eq_false om)) (.int Y Y Y)) Y (.nt (.condF Y (.flAt haf O (.draw [16, 17] [[0, 1, 2, 3, 4, 5, 6, 7, 8, 9, 10, 11, 12, 13, 14, 15, 16], [17], [18]] mixed kQ (.go [AV 49 3 _ _ (rows2.flatMap B3), Ar bm _ _, AV 45 1 _ n (ff.map AG)] O (.k Y (.move Y) (.k Y (.move Y) (.k Y (.move Y) ?_))))))))))))))))
       refine D.k Y (.indexAddr Y Y BH om) (.k Y (.fieldAddr Y DY) (.k Y (.loadRd (sz := 3) (j := (2 * a + 1) * 3 + 1) (p := AV 49 3 _ _ (rows2.flatMap B3)) (v := AA ((a : Int) + 1)) Y AF O (fun h hp => AE hp) om ((BP (f := B3) (sz := 3) (fun _ => Y) om dQ).trans (by show some (AA rows2[2 * a + 1].1.to) = _; rw [hrk2]))) (.mv Y Y (.mv Y Y (.mv Y Y (.kv Y (.indexAddr Y Y BH om) (.kv Y (.fieldAddr Y DY) (.kv Y (.loadRd (sz := 3) (j := (2 * a + 1) * 3 + 1) (p := AV 49 3 _ _ (rows2.flatMap B3)) (v := AA ((a : Int) + 1)) Y AF O (fun h hp => AE hp) om ((BP (f := B3) (sz := 3) (fun _ => Y) om dQ).trans (by show some (AA rows2[2 * a + 1].1.to) = _; rw [hrk2]))) ?_))))))))
       refine D.kv Y (.to (v' := AA (a : Int)) (.sub Y Y om) (by congr 1; omega)) (.kv Y (.indexAddr Y Y HW om) (.kv Y (.loadEl (p := AV 45 1 _ n (ff.map AG)) (i := (a) * 1) (v := AG S.fs[a].f) Y Ir O (fun h hp => AE hp) (by rw [Nat.mul_one, List.getElem?_map, ← hff, List.getElem?_map, List.getElem?_eq_getElem om]; rfl)) ?_))
       refine D.kv Y (.loadAs (vs := BF m) Y DJ O (by simp [BF]) Y) (.hh Y (.c func19 [_, _] (EU S.fs[a].f S.fs[a].g S.fs[a].x S.fs[a].d S.fs[a].Φ S.fs[a].s.δ S.fs[a].s.ω S.fs[a].s.Λ m S.q 4000000000 hm.a (hM.c.lps haf) dQ)) ?_)
       rintro v L' ⟨ao, co, rfl, rfl⟩; rw [show AX S.fs[a].Φ ⟨S.fs[a].s.δ, S.fs[a].s.ω, S.fs[a].s.Λ⟩ m = AX S.fs[a].Φ S.fs[a].s m from rfl]
       refine D.ph (.g0 (.hh Y (.c func13 [_, _, _] (D5 (some ⟨b3, 0, none⟩) ao k3 co (2 * n) (As n S.U (A0 S.D a Q)) ((a : Int) + 1) (AX S.fs[a].Φ S.fs[a].s m).2.2 S.fs[a].Φ.ld S.q hr2 (AL ..) om hfew2)) ?_))
       rintro v L' ⟨o1, q1, hO, rfl, rfl⟩
       refine D.ph (.g0 (.kv Y (.assign Y) (.ph (.fin (.blk_n (.then_n ?_))))))
       obtain ⟨hto, cv2, hM2⟩ := hM.fhear ha2 haf hU hm hV hO
       refine .flTo haf ⟨S.fs[a].f, S.fs[a].g, S.fs[a].x, S.fs[a].d, (AX S.fs[a].Φ S.fs[a].s m).1, (AX S.fs[a].Φ S.fs[a].s m).2.1⟩ O (.lnCast (v' := _) (k' := As n (A0 S.U a (S.U a ++ o1.map (·.2))) (A0 S.D a Q)) O Y (GL S.U _ ha2 hto) ?_)
       exact .mk ((⟨S.H, S.L, S.t, S.sL, q1, A0 S.U a (S.U a ++ o1.map (·.2)), A0 S.D a Q, S.fs.set a ⟨S.fs[a].f, S.fs[a].g, S.fs[a].x, S.fs[a].d, (AX S.fs[a].Φ S.fs[a].s m).1, (AX S.fs[a].Φ S.fs[a].s m).2.1⟩⟩, cv2, qt)) (by exact hM2) O
      refine .skip (.blk_n (.then_n ?_))
      exact .mk ((S, cv, qt)) (by exact hM.next) O
     refine .kDF (t := 186) Y h48_187 (.gk (.gk (.pF Y Y (.an Y (.condF Y (.sm Y (.ui Y Y Y (.an Y (.condD Y (fun h199 => ?_) (fun h199 => ?_))))))))))
     ·refine .sm Y (.m Y (.q (.indexAddr Y Y Pd om) Y (.fa Y Kj (.q (.loadRd (sz := 2) (j := i * 2 + 1) (p := pp) (v := AA xs[i].2) Y AF O hrs om ((BP (f := Xk) (sz := 2) (fun _ => Y) hi2 dQ).trans (by exact rfl))) Y (.m Y (.oq (.c func5 [_, _] (DO xs[i].2 (n : Int) hx2 om)) ?_))))))
      rintro v L' ⟨rfl, rfl⟩; have hpa := Cw xs[i].2 (n := (n : Int)) om; obtain ⟨a, ha⟩ : ∃ a : Nat, E8 xs[i].2 (n : Int) = (a : Int) := ⟨_, (Int.toNat_of_nonneg hpa.1).symm⟩; rw [ha] at hpa ⊢; have ha2 : a < n := om; have haq : a < qt.length := (by have := hM.ql; omega); have haf : a < S.fs.length := om
      refine .an Y (.sm Y (.m Y (.q (.indexAddr Y Y BC om) Y (.q (.loadEl (p := AV 3 1 (.slice (some ⟨bq, 0, none⟩) n n) n (Aq qt)) (i := a * 1) (v := AA qt[a]) Y AF O (fun h hp => AE hp) (by simp [Aq, haq])) Y (.ui Y Y Y (.nt (.condD Y (fun h213 => ?_) (fun h213 => ?_))))))))
      ·have hq6 := hM.q6 a haq
       have hsq := hM.sil a haf haq
       refine .sm Y (.m Y (.q (.indexAddr Y Y BC om) Y (.q (.loadEl (p := AV 3 1 (.slice (some ⟨bq, 0, none⟩) n n) n (Aq qt)) (i := a * 1) (v := AA qt[a]) Y AF O (fun h hp => AE hp) (by simp [Aq, haq])) Y (.q (.add Y Y om) Y (.q (.indexAddr Y Y BC om) Y (.oq (.storeEl (i := a * 1) Y Y Y BV ?hi367) ?_))))))
       case hi367 => omega
       rintro v L' rfl
       refine .nil (.slCast (T := 3) (sz := 1) (m' := n) (xs' := Aq (qt.set a (qt[a] + 1))) O Y (by simp [Aq, map_set]) (.flAt haf O (.lnOpen (k := As n S.U S.D) O fun rows hr => ?_)))
       have hrl := DU hr
       rw [hrl, AL]
       refine .then_n (.region (.m Y (.m Y (.q (.add Y Y om) Y (.m Y (.m Y (.q (.indexAddr Y Y HW om) Y (.q (.loadEl (p := AV 45 1 _ n (ff.map AG)) (i := (a) * 1) (v := AG S.fs[a].f) Y Ir O (fun h hp => AE hp) (by rw [Nat.mul_one, List.getElem?_map, ← hff, List.getElem?_map, List.getElem?_eq_getElem om]; rfl)) Y ?_))))))))
       refine .oq (.call func16 Y Y (vs := [_, _]) Y (MI S.fs[a].f S.fs[a].g S.fs[a].x S.fs[a].Φ S.fs[a].s.δ S.fs[a].s.ω S.fs[a].s.Λ (.slice none 0 0) [] S.q 0 (hM.c.fwi haf om) dQ (fun _ _ => .inl ⟨Y, Y, _, _, Y⟩))) ?_
       rintro v L' ⟨ao, co, rfl, rfl⟩; rw [show Bl S.fs[a].Φ ⟨S.fs[a].s.δ, S.fs[a].s.ω, S.fs[a].s.Λ⟩ [] = Bl S.fs[a].Φ S.fs[a].s [] from rfl]
       refine .oq (.c func13 [_, _, _] (D5 (some ⟨b3, 0, none⟩) ao k3 co (2 * n) (As n S.U S.D) ((a : Int) + 1) (Bl S.fs[a].Φ S.fs[a].s []).2 S.fs[a].Φ.ld S.q hr (AL ..) om (fun r hr => Nat.le_trans (hfew r hr) om))) ?_
       rintro v L' ⟨o1, q1, hO, rfl, rfl⟩
       refine .a Y (.nil (.blk_n (.then_n ?_)))
       obtain ⟨hto, cv2, hM2⟩ := hM.ftick ha2 haf haq h213 hO
       refine .flTo haf ⟨S.fs[a].f, S.fs[a].g, S.fs[a].x, S.fs[a].d, (Bl S.fs[a].Φ S.fs[a].s []).1, S.fs[a].s⟩ O (.lnCast (v' := _) (k' := As n (A0 S.U a (S.U a ++ o1.map (·.2))) S.D) O Y (GL S.U S.D ha2 hto) ?_)
       exact .mk ((⟨S.H, S.L, S.t, S.sL, q1, A0 S.U a (S.U a ++ o1.map (·.2)), S.D, S.fs.set a ⟨S.fs[a].f, S.fs[a].g, S.fs[a].x, S.fs[a].d, (Bl S.fs[a].Φ S.fs[a].s []).1, S.fs[a].s⟩⟩, cv2, qt.set a (qt[a] + 1))) (by exact hM2) O
      refine .skip (.blk_n (.then_n ?_))
      exact .mk ((S, cv, qt)) (by exact hM.next) O
     refine .sm Y (.ui Y Y Y (.an Y (.condD Y (fun h229 => ?_) (fun h229 => ?_))))
     ·refine .seq ?_
      have hz64 := FU (j := S.L.h + 1) (by have := hM.c.le.h; omega)
      refine .region (.m Y (.m Y (.q (.to (v' := .agg (C5 (YI [115, 111, 109, 101])).toArray) (.build (us := [(2, _)]) Yv Kr Y Y (by simp [AD])) Y) Y (.oq (.c func17 [_, _, _, _] (MT b g ob oc S.L S.t x d S.sL S.H (30000000 + 4000000 * (i : Int)) (1000 + 2 * (i : Int)) hM.c.hH hM.c.hh hM.c.le hM.c.ls om om 9 (i : Int) (YI [115, 111, 109, 101]) (WM (d := [115, 111, 109, 101]) hz64 dQ ⟨by omega, by omega⟩ dQ) (SV (d := [115, 111, 109, 101]) hz64 dQ ⟨by omega, by omega⟩ dQ) S.q)) ?_))))
      rintro v L' ⟨H2, R, o2, s2, q2, ao, co, er, rfl, hG, hH2, hR, rfl⟩
      refine .m Y (.q (.extract (vs := [.slice ao o2.length co, AA er]) Y Y) Y (.q (.extract (vs := [.slice ao o2.length co, AA er]) Y Y) Y (.a Y (.an Y (.lnOpen (k := As n S.U S.D) O fun rows hr => ?_)))))
      have hrl := DU hr
      rw [hrl, AL]
      refine .region (.m Y (.m Y (.q (.add Y Y om) Y (.m Y (.cv func13 [_, _, _] (DS (some ⟨b3, 0, none⟩) ao k3 co (2 * n) (As n S.U S.D) ((n : Int) + 1) o2 hr (AL ..) (by have := hG.len; omega) om hG.ou.cells (fun r hr => Nat.le_trans (hfew r hr) om)) ?_)))))
      refine .a Y (.nil (.blk_n (.then_n ?_)))
      obtain ⟨cv2, hM2⟩ := hM.prop hn1.1 hH2 hR hG
      refine .lnCast (v' := _) (k' := As n S.U (fun j => S.D j ++ Df ((j : Int) + 1) o2)) O Y (FH ..) ?_
      exact .mk ((⟨H2, R.1, S.t, s2, q2, S.U, fun j => S.D j ++ Df ((j : Int) + 1) o2, S.fs⟩, cv2, qt)) (by exact hM2) O
     refine .sm Y (.ui Y Y Y (.an Y (.condD Y (fun h244 => ?_) (fun h244 => ?_))))
     ·refine .sm Y (.m Y (.q (.indexAddr Y Y Pd om) Y (.fa Y Kj (.q (.loadRd (sz := 2) (j := i * 2 + 1) (p := pp) (v := AA xs[i].2) Y AF O hrs om ((BP (f := Xk) (sz := 2) (fun _ => Y) hi2 dQ).trans (by exact rfl))) Y (.m Y (.q (.slen Y underlying34 Y) Y (.oq (.c func5 [_, _] (DO xs[i].2 ((2 * n : Nat) : Int) hx2 om)) ?_)))))))
      rintro v L' ⟨rfl, rfl⟩; have hpk := Cw xs[i].2 (n := ((2 * n : Nat) : Int)) om; obtain ⟨k, hk⟩ : ∃ k : Nat, E8 xs[i].2 ((2 * n : Nat) : Int) = (k : Int) := ⟨_, (Int.toNat_of_nonneg hpk.1).symm⟩; rw [hk] at hpk ⊢; have hka : ∃ a, k = 2 * a ∨ k = 2 * a + 1 := ⟨k / 2, om⟩; obtain ⟨a, hka⟩ := hka
      refine .an Y (.seq (.seq (.lnOpen (k := As n S.U S.D) O fun rows hr => ?_)))
      have hrl := DU hr
      rw [hrl, AL]
      refine .region ?_
      rcases hka with hka | hka
      ·subst hka
       have ha2 : a < n := by omega
       have hal : a < S.L.sv.length := by omega
       have hkr : 2 * a < rows.length := by rw [hrl, AL]; omega
       have hrk : rows[2 * a].1 = ⟨(a : Int) + 1, (n : Int) + 1, S.U a⟩ := (GP hr hkr (by rw [AL]; omega)).trans (EM ha2 _)
       refine .lqLen hkr O fun aq cq hqv => (.m Y (.m Y (.q (.indexAddr Y Y BH om) Y (.fa Y BM (.q (.loadRd (sz := 3) (j := (2 * a) * 3 + 2) (p := AV 49 3 _ _ (rows.flatMap B3)) (v := .slice aq rows[2 * a].1.l.length cq) Y EG O (fun h hp => AE hp) om ((BP (f := B3) (sz := 3) (fun _ => Y) om dQ).trans (by show some rows[2 * a].2 = _; rw [hqv]))) Y (.q (.slen Y underlying47 Y) Y (.ui Y Y Y (.nt (.condD Y (fun h261 => ?_) (fun h261 => ?_))))))))))
       ·refine .lnFold (As n S.U S.D) (rows := rows) (hr) O (by first | (rw [hrl, AL]) | rfl | exact (length_set ..).symm | (rw [length_set])) (by exact rfl) (.exit (.then_e (.blk_o Y (.then_e (.blk_e (.then_n (.region (.m Y (.q (.add Y Y om) Y (.an Y ?_))))))))))
        exact .rk ((i + 1, S, cv, qt)) (⟨by dsimp only; omega, by dsimp only; omega, hM.next⟩) (by dsimp only; omega) O
       refine .sk (.seq (.lqHead hkr om O fun m Q bw ow cw hl hv hc => ?_))
       have hQU : S.U a = m :: Q := by rw [hrk] at hl; exact hl
       obtain ⟨u, V, hU, hm, hV⟩ := hM.c.topU ha2 hQU
       have hmc := hm.a.cells
       refine .region (.m Y (.m Y (.q (.indexAddr Y Y BH om) Y (.fa Y BM (.q (.loadRd (sz := 3) (j := (2 * a) * 3 + 2) (p := AV 49 3 _ _ (rows.flatMap B3)) (v := .slice (some ⟨bw, ow, none⟩) (Q.length + 1) cw) Y EG O (fun h hp => AE hp) om ((BP (f := B3) (sz := 3) (fun _ => Y) om dQ).trans (by show some rows[2 * a].2 = _; rw [hv]))) Y (.q (.indexAddr Y Y Ft om) Y (.q (.loadRdA (sz := 19) (j := 0 * 19) (k := 19) (p := IG 67 19 _ _ ((m :: Q).flatMap BF)) (vs := BF m) Y DJ O (fun h hp => IM hp) (by simp [BF]) om om (by rfl)) Y (.oq (.allocA CO) ?_))))))))
       rintro v L' ⟨bm, rfl, rfl⟩
       refine .sa Y Y J1 (by exact hmc) ?_
       refine .nil (.ptCast (b := bm) (l' := BF m) O (by exact rfl) (.then_n (.sm Y (.m Y (.m Y (.m Y (.q (.indexAddr Y Y BH om) Y (.fa Y BM (.q (.loadRd (sz := 3) (j := (2 * a) * 3 + 2) (p := AV 49 3 _ _ (rows.flatMap B3)) (v := .slice (some ⟨bw, ow, none⟩) (Q.length + 1) cw) Y EG O (fun h hp => AE hp) om ((BP (f := B3) (sz := 3) (fun _ => Y) om dQ).trans (by show some rows[2 * a].2 = _; rw [hv]))) Y (.q (.to (v' := (.slice (if cw = 1 then (some ⟨bw, ow, none⟩ : Option Addr) else (some ⟨bw, ow, none⟩ : Option Addr).map (·.add (1 * 19))) Q.length (cw - 1))) (.slSlice (i := 1) (j := ((Q.length + 1 : Nat) : Int)) Y Ft Y Y om) (by by_cases e : cw = 1 <;> simp [e, Addr.add_eq])) Y (.q (.indexAddr Y Y BH om) Y (.fa Y BM ?_))))))))))))
       refine .oq (.storeRd (sz := 3) (j := (2 * a) * 3 + 2) Y Y Y Ls ?ho430 ?hi431) ?_
       case ho430 => omega
       case hi431 => omega
       rintro v L' rfl
       refine .nil (.lqDrop O (.lqPut hkr rows[2 * a].1.fr rows[2 * a].1.to O (.slCast (T := 49) (sz := 3) (m' := 2 * n) (xs' := (rows.set (2 * a) ((⟨rows[2 * a].1.fr, rows[2 * a].1.to, Q⟩ : Lq), (.slice (if cw = 1 then (some ⟨bw, ow, none⟩ : Option Addr) else (some ⟨bw, ow, none⟩ : Option Addr).map (·.add (1 * 19))) Q.length (cw - 1)))).flatMap B3) O Y (IP hkr dQ Y) ?_)))
       have hr2 : HB (rows.set (2 * a) ((⟨rows[2 * a].1.fr, rows[2 * a].1.to, Q⟩ : Lq), (.slice (if cw = 1 then (some ⟨bw, ow, none⟩ : Option Addr) else (some ⟨bw, ow, none⟩ : Option Addr).map (·.add (1 * 19))) Q.length (cw - 1)))) (As n (A0 S.U a Q) S.D) := by rw [← Hr S.U S.D ha2 Q, show (⟨(a : Int) + 1, (n : Int) + 1, Q⟩ : Lq) = (⟨rows[2 * a].1.fr, rows[2 * a].1.to, Q⟩ : Lq) by rw [hrk]]; exact hr.set _ rfl
       obtain ⟨rows2, hrw⟩ : ∃ l, rows.set (2 * a) ((⟨rows[2 * a].1.fr, rows[2 * a].1.to, Q⟩ : Lq), (.slice (if cw = 1 then (some ⟨bw, ow, none⟩ : Option Addr) else (some ⟨bw, ow, none⟩ : Option Addr).map (·.add (1 * 19))) Q.length (cw - 1))) = l := ⟨_, rfl⟩
       rw [hrw] at hr2 ⊢
       have hrl2 := DU hr2
       have hkr2 : 2 * a < rows2.length := by rw [hrl2, AL]; omega
       have hrk2 : rows2[2 * a].1 = (⟨(a : Int) + 1, (n : Int) + 1, Q⟩ : Lq) := (GP hr2 hkr2 (by rw [AL]; omega)).trans ((EM ha2 _).trans (by unfold A0; rw [if_pos rfl]))
       have hfew2 : ∀ r ∈ As n (A0 S.U a Q) S.D, r.l.length ≤ 1000000 := Wy ha2 hQU hfew om
       refine .then_n (.sm Y (.m Y (.q (.indexAddr Y Y BH om) Y (.fa Y DY (.q (.loadRd (sz := 3) (j := (2 * a) * 3 + 1) (p := AV 49 3 _ _ (rows2.flatMap B3)) (v := AA ((n : Int) + 1)) Y AF O (fun h hp => AE hp) om ((BP (f := B3) (sz := 3) (fun _ => Y) om dQ).trans (by show some (AA rows2[2 * a].1.to) = _; rw [hrk2]))) Y (.m Y (.q (.add Y Y om) Y (.q (.as (v' := .bool true) (by exact congrArg Value.bool (decide_eq_true rfl)) (.int Y Y Y)) Y (.nt (.condT Y (.draw [10, 11] [[0, 1, 2, 3, 4, 5, 6, 7, 8, 9, 10], [11], [12]] mixed kQ (.go [AV 49 3 _ _ (rows2.flatMap B3), Ar bm _ _] O (.k Y (.move Y) (.k Y (.move Y) (.k Y (.add Y Y om) (.mv Y Y (.mv Y Y ?_)))))))))))))))))
       refine D.mv Y Y (.kv Y (.indexAddr Y Y BH om) (.kv Y (.fieldAddr Y Kf) (.kv Y (.loadRd (sz := 3) (j := (2 * a) * 3 + 0) (p := AV 49 3 _ _ (rows2.flatMap B3)) (v := AA ((a : Int) + 1)) Y AF O (fun h hp => AE hp) om ((BP (f := B3) (sz := 3) (fun _ => Y) om dQ).trans (by show some (AA rows2[2 * a].1.fr) = _; rw [hrk2]))) (.kv Y (.loadAs (vs := BF m) Y DJ O (by simp [BF]) Y) (.hh Y (.c func18 [_, _, _] (IK b g ob oc S.L S.t x d S.sL S.H (30000000 + 4000000 * (i : Int)) (1000 + 2 * (i : Int)) hM.c.hH hM.c.hh hM.c.le hM.c.ls om om a hal S.q m u hm (OX hM.c.inv hal hU))) ?_)))))
       rintro v L' ⟨o2, s2, q2, ⟨ao, co, rfl⟩, hG, rfl⟩
       refine D.ph (.g0 (.hh Y (.c func13 [_, _, _] (DS (some ⟨b3, 0, none⟩) ao k3 co (2 * n) (As n (A0 S.U a Q) S.D) ((n : Int) + 1) o2 hr2 (AL ..) (by have := hG.len; omega) om hG.ou.cells hfew2)) ?_))
       rintro v L' ⟨rfl, rfl⟩
       refine D.ph (.g0 (.kv Y (.assign Y) (.ph (.fin (.blk_n (.then_n ?_))))))
       obtain ⟨cv2, hM2⟩ := hM.hear ha2 hal hU hV hG
       refine .lnCast (v' := _) (k' := As n (A0 S.U a Q) (fun j => S.D j ++ Df ((j : Int) + 1) o2)) O Y (FH ..) ?_
       exact .mk ((⟨S.H, (CW Ck S.L a (S.L.sv[a].hrd S.t) u).1, S.t, s2, q2, A0 S.U a Q, fun j => S.D j ++ Df ((j : Int) + 1) o2, S.fs⟩, cv2, qt)) (by exact hM2) O
      subst hka
      have ha2 : a < n := by omega
      have haf : a < S.fs.length := by omega
      have hkr : 2 * a + 1 < rows.length := by rw [hrl, AL]; omega
      have hrk : rows[2 * a + 1].1 = ⟨(n : Int) + 1, (a : Int) + 1, S.D a⟩ := (GP hr hkr (by rw [AL]; omega)).trans (D9 ha2 _)
      refine .lqLen hkr O fun aq cq hqv => (.m Y (.m Y (.q (.indexAddr Y Y BH om) Y (.fa Y BM (.q (.loadRd (sz := 3) (j := (2 * a + 1) * 3 + 2) (p := AV 49 3 _ _ (rows.flatMap B3)) (v := .slice aq rows[2 * a + 1].1.l.length cq) Y EG O (fun h hp => AE hp) om ((BP (f := B3) (sz := 3) (fun _ => Y) om dQ).trans (by show some rows[2 * a + 1].2 = _; rw [hqv]))) Y (.q (.slen Y underlying47 Y) Y (.ui Y Y Y (.nt (.condD Y (fun h261 => ?_) (fun h261 => ?_))))))))))
      ·refine .lnFold (As n S.U S.D) (rows := rows) (hr) O (by first | (rw [hrl, AL]) | rfl | exact (length_set ..).symm | (rw [length_set])) (by exact rfl) (.exit (.then_e (.blk_o Y (.then_e (.blk_e (.then_n (.region (.m Y (.q (.add Y Y om) Y (.an Y ?_))))))))))
       exact .rk ((i + 1, S, cv, qt)) (⟨by dsimp only; omega, by dsimp only; omega, hM.next⟩) (by dsimp only; omega) O
      refine .sk (.seq (.lqHead hkr om O fun m Q bw ow cw hl hv hc => ?_))
      have hQU : S.D a = m :: Q := by rw [hrk] at hl; exact hl
      obtain ⟨u, V, hU, hm, hV⟩ := hM.c.topD ha2 hQU
      have hmc := hm.a.cells
      refine .region (.m Y (.m Y (.q (.indexAddr Y Y BH om) Y (.fa Y BM (.q (.loadRd (sz := 3) (j := (2 * a + 1) * 3 + 2) (p := AV 49 3 _ _ (rows.flatMap B3)) (v := .slice (some ⟨bw, ow, none⟩) (Q.length + 1) cw) Y EG O (fun h hp => AE hp) om ((BP (f := B3) (sz := 3) (fun _ => Y) om dQ).trans (by show some rows[2 * a + 1].2 = _; rw [hv]))) Y (.q (.indexAddr Y Y Ft om) Y (.q (.loadRdA (sz := 19) (j := 0 * 19) (k := 19) (p := IG 67 19 _ _ ((m :: Q).flatMap BF)) (vs := BF m) Y DJ O (fun h hp => IM hp) (by simp [BF]) om om (by rfl)) Y (.oq (.allocA CO) ?_))))))))
      rintro v L' ⟨bm, rfl, rfl⟩
      refine .sa Y Y J1 (by exact hmc) ?_
      refine .nil (.ptCast (b := bm) (l' := BF m) O (by exact rfl) (.then_n (.sm Y (.m Y (.m Y (.m Y (.q (.indexAddr Y Y BH om) Y (.fa Y BM (.q (.loadRd (sz := 3) (j := (2 * a + 1) * 3 + 2) (p := AV 49 3 _ _ (rows.flatMap B3)) (v := .slice (some ⟨bw, ow, none⟩) (Q.length + 1) cw) Y EG O (fun h hp => AE hp) om ((BP (f := B3) (sz := 3) (fun _ => Y) om dQ).trans (by show some rows[2 * a + 1].2 = _; rw [hv]))) Y (.q (.to (v' := (.slice (if cw = 1 then (some ⟨bw, ow, none⟩ : Option Addr) else (some ⟨bw, ow, none⟩ : Option Addr).map (·.add (1 * 19))) Q.length (cw - 1))) (.slSlice (i := 1) (j := ((Q.length + 1 : Nat) : Int)) Y Ft Y Y om) (by by_cases e : cw = 1 <;> simp [e, Addr.add_eq])) Y (.q (.indexAddr Y Y BH om) Y (.fa Y BM ?_))))))))))))
      refine .oq (.storeRd (sz := 3) (j := (2 * a + 1) * 3 + 2) Y Y Y Ls ?ho482 ?hi483) ?_
      case ho482 => omega
      case hi483 => omega
      rintro v L' rfl
      refine .nil (.lqDrop O (.lqPut hkr rows[2 * a + 1].1.fr rows[2 * a + 1].1.to O (.slCast (T := 49) (sz := 3) (m' := 2 * n) (xs' := (rows.set (2 * a + 1) ((⟨rows[2 * a + 1].1.fr, rows[2 * a + 1].1.to, Q⟩ : Lq), (.slice (if cw = 1 then (some ⟨bw, ow, none⟩ : Option Addr) else (some ⟨bw, ow, none⟩ : Option Addr).map (·.add (1 * 19))) Q.length (cw - 1)))).flatMap B3) O Y (IP hkr dQ Y) ?_)))
      have hr2 : HB (rows.set (2 * a + 1) ((⟨rows[2 * a + 1].1.fr, rows[2 * a + 1].1.to, Q⟩ : Lq), (.slice (if cw = 1 then (some ⟨bw, ow, none⟩ : Option Addr) else (some ⟨bw, ow, none⟩ : Option Addr).map (·.add (1 * 19))) Q.length (cw - 1)))) (As n S.U (A0 S.D a Q)) := by rw [← Hl S.U S.D ha2 Q, show (⟨(n : Int) + 1, (a : Int) + 1, Q⟩ : Lq) = (⟨rows[2 * a + 1].1.fr, rows[2 * a + 1].1.to, Q⟩ : Lq) by rw [hrk]]; exact hr.set _ rfl
      obtain ⟨rows2, hrw⟩ : ∃ l, rows.set (2 * a + 1) ((⟨rows[2 * a + 1].1.fr, rows[2 * a + 1].1.to, Q⟩ : Lq), (.slice (if cw = 1 then (some ⟨bw, ow, none⟩ : Option Addr) else (some ⟨bw, ow, none⟩ : Option Addr).map (·.add (1 * 19))) Q.length (cw - 1))) = l := ⟨_, rfl⟩
      rw [hrw] at hr2 ⊢
      have hrl2 := DU hr2
      have hkr2 : 2 * a + 1 < rows2.length := by rw [hrl2, AL]; omega
      have hrk2 : rows2[2 * a + 1].1 = (⟨(n : Int) + 1, (a : Int) + 1, Q⟩ : Lq) := (GP hr2 hkr2 (by rw [AL]; omega)).trans ((D9 ha2 _).trans (by unfold A0; rw [if_pos rfl]))
      have hfew2 : ∀ r ∈ As n S.U (A0 S.D a Q), r.l.length ≤ 1000000 := VZ ha2 hQU hfew om
      refine .then_n (.sm Y (.m Y (.q (.indexAddr Y Y BH om) Y (.fa Y DY (.q (.loadRd (sz := 3) (j := (2 * a + 1) * 3 + 1) (p := AV 49 3 _ _ (rows2.flatMap B3)) (v := AA ((a : Int) + 1)) Y AF O (fun h hp => AE hp) om ((BP (f := B3) (sz := 3) (fun _ => Y) om dQ).trans (by show some (AA rows2[2 * a + 1].1.to) = _; rw [hrk2]))) Y (.m Y (.q (.add Y Y om) Y (.q (.as (v' := .bool false) (by exact congrArg Value.bool (decide_eq_false om)) (.int Y Y Y)) Y (.nt (.condF Y (.flAt haf O (.draw [16, 17] [[0, 1, 2, 3, 4, 5, 6, 7, 8, 9, 10, 11, 12, 13, 14, 15, 16], [17], [18]] mixed kQ (.go [AV 49 3 _ _ (rows2.flatMap B3), Ar bm _ _, AV 45 1 _ n (ff.map AG)] O (.k Y (.move Y) (.k Y (.move Y) (.k Y (.move Y) ?_))))))))))))))))
      refine D.k Y (.indexAddr Y Y BH om) (.k Y (.fieldAddr Y DY) (.k Y (.loadRd (sz := 3) (j := (2 * a + 1) * 3 + 1) (p := AV 49 3 _ _ (rows2.flatMap B3)) (v := AA ((a : Int) + 1)) Y AF O (fun h hp => AE hp) om ((BP (f := B3) (sz := 3) (fun _ => Y) om dQ).trans (by show some (AA rows2[2 * a + 1].1.to) = _; rw [hrk2]))) (.mv Y Y (.mv Y Y (.mv Y Y (.kv Y (.indexAddr Y Y BH om) (.kv Y (.fieldAddr Y DY) (.kv Y (.loadRd (sz := 3) (j := (2 * a + 1) * 3 + 1) (p := AV 49 3 _ _ (rows2.flatMap B3)) (v := AA ((a : Int) + 1)) Y AF O (fun h hp => AE hp) om ((BP (f := B3) (sz := 3) (fun _ => Y) om dQ).trans (by show some (AA rows2[2 * a + 1].1.to) = _; rw [hrk2]))) ?_))))))))
      refine D.kv Y (.to (v' := AA (a : Int)) (.sub Y Y om) (by congr 1; omega)) (.kv Y (.indexAddr Y Y HW om) (.kv Y (.loadEl (p := AV 45 1 _ n (ff.map AG)) (i := (a) * 1) (v := AG S.fs[a].f) Y Ir O (fun h hp => AE hp) (by rw [Nat.mul_one, List.getElem?_map, ← hff, List.getElem?_map, List.getElem?_eq_getElem om]; rfl)) ?_))
      refine D.kv Y (.loadAs (vs := BF m) Y DJ O (by simp [BF]) Y) (.hh Y (.c func19 [_, _] (EU S.fs[a].f S.fs[a].g S.fs[a].x S.fs[a].d S.fs[a].Φ S.fs[a].s.δ S.fs[a].s.ω S.fs[a].s.Λ m S.q 4000000000 hm.a (hM.c.lps haf) dQ)) ?_)
      rintro v L' ⟨ao, co, rfl, rfl⟩; rw [show AX S.fs[a].Φ ⟨S.fs[a].s.δ, S.fs[a].s.ω, S.fs[a].s.Λ⟩ m = AX S.fs[a].Φ S.fs[a].s m from rfl]
      refine D.ph (.g0 (.hh Y (.c func13 [_, _, _] (D5 (some ⟨b3, 0, none⟩) ao k3 co (2 * n) (As n S.U (A0 S.D a Q)) ((a : Int) + 1) (AX S.fs[a].Φ S.fs[a].s m).2.2 S.fs[a].Φ.ld S.q hr2 (AL ..) om hfew2)) ?_))
      rintro v L' ⟨o1, q1, hO, rfl, rfl⟩
      refine D.ph (.g0 (.kv Y (.assign Y) (.ph (.fin (.blk_n (.then_n ?_))))))
      obtain ⟨hto, cv2, hM2⟩ := hM.fhear ha2 haf hU hm hV hO
      refine .flTo haf ⟨S.fs[a].f, S.fs[a].g, S.fs[a].x, S.fs[a].d, (AX S.fs[a].Φ S.fs[a].s m).1, (AX S.fs[a].Φ S.fs[a].s m).2.1⟩ O (.lnCast (v' := _) (k' := As n (A0 S.U a (S.U a ++ o1.map (·.2))) (A0 S.D a Q)) O Y (GL S.U _ ha2 hto) ?_)
      exact .mk ((⟨S.H, S.L, S.t, S.sL, q1, A0 S.U a (S.U a ++ o1.map (·.2)), A0 S.D a Q, S.fs.set a ⟨S.fs[a].f, S.fs[a].g, S.fs[a].x, S.fs[a].d, (AX S.fs[a].Φ S.fs[a].s m).1, (AX S.fs[a].Φ S.fs[a].s m).2.1⟩⟩, cv2, qt)) (by exact hM2) O
     refine .skip (.blk_n (.then_n ?_))
     exact .mk ((S, cv, qt)) (by exact hM.next) O
    rintro ⟨S2, cv2, qt2⟩ hM2
    dsimp only
    dsimp only at hM2
    obtain ⟨hΛ2, hW2⟩ := hM2.c.lgh
    rw [hΛ2]
    refine .sm Y (.oq (.c func20 [_] (Q2 b g ob oc S2.L S2.t [])) ?_)
    rintro v L' ⟨rfl, rfl⟩; rw [decide_eq_false (show ¬ S2.L.ph = 4 by have := hM2.c.le.ph; omega)]
    refine .m Y (.gr (.m Y (.gr (.m Y (.gr (.m Y (.gr (.cv func21 [_, _, _] (H3 g x S2.H _ _ hM2.c.hH hW2 S2.fs hM2.c.agree (some ⟨b1, 0, none⟩) (some ⟨b2, 0, none⟩) k1 k2 n ff gg hM2.c.fl hM2.ff hM2.gg hn1.2) ?_))))))))
    refine .gr (.u (.not Y) (.pF Y Y (.nil ?_)))
    rw [← hΛ2]
    refine .then_n (.condF Y (.skip (.blk_n (.then_n (.region (.m Y (.q (.add Y Y om) Y (.an Y ?_))))))))
    exact .rk ((i + 1, S2, cv2, qt2)) (⟨by dsimp only; omega, by dsimp only; omega, hM2⟩) (by dsimp only; omega) O
   refine .xe ?_
   exact .mk ((S, cv)) (by exact hM.dr hi3) O
  refine .kDF (t := 171) Y h45_172 (.gk (.gk (.pF Y Y (.nt (.condF Y (.xe ?_))))))
  exact .mk ((S, cv)) (by exact hM.dr hi3) O
 rintro ⟨S, cv⟩ hD
 dsimp only
 dsimp only at hD
 refine .seq (.seq ?_)
 have hff := hD.ff
 have hgg := hD.gg
 refine .region (.an Y (.block (.loopK (ι := Nat × Sy × (Nat → Cv)) (fun q E => (16, (.slice (some ⟨b3, 0, none⟩) (2 * n) k3)) :: (37, AA q.1) :: E) (fun q => [Dg b g ob oc q.2.1.L q.2.1.t [], BW g x q.2.1.sL.Λ, CX x d q.2.1.sL.ω, Bg d q.2.1.sL.δ, Aj G0 q.2.1.fs, Ke (.slice (some ⟨b3, 0, none⟩) (2 * n) k3) (As n q.2.1.U q.2.1.D), q.2.1.q]) (fun q => q.1 ≤ 400 ∧ Dr n 0 q.1 ff gg q.2.1 q.2.2) (fun q => 400 - q.1) (0, S, cv) (ts := [8, 10, 14, 15, 26]) O (⟨Nat.zero_le _, hD⟩) O O ?_)))
 rintro ⟨r, S, cv⟩ ⟨hr4, hD⟩
 dsimp only
 dsimp only at hr4 hD
 refine .seq (.sm Y (.ui Y Y Y (.nt (.condD Y (fun h327 => ?_) (fun h327 => ?_)))))
 ·refine .sk (.seq (.joinK (ι := Sy × (Nat → Cv)) (fun q E => (16, (.slice (some ⟨b3, 0, none⟩) (2 * n) k3)) :: E) (fun q => [Dg b g ob oc q.1.L q.1.t [], BW g x q.1.sL.Λ, CX x d q.1.sL.ω, Bg d q.1.sL.δ, Aj G0 q.1.fs, Ke (.slice (some ⟨b3, 0, none⟩) (2 * n) k3) (As n q.1.U q.1.D), q.1.q]) (fun q => Dr n 0 (r + 1) ff gg q.1 q.2) (pre := [Dg b g ob oc S.L S.t [], BW g x S.sL.Λ, CX x d S.sL.ω, Bg d S.sL.δ, Aj G0 S.fs, Ke (.slice (some ⟨b3, 0, none⟩) (2 * n) k3) (As n S.U S.D), S.q]) (ts := [8, 10, 14, 15, 26, 37, 326, 327]) O O ?_ ?_))
  ·refine .block (.sr (.an Y (.block (.loopK (ι := Nat × Sy × (Nat → Cv)) (fun q E => (16, (.slice (some ⟨b3, 0, none⟩) (2 * n) k3)) :: (38, AA q.1) :: E) (fun q => [Dg b g ob oc q.2.1.L q.2.1.t [], BW g x q.2.1.sL.Λ, CX x d q.2.1.sL.ω, Bg d q.2.1.sL.δ, Aj G0 q.2.1.fs, Ke (.slice (some ⟨b3, 0, none⟩) (2 * n) k3) (As n q.2.1.U q.2.1.D), q.2.1.q]) (fun q => q.1 ≤ 2 * n ∧ Dr n q.1 r ff gg q.2.1 q.2.2) (fun q => 2 * n - q.1) (0, S, cv) (ts := [8, 10, 14, 15, 26, 37, 326, 327]) O (⟨Nat.zero_le _, hD⟩) O O ?_))))
   rintro ⟨k, S, cv⟩ ⟨hk2, hD⟩
   dsimp only
   dsimp only at hk2 hD
   refine .seq (.sm Y (.m Y (.q (.slen Y underlying34 Y) Y (.ui Y Y Y (.nt (.condD Y (fun h333 => ?_) (fun h333 => ?_)))))))
   ·have hkl : k < 2 * n := by omega
    have hka : ∃ a, k = 2 * a ∨ k = 2 * a + 1 := ⟨k / 2, om⟩
    obtain ⟨a, hka⟩ := hka
    refine .sk (.seq (.joinK (ι := Sy × (Nat → Cv)) (fun q E => (16, (.slice (some ⟨b3, 0, none⟩) (2 * n) k3)) :: E) (fun q => [Dg b g ob oc q.1.L q.1.t [], BW g x q.1.sL.Λ, CX x d q.1.sL.ω, Bg d q.1.sL.δ, Aj G0 q.1.fs, Ke (.slice (some ⟨b3, 0, none⟩) (2 * n) k3) (As n q.1.U q.1.D), q.1.q]) (fun q => Dr n (k + 1) r ff gg q.1 q.2) (pre := [Dg b g ob oc S.L S.t [], BW g x S.sL.Λ, CX x d S.sL.ω, Bg d S.sL.δ, Aj G0 S.fs, Ke (.slice (some ⟨b3, 0, none⟩) (2 * n) k3) (As n S.U S.D), S.q]) (ts := [8, 10, 14, 15, 26, 37, 38, 326, 327, 330, 331, 332, 333]) O O ?_ ?_))
    ·refine .block (.block (.loopK (ι := Sy × (Nat → Cv)) (fun q E => (16, (.slice (some ⟨b3, 0, none⟩) (2 * n) k3)) :: E) (fun q => [Dg b g ob oc q.1.L q.1.t [], BW g x q.1.sL.Λ, CX x d q.1.sL.ω, Bg d q.1.sL.δ, Aj G0 q.1.fs, Ke (.slice (some ⟨b3, 0, none⟩) (2 * n) k3) (As n q.1.U q.1.D), q.1.q]) (fun q => Dr n k r ff gg q.1 q.2) (fun q => (q.1.U (k / 2)).length * (1 - k % 2) + (q.1.D (k / 2)).length * (k % 2)) (S, cv) (ts := [8, 10, 14, 15, 26, 37, 38, 326, 327, 330, 331, 332, 333]) O (hD) O O ?_))
     rintro ⟨S, cv⟩ hD
     dsimp only
     dsimp only at hD
     have hff := hD.ff
     have hgg := hD.gg
     have hfl := hD.c.fl
     have hsl := hD.c.len
     have hfew := hD.c.few
     refine .seq (.seq (.lnOpen (k := As n S.U S.D) O fun rows hr => ?_))
     have hrl := DU hr
     rw [hrl, AL]
     refine .region ?_
     rcases hka with hka | hka
     ·subst hka
      have ha2 : a < n := by omega
      have hal : a < S.L.sv.length := by omega
      have hkr : 2 * a < rows.length := by rw [hrl, AL]; omega
      have hrk : rows[2 * a].1 = ⟨(a : Int) + 1, (n : Int) + 1, S.U a⟩ := (GP hr hkr (by rw [AL]; omega)).trans (EM ha2 _)
      refine .lqLen hkr O fun aq cq hqv => (.m Y (.m Y (.q (.indexAddr Y Y BH om) Y (.fa Y BM (.q (.loadRd (sz := 3) (j := (2 * a) * 3 + 2) (p := AV 49 3 _ _ (rows.flatMap B3)) (v := .slice aq rows[2 * a].1.l.length cq) Y EG O (fun h hp => AE hp) om ((BP (f := B3) (sz := 3) (fun _ => Y) om dQ).trans (by show some rows[2 * a].2 = _; rw [hqv]))) Y (.q (.slen Y underlying47 Y) Y (.ui Y Y Y (.nt (.condD Y (fun h342 => ?_) (fun h342 => ?_))))))))))
      ·refine .sk (.block (.seq (.lqHead hkr om O fun m Q bw ow cw hl hv hc => ?_)))
       have hQU : S.U a = m :: Q := by rw [hrk] at hl; exact hl
       obtain ⟨u, V, hU, hm, hV⟩ := hD.c.topU ha2 hQU
       have hmc := hm.a.cells
       refine .region (.m Y (.m Y (.q (.indexAddr Y Y BH om) Y (.fa Y BM (.q (.loadRd (sz := 3) (j := (2 * a) * 3 + 2) (p := AV 49 3 _ _ (rows.flatMap B3)) (v := .slice (some ⟨bw, ow, none⟩) (Q.length + 1) cw) Y EG O (fun h hp => AE hp) om ((BP (f := B3) (sz := 3) (fun _ => Y) om dQ).trans (by show some rows[2 * a].2 = _; rw [hv]))) Y (.q (.indexAddr Y Y Ft om) Y (.q (.loadRdA (sz := 19) (j := 0 * 19) (k := 19) (p := IG 67 19 _ _ ((m :: Q).flatMap BF)) (vs := BF m) Y DJ O (fun h hp => IM hp) (by simp [BF]) om om (by rfl)) Y (.oq (.allocA CO) ?_))))))))
       rintro v L' ⟨bm, rfl, rfl⟩
       refine .sa Y Y J1 (by exact hmc) ?_
       refine .nil (.ptCast (b := bm) (l' := BF m) O (by exact rfl) (.then_n (.sm Y (.m Y (.m Y (.m Y (.q (.indexAddr Y Y BH om) Y (.fa Y BM (.q (.loadRd (sz := 3) (j := (2 * a) * 3 + 2) (p := AV 49 3 _ _ (rows.flatMap B3)) (v := .slice (some ⟨bw, ow, none⟩) (Q.length + 1) cw) Y EG O (fun h hp => AE hp) om ((BP (f := B3) (sz := 3) (fun _ => Y) om dQ).trans (by show some rows[2 * a].2 = _; rw [hv]))) Y (.q (.to (v' := (.slice (if cw = 1 then (some ⟨bw, ow, none⟩ : Option Addr) else (some ⟨bw, ow, none⟩ : Option Addr).map (·.add (1 * 19))) Q.length (cw - 1))) (.slSlice (i := 1) (j := ((Q.length + 1 : Nat) : Int)) Y Ft Y Y om) (by by_cases e : cw = 1 <;> simp [e, Addr.add_eq])) Y (.q (.indexAddr Y Y BH om) Y (.fa Y BM ?_))))))))))))
       refine .oq (.storeRd (sz := 3) (j := (2 * a) * 3 + 2) Y Y Y Ls ?ho561 ?hi562) ?_
       case ho561 => omega
       case hi562 => omega
       rintro v L' rfl
       refine .nil (.lqDrop O (.lqPut hkr rows[2 * a].1.fr rows[2 * a].1.to O (.slCast (T := 49) (sz := 3) (m' := 2 * n) (xs' := (rows.set (2 * a) ((⟨rows[2 * a].1.fr, rows[2 * a].1.to, Q⟩ : Lq), (.slice (if cw = 1 then (some ⟨bw, ow, none⟩ : Option Addr) else (some ⟨bw, ow, none⟩ : Option Addr).map (·.add (1 * 19))) Q.length (cw - 1)))).flatMap B3) O Y (IP hkr dQ Y) ?_)))
       have hr2 : HB (rows.set (2 * a) ((⟨rows[2 * a].1.fr, rows[2 * a].1.to, Q⟩ : Lq), (.slice (if cw = 1 then (some ⟨bw, ow, none⟩ : Option Addr) else (some ⟨bw, ow, none⟩ : Option Addr).map (·.add (1 * 19))) Q.length (cw - 1)))) (As n (A0 S.U a Q) S.D) := by rw [← Hr S.U S.D ha2 Q, show (⟨(a : Int) + 1, (n : Int) + 1, Q⟩ : Lq) = (⟨rows[2 * a].1.fr, rows[2 * a].1.to, Q⟩ : Lq) by rw [hrk]]; exact hr.set _ rfl
       obtain ⟨rows2, hrw⟩ : ∃ l, rows.set (2 * a) ((⟨rows[2 * a].1.fr, rows[2 * a].1.to, Q⟩ : Lq), (.slice (if cw = 1 then (some ⟨bw, ow, none⟩ : Option Addr) else (some ⟨bw, ow, none⟩ : Option Addr).map (·.add (1 * 19))) Q.length (cw - 1))) = l := ⟨_, rfl⟩
       rw [hrw] at hr2 ⊢
       have hrl2 := DU hr2
       have hkr2 : 2 * a < rows2.length := by rw [hrl2, AL]; omega
       have hrk2 : rows2[2 * a].1 = (⟨(a : Int) + 1, (n : Int) + 1, Q⟩ : Lq) := (GP hr2 hkr2 (by rw [AL]; omega)).trans ((EM ha2 _).trans (by unfold A0; rw [if_pos rfl]))
       have hfew2 : ∀ r ∈ As n (A0 S.U a Q) S.D, r.l.length ≤ 1000000 := Wy ha2 hQU hfew om
       refine .then_n (.sm Y (.m Y (.q (.indexAddr Y Y BH om) Y (.fa Y DY (.q (.loadRd (sz := 3) (j := (2 * a) * 3 + 1) (p := AV 49 3 _ _ (rows2.flatMap B3)) (v := AA ((n : Int) + 1)) Y AF O (fun h hp => AE hp) om ((BP (f := B3) (sz := 3) (fun _ => Y) om dQ).trans (by show some (AA rows2[2 * a].1.to) = _; rw [hrk2]))) Y (.m Y (.q (.add Y Y om) Y (.q (.as (v' := .bool true) (by exact congrArg Value.bool (decide_eq_true rfl)) (.int Y Y Y)) Y (.nt (.condT Y (.draw [10, 11] [[0, 1, 2, 3, 4, 5, 6, 7, 8, 9, 10], [11], [12]] mixed kQ (.go [AV 49 3 _ _ (rows2.flatMap B3), Ar bm _ _] O (.k Y (.move Y) (.k Y (.move Y) (.k Y (.add Y Y om) (.mv Y Y (.mv Y Y ?_)))))))))))))))))
       refine D.mv Y Y (.kv Y (.indexAddr Y Y BH om) (.kv Y (.fieldAddr Y Kf) (.kv Y (.loadRd (sz := 3) (j := (2 * a) * 3 + 0) (p := AV 49 3 _ _ (rows2.flatMap B3)) (v := AA ((a : Int) + 1)) Y AF O (fun h hp => AE hp) om ((BP (f := B3) (sz := 3) (fun _ => Y) om dQ).trans (by show some (AA rows2[2 * a].1.fr) = _; rw [hrk2]))) (.kv Y (.loadAs (vs := BF m) Y DJ O (by simp [BF]) Y) (.hh Y (.c func18 [_, _, _] (IK b g ob oc S.L S.t x d S.sL S.H 2000000000 2000 hD.c.hH hD.c.hh hD.c.le hD.c.ls om om a hal S.q m u hm (OX hD.c.inv hal hU))) ?_)))))
       rintro v L' ⟨o2, s2, q2, ⟨ao, co, rfl⟩, hG, rfl⟩
       refine D.ph (.g0 (.hh Y (.c func13 [_, _, _] (DS (some ⟨b3, 0, none⟩) ao k3 co (2 * n) (As n (A0 S.U a Q) S.D) ((n : Int) + 1) o2 hr2 (AL ..) (by have := hG.len; omega) om hG.ou.cells hfew2)) ?_))
       rintro v L' ⟨rfl, rfl⟩
       refine D.ph (.g0 (.kv Y (.assign Y) (.ph (.fin (.blk_n (.then_n ?_))))))
       obtain ⟨cv2, hD2⟩ := hD.hear ha2 hal hU hV hG
       refine .lnCast (v' := _) (k' := As n (A0 S.U a Q) (fun j => S.D j ++ Df ((j : Int) + 1) o2)) O Y (FH ..) ?_
       exact .rk ((⟨S.H, (CW Ck S.L a (S.L.sv[a].hrd S.t) u).1, S.t, s2, q2, A0 S.U a Q, fun j => S.D j ++ Df ((j : Int) + 1) o2, S.fs⟩, cv2)) (hD2) ((by have e1 : 2 * a / 2 = a := om; have e2 : 2 * a % 2 = 0 := om; simp only [e1, e2, hQU, A0, if_true, length_cons]; omega)) O
      refine .lnFold (As n S.U S.D) (rows := rows) (hr) O (by first | (rw [hrl, AL]) | rfl | exact (length_set ..).symm | (rw [length_set])) (by exact rfl) ?_
      have hD2 := hD.doneU ha2 (by have : rows[2 * a].1.l.length = 0 := om; rw [hrk] at this; exact eq_nil_of_length_eq_zero this)
      refine .exit (.then_e (.then_e (.blk_e (.blk_n (.then_n ?_)))))
      exact .mk ((S, cv)) (by exact hD2) O
     subst hka
     have ha2 : a < n := by omega
     have haf : a < S.fs.length := by omega
     have hkr : 2 * a + 1 < rows.length := by rw [hrl, AL]; omega
     have hrk : rows[2 * a + 1].1 = ⟨(n : Int) + 1, (a : Int) + 1, S.D a⟩ := (GP hr hkr (by rw [AL]; omega)).trans (D9 ha2 _)
     refine .lqLen hkr O fun aq cq hqv => (.m Y (.m Y (.q (.indexAddr Y Y BH om) Y (.fa Y BM (.q (.loadRd (sz := 3) (j := (2 * a + 1) * 3 + 2) (p := AV 49 3 _ _ (rows.flatMap B3)) (v := .slice aq rows[2 * a + 1].1.l.length cq) Y EG O (fun h hp => AE hp) om ((BP (f := B3) (sz := 3) (fun _ => Y) om dQ).trans (by show some rows[2 * a + 1].2 = _; rw [hqv]))) Y (.q (.slen Y underlying47 Y) Y (.ui Y Y Y (.nt (.condD Y (fun h342 => ?_) (fun h342 => ?_))))))))))
     ·refine .sk (.block (.seq (.lqHead hkr om O fun m Q bw ow cw hl hv hc => ?_)))
      have hQU : S.D a = m :: Q := by rw [hrk] at hl; exact hl
      obtain ⟨u, V, hU, hm, hV⟩ := hD.c.topD ha2 hQU
      have hmc := hm.a.cells
      refine .region (.m Y (.m Y (.q (.indexAddr Y Y BH om) Y (.fa Y BM (.q (.loadRd (sz := 3) (j := (2 * a + 1) * 3 + 2) (p := AV 49 3 _ _ (rows.flatMap B3)) (v := .slice (some ⟨bw, ow, none⟩) (Q.length + 1) cw) Y EG O (fun h hp => AE hp) om ((BP (f := B3) (sz := 3) (fun _ => Y) om dQ).trans (by show some rows[2 * a + 1].2 = _; rw [hv]))) Y (.q (.indexAddr Y Y Ft om) Y (.q (.loadRdA (sz := 19) (j := 0 * 19) (k := 19) (p := IG 67 19 _ _ ((m :: Q).flatMap BF)) (vs := BF m) Y DJ O (fun h hp => IM hp) (by simp [BF]) om om (by rfl)) Y (.oq (.allocA CO) ?_))))))))
      rintro v L' ⟨bm, rfl, rfl⟩
      refine .sa Y Y J1 (by exact hmc) ?_
      refine .nil (.ptCast (b := bm) (l' := BF m) O (by exact rfl) (.then_n (.sm Y (.m Y (.m Y (.m Y (.q (.indexAddr Y Y BH om) Y (.fa Y BM (.q (.loadRd (sz := 3) (j := (2 * a + 1) * 3 + 2) (p := AV 49 3 _ _ (rows.flatMap B3)) (v := .slice (some ⟨bw, ow, none⟩) (Q.length + 1) cw) Y EG O (fun h hp => AE hp) om ((BP (f := B3) (sz := 3) (fun _ => Y) om dQ).trans (by show some rows[2 * a + 1].2 = _; rw [hv]))) Y (.q (.to (v' := (.slice (if cw = 1 then (some ⟨bw, ow, none⟩ : Option Addr) else (some ⟨bw, ow, none⟩ : Option Addr).map (·.add (1 * 19))) Q.length (cw - 1))) (.slSlice (i := 1) (j := ((Q.length + 1 : Nat) : Int)) Y Ft Y Y om) (by by_cases e : cw = 1 <;> simp [e, Addr.add_eq])) Y (.q (.indexAddr Y Y BH om) Y (.fa Y BM ?_))))))))))))
      refine .oq (.storeRd (sz := 3) (j := (2 * a + 1) * 3 + 2) Y Y Y Ls ?ho617 ?hi618) ?_
      case ho617 => omega
      case hi618 => omega
      rintro v L' rfl
      refine .nil (.lqDrop O (.lqPut hkr rows[2 * a + 1].1.fr rows[2 * a + 1].1.to O (.slCast (T := 49) (sz := 3) (m' := 2 * n) (xs' := (rows.set (2 * a + 1) ((⟨rows[2 * a + 1].1.fr, rows[2 * a + 1].1.to, Q⟩ : Lq), (.slice (if cw = 1 then (some ⟨bw, ow, none⟩ : Option Addr) else (some ⟨bw, ow, none⟩ : Option Addr).map (·.add (1 * 19))) Q.length (cw - 1)))).flatMap B3) O Y (IP hkr dQ Y) ?_)))
      have hr2 : HB (rows.set (2 * a + 1) ((⟨rows[2 * a + 1].1.fr, rows[2 * a + 1].1.to, Q⟩ : Lq), (.slice (if cw = 1 then (some ⟨bw, ow, none⟩ : Option Addr) else (some ⟨bw, ow, none⟩ : Option Addr).map (·.add (1 * 19))) Q.length (cw - 1)))) (As n S.U (A0 S.D a Q)) := by rw [← Hl S.U S.D ha2 Q, show (⟨(n : Int) + 1, (a : Int) + 1, Q⟩ : Lq) = (⟨rows[2 * a + 1].1.fr, rows[2 * a + 1].1.to, Q⟩ : Lq) by rw [hrk]]; exact hr.set _ rfl
      obtain ⟨rows2, hrw⟩ : ∃ l, rows.set (2 * a + 1) ((⟨rows[2 * a + 1].1.fr, rows[2 * a + 1].1.to, Q⟩ : Lq), (.slice (if cw = 1 then (some ⟨bw, ow, none⟩ : Option Addr) else (some ⟨bw, ow, none⟩ : Option Addr).map (·.add (1 * 19))) Q.length (cw - 1))) = l := ⟨_, rfl⟩
      rw [hrw] at hr2 ⊢
      have hrl2 := DU hr2
      have hkr2 : 2 * a + 1 < rows2.length := by rw [hrl2, AL]; omega
      have hrk2 : rows2[2 * a + 1].1 = (⟨(n : Int) + 1, (a : Int) + 1, Q⟩ : Lq) := (GP hr2 hkr2 (by rw [AL]; omega)).trans ((D9 ha2 _).trans (by unfold A0; rw [if_pos rfl]))
      have hfew2 : ∀ r ∈ As n S.U (A0 S.D a Q), r.l.length ≤ 1000000 := VZ ha2 hQU hfew om
      refine .then_n (.sm Y (.m Y (.q (.indexAddr Y Y BH om) Y (.fa Y DY (.q (.loadRd (sz := 3) (j := (2 * a + 1) * 3 + 1) (p := AV 49 3 _ _ (rows2.flatMap B3)) (v := AA ((a : Int) + 1)) Y AF O (fun h hp => AE hp) om ((BP (f := B3) (sz := 3) (fun _ => Y) om dQ).trans (by show some (AA rows2[2 * a + 1].1.to) = _; rw [hrk2]))) Y (.m Y (.q (.add Y Y om) Y (.q (.as (v' := .bool false) (by exact congrArg Value.bool (decide_eq_false om)) (.int Y Y Y)) Y (.nt (.condF Y (.flAt haf O (.draw [16, 17] [[0, 1, 2, 3, 4, 5, 6, 7, 8, 9, 10, 11, 12, 13, 14, 15, 16], [17], [18]] mixed kQ (.go [AV 49 3 _ _ (rows2.flatMap B3), Ar bm _ _, AV 45 1 _ n (ff.map AG)] O (.k Y (.move Y) (.k Y (.move Y) (.k Y (.move Y) ?_))))))))))))))))
      refine D.k Y (.indexAddr Y Y BH om) (.k Y (.fieldAddr Y DY) (.k Y (.loadRd (sz := 3) (j := (2 * a + 1) * 3 + 1) (p := AV 49 3 _ _ (rows2.flatMap B3)) (v := AA ((a : Int) + 1)) Y AF O (fun h hp => AE hp) om ((BP (f := B3) (sz := 3) (fun _ => Y) om dQ).trans (by show some (AA rows2[2 * a + 1].1.to) = _; rw [hrk2]))) (.mv Y Y (.mv Y Y (.mv Y Y (.kv Y (.indexAddr Y Y BH om) (.kv Y (.fieldAddr Y DY) (.kv Y (.loadRd (sz := 3) (j := (2 * a + 1) * 3 + 1) (p := AV 49 3 _ _ (rows2.flatMap B3)) (v := AA ((a : Int) + 1)) Y AF O (fun h hp => AE hp) om ((BP (f := B3) (sz := 3) (fun _ => Y) om dQ).trans (by show some (AA rows2[2 * a + 1].1.to) = _; rw [hrk2]))) ?_))))))))
      refine D.kv Y (.to (v' := AA (a : Int)) (.sub Y Y om) (by congr 1; omega)) (.kv Y (.indexAddr Y Y HW om) (.kv Y (.loadEl (p := AV 45 1 _ n (ff.map AG)) (i := (a) * 1) (v := AG S.fs[a].f) Y Ir O (fun h hp => AE hp) (by rw [Nat.mul_one, List.getElem?_map, ← hff, List.getElem?_map, List.getElem?_eq_getElem om]; rfl)) ?_))
      refine D.kv Y (.loadAs (vs := BF m) Y DJ O (by simp [BF]) Y) (.hh Y (.c func19 [_, _] (EU S.fs[a].f S.fs[a].g S.fs[a].x S.fs[a].d S.fs[a].Φ S.fs[a].s.δ S.fs[a].s.ω S.fs[a].s.Λ m S.q 4000000000 hm.a (hD.c.lps haf) dQ)) ?_)
      rintro v L' ⟨ao, co, rfl, rfl⟩; rw [show AX S.fs[a].Φ ⟨S.fs[a].s.δ, S.fs[a].s.ω, S.fs[a].s.Λ⟩ m = AX S.fs[a].Φ S.fs[a].s m from rfl]
      refine D.ph (.g0 (.hh Y (.c func13 [_, _, _] (D5 (some ⟨b3, 0, none⟩) ao k3 co (2 * n) (As n S.U (A0 S.D a Q)) ((a : Int) + 1) (AX S.fs[a].Φ S.fs[a].s m).2.2 S.fs[a].Φ.ld S.q hr2 (AL ..) om hfew2)) ?_))
      rintro v L' ⟨o1, q1, hO, rfl, rfl⟩
      refine D.ph (.g0 (.kv Y (.assign Y) (.ph (.fin (.blk_n (.then_n ?_))))))
      obtain ⟨hto, cv2, hD2⟩ := hD.fhear ha2 haf hU hm hV hO
      refine .flTo haf ⟨S.fs[a].f, S.fs[a].g, S.fs[a].x, S.fs[a].d, (AX S.fs[a].Φ S.fs[a].s m).1, (AX S.fs[a].Φ S.fs[a].s m).2.1⟩ O (.lnCast (v' := _) (k' := As n (A0 S.U a (S.U a ++ o1.map (·.2))) (A0 S.D a Q)) O Y (GL S.U _ ha2 hto) ?_)
      exact .rk ((⟨S.H, S.L, S.t, S.sL, q1, A0 S.U a (S.U a ++ o1.map (·.2)), A0 S.D a Q, S.fs.set a ⟨S.fs[a].f, S.fs[a].g, S.fs[a].x, S.fs[a].d, (AX S.fs[a].Φ S.fs[a].s m).1, (AX S.fs[a].Φ S.fs[a].s m).2.1⟩⟩, cv2)) (hD2) ((by have e1 : (2 * a + 1) / 2 = a := om; have e2 : (2 * a + 1) % 2 = 1 := om; simp only [e1, e2, hQU, A0, if_true, length_cons]; omega)) O
     refine .lnFold (As n S.U S.D) (rows := rows) (hr) O (by first | (rw [hrl, AL]) | rfl | exact (length_set ..).symm | (rw [length_set])) (by exact rfl) ?_
     have hD2 := hD.doneD ha2 (by have : rows[2 * a + 1].1.l.length = 0 := om; rw [hrk] at this; exact eq_nil_of_length_eq_zero this)
     refine .exit (.then_e (.then_e (.blk_e (.blk_n (.then_n ?_)))))
     exact .mk ((S, cv)) (by exact hD2) O
    rintro ⟨S, cv⟩ hD
    dsimp only
    dsimp only at hD
    refine .region (.m Y (.q (.add Y Y om) Y (.an Y ?_)))
    exact .rk ((k + 1, S, cv)) (⟨by dsimp only; omega, hD⟩) (by dsimp only; omega) O
   have hke : k = 2 * n := by omega
   subst hke
   refine .exit (.then_e (.then_e (.blk_e (.blk_n (.then_n ?_)))))
   obtain ⟨cv2, hD2⟩ := hD.round
   exact .mk ((S, cv2)) (by exact hD2) O
  rintro ⟨S, cv⟩ hD
  dsimp only
  dsimp only at hD
  refine .region (.m Y (.q (.add Y Y om) Y (.an Y ?_)))
  exact .rk ((r + 1, S, cv)) (⟨by dsimp only; omega, hD⟩) (by dsimp only; omega) O
 have hre : r = 400 := by omega
 subst hre
 refine .xe (.seq ?_)
 obtain ⟨hp3, hcz, hend⟩ := hD.all hn1.1
 obtain ⟨hΛ, hW⟩ := hD.c.lgh
 obtain ⟨ea, hea⟩ : ∃ e, (if S.L.ph = 0 then 1 else 2 : Int) = e := ⟨_, rfl⟩
 obtain ⟨ec, hec⟩ : ∃ e, (if S.L.ph ≤ 1 then 1 else 2 : Int) = e := ⟨_, rfl⟩
 rw [hea, hec] at hΛ hW
 rw [hΛ]
 have hHk := hD.c.hH
 have hfew := hHk.few
 have hff := hD.ff
 have hgg := hD.gg
 have hfl := hD.c.fl
 refine .region (.m Y (.oq (.c func22 [_, _] (DA g x (BO S.H ea ec) 0 hW.i)) ?_))
 rintro v L' (⟨hz, -, -⟩ | ⟨-, es0, hes0, hek0, a9, c9, rfl, rfl⟩); · exact absurd (show (0 : Int) < 0 from hz) dQ
 refine .m Y (.q (.extract (vs := [(.slice a9 es0.length c9), AA 0]) Y Y) Y (.q (.extract (vs := [(.slice a9 es0.length c9), AA 0]) Y Y) Y (.a Y (.a Y (.nil ?_)))))
 have he0 : es0.map En.pl = S.H.map En.pl := hes0.trans (Eh hHk ea ec 0)
 have hel0 : es0.length = S.H.length := by have := congrArg List.length he0; simpa using this
 obtain ⟨-, hg0⟩ := HT hW hes0
 refine .fold (p := R5 (.slice a9 es0.length c9) es0) (q := [AV 42 11 (.slice a9 es0.length c9) es0.length (es0.flatMap BX), Aj entR es0]) O (fun _ h => h) (.then_n (.seq (.sm Y (.oq (.c func23 [_] (VM b g ob oc S.L S.t [])) ?_))))
 rintro v L' ⟨rfl, rfl⟩; rw [decide_eq_true hp3]
 refine .u (.not Y) (.m Y (.gr (.m Y (.gr (.oq (.c func24 [_] (UB b g ob oc S.L S.t [])) ?_)))))
 rintro v L' ⟨rfl, rfl⟩; rw [hcz]
 refine .gr (.m Y (.gr (.oq (.c func25 [_] (B2 g x (BO S.H ea ec) hW.i)) ?_)))
 rintro v L' ⟨rfl, rfl⟩; rw [D4 hHk]
 refine .gr (.q (.as (v' := .bool false) (by simp) (.int Y Y Y)) Y (.pF Y Y (.m Y (.gr (.m Y (.gr (.q (.as (v' := .bool false) (by rfl) (.int Y Y Y)) Y (.pF Y Y (.m Y (.gr (.m Y (.gr (.m Y (.gr (.m Y (.gr (.cv func21 [_, _, _] (H3 g x S.H ea ec hHk hW S.fs hD.c.agree (some ⟨b1, 0, none⟩) (some ⟨b2, 0, none⟩) k1 k2 n ff gg hfl hff hgg hn1.2) ?_)))))))))))))))))
 refine .gr (.u (.not Y) (.pF Y Y (.nt (.condF Y (.sk (.seq (.sr (.an Y (.block (.loopK (ι := Nat) (fun q E => (42, AA q) :: E) (fun q => [Aj G0 S.fs]) (fun q => q ≤ n) (fun q => n - q) (0) (ts := [8, 10, 14, 15, 40]) O (Nat.zero_le _) O O ?_))))))))))
 rintro i hi
 refine .seq (.sm Y (.m Y (.ui Y Y Y (.nt (.condD Y (fun h426 => ?_) (fun h426 => ?_))))))
 ·have hi2 : i < n := by omega
  have hif : i < S.fs.length := by omega
  obtain ⟨hfp, hfc, ka, kc, hfΛ, hfW⟩ := hend i hif
  refine .flAt hif O (.sk (.seq (.block (.sm Y (.m Y (.q (.indexAddr Y Y ST om) Y (.q (.loadEl (p := AV 27 1 _ n (gg.map AG)) (i := (i) * 1) (v := AG S.fs[i].g) Y B1 O (fun h hp => AE hp) (by rw [Nat.mul_one, List.getElem?_map, ← hgg, List.getElem?_map, List.getElem?_eq_getElem om]; rfl)) Y ?_)))))))
  refine .oq (.c func22 [_, _] (DA S.fs[i].g S.fs[i].x S.fs[i].s.Λ 0 hfW.i)) ?_
  rintro v L' (⟨hz, -, -⟩ | ⟨-, es, hes, hek, a8, c8, rfl, rfl⟩); · exact absurd (show (0 : Int) < 0 from by rw [hfΛ] at hz; exact hz) dQ
  refine .m Y (.q (.extract (vs := [(.slice a8 es.length c8), AA 0]) Y Y) Y (.q (.extract (vs := [(.slice a8 es.length c8), AA 0]) Y Y) Y (.a Y (.a Y (.nil ?_)))))
  have he1 : es.map En.pl = S.H.map En.pl := by rw [hfΛ] at hes; exact hes.trans (Eh hHk ka kc 0)
  have hel1 : es.length = S.H.length := by have := congrArg List.length he1; simpa using this
  obtain ⟨-, hg1⟩ := HT hfW hes
  refine .fold (p := R5 (.slice a8 es.length c8) es) (q := [AV 42 11 (.slice a8 es.length c8) es.length (es.flatMap BX), Aj entR es]) O (fun _ h => h) (.then_n (.sm Y (.m Y (.q (.indexAddr Y Y HW om) Y (.q (.loadEl (p := AV 45 1 _ n (ff.map AG)) (i := (i) * 1) (v := AG S.fs[i].f) Y Ir O (fun h hp => AE hp) (by rw [Nat.mul_one, List.getElem?_map, ← hff, List.getElem?_map, List.getElem?_eq_getElem om]; rfl)) Y ?_)))))
  refine .oq (.c func26 [_] (PI S.fs[i].f S.fs[i].g S.fs[i].Φ)) ?_
  rintro v L' ⟨rfl, rfl⟩; rw [decide_eq_true hfp]
  refine .u (.not Y) (.m Y (.gr (.m Y (.gr (.q (.as (v' := .bool false) (by rfl) (.int Y Y Y)) Y (.pF Y Y (.m Y (.gr (.m Y (.gr (.m Y (.gr (.cv func27 [_, _] (KH a8 a9 c8 c9 es es0 (R5 (.slice a8 es.length c8) es) (R5 (.slice a9 es0.length c9) es0) RA RA (fun e he => Sq he (hek e he) (hg1 e he)) (fun e he => Sq he (hek0 e he) (hg0 e he)) om (he1.trans he0.symm)) ?_)))))))))))))
  refine .gr (.u (.not Y) (.pF Y Y (.m Y (.gr (.m Y (.gr (.m Y (.gr (.q (.indexAddr Y Y HW om) Y (.gr (.q (.loadEl (p := AV 45 1 _ n (ff.map AG)) (i := (i) * 1) (v := AG S.fs[i].f) Y Ir O (fun h hp => AE hp) (by rw [Nat.mul_one, List.getElem?_map, ← hff, List.getElem?_map, List.getElem?_eq_getElem om]; rfl)) Y ?_)))))))))))
  refine .gr (.oq (.c func28 [_] (NN S.fs[i].f S.fs[i].g S.fs[i].Φ)) ?_)
  rintro v L' ⟨rfl, rfl⟩; rw [hfc]
  refine .gr (.m Y (.gr (.oq (.c func25 [_] (B2 g x (BO S.H ea ec) hW.i)) ?_)))
  rintro v L' ⟨rfl, rfl⟩; rw [D4 hHk]
  refine .gr (.q (.as (v' := .bool false) (by simp) (.int Y Y Y)) Y (.pF Y Y (.nt (.condF Y (.skip (.blk_n (.then_n (.region (.m Y (.q (.add Y Y om) Y (.an Y (.flSame hif O ?_))))))))))))
  exact .rk (i + 1) om om O
 refine .xe (.sr (.an Y (.ret ?_)))
 exact .dn Y Y ⟨Y, Y⟩
open Go Go.ChangeShapes Go.WideShapes Go.ChangeAt Go.RowKit
section
variable {H : Type} {enc : TypeId × Value → H} {P : Program} {W W' : World}
theorem KK (hl : laidOutB P = true) (hb : Below W.heap.size W W') (sp : Nat → Bool) : ∀ (ts : List TypeId) (vs : List Value) (ds : List (DataW H)) (p : List MemPlace), (∀ t ∈ ts, P.readableRec t = true ∧ t < P.types.size) →
  DataW.TrodAll enc P W 0 (fun _ => true) true ts vs ds p → (∀ x ∈ p, x.block < W.heap.size) → (∀ x ∈ p, sp x.block = true) → DataW.TrodAll enc P W' 0 sp true ts vs ds p
 | [], vs, ds, p, _, h, _, _ => by
  obtain ⟨rfl, rfl, rfl⟩ := trodAll_nil h
  exact h
 | t :: ts, vs, ds, p, hr, h, hlt, hsp => by
  obtain ⟨v, vs1, d, ds1, a, b, rfl, rfl, rfl, h1, h2⟩ := trodAll_cons h
  have r := hr t (by simp)
  refine ⟨a, b, WideElems.Trod_stays hl r.1 r.2 h1 (fun x hx => hb.same (hlt x (by simp [hx]))) (fun x hx => hsp x (by simp [hx])), ?_, rfl⟩
  exact KK hl hb sp ts vs1 ds1 b (fun t ht => hr t (by simp [ht])) h2 (fun x hx => hlt x (by simp [hx])) (fun x hx => hsp x (by simp [hx]))
theorem Xm {fn : Func} {s : ChangeSpec} {apart fresh handsOn again : Bool} {args : Array Value} {ds gs : List (DataW H)} {before : List MemPlace} {tb : TypeId}
  (hW : DataW.Whole enc P fn.params.toList s.vars apart W args.toList ds gs before) (hvars : s.vars = []) (hspec : ∀ gs', gs' = [] → s.fn H (ds ++ gs') = { results := [.lit (.bool true)], args := ds })
  (hres : fn.resultTypes = #[tb]) (htb : P.underlying tb = some .bool) (hl : laidOutB P = true) (hr : ∀ t ∈ fn.params.toList, P.readableRec t = true ∧ t < P.types.size) (hb : Below W.heap.size W W') :
  s.post enc P fn apart fresh handsOn again W args (.bool true) W' := by
 have hW' := hW
 have hlt := hW.lt
 obtain ⟨p, q, hA, hV, rfl, hfz, hnd⟩ := hW
 rw [hvars] at hV
 obtain ⟨rfl, rfl⟩ := trodVars_none hV
 have hs := hspec [] rfl
 have hargs : ∀ sp : Nat → Bool, (∀ x ∈ p, sp x.block = true) → DataW.TrodAll enc P W' 0 sp true fn.params.toList args.toList ds p := fun sp hsp =>
  KK hl hb sp _ _ _ _ hr hA (fun x hx => hlt x (by simp [hx])) hsp
 have hbool : ∀ (b : Nat) (sp : Nat → Bool) (hd : Bool), DataW.TrodAll enc P W' b sp hd fn.resultTypes.toList ((Value.bool true).resultList fn.resultTypes.size) [.lit (.bool true)] [] := by
  intro b sp hd
  rw [hres]
  exact trodAll_cons_mk (shut_bool htb _) trodAll_mk0
 refine ⟨ds, [], p ++ [], [], p, [], hW', ?_, ?_, ?_, hb.frame _, fun _ => ⟨ok_one hres rfl (okWide_bool_mk htb _), [.lit (.bool true)] ++ ds, [], p, ⟨p, [], ?_, ?_, by simp, ?_, ?_⟩, ?_⟩⟩
 ·rw [hs]; exact hbool _ _ _
 ·rw [hs]; exact hargs _ (fun x hx => by simpa using hlt x (by simp [hx]))
 ·rw [hs, hvars]; exact hV
 ·exact trodAll_append (hargs _ (fun _ _ => rfl)) (hbool _ _ _)
 ·rw [hvars]; exact hV
 ·intro b off hp
  rw [hb.frozen (p := ⟨b, off, none⟩) (hlt (.cell b off) (by simp [hp]))]
  exact hfz b off (by simp [hp])
 ·intro ha
  have := hnd ha
  simpa using this
 ·intro x hx _
  simp [hx]
theorem TJ {f : FuncId} {args : Array Value} (h : Fn P f args [Old W] fun v L => v = .bool true ∧ L = [Old W]) :
  Calls P f args W fun e W' => e = .returned (.bool true) ∧ Below W.heap.size W W' := by
 have h0 : St [Old W] W := ⟨fun b => W.heap[b]?, fun _ => none, fun _ => .inr rfl, fun b o h => h, fun b o h => (by cases h), fun b hb => rfl, trivial⟩
 refine (h [] W h0).mono ?_
 rintro e W' ⟨v, L, ⟨rfl, rfl⟩, rfl, hs, hk⟩
 refine ⟨rfl, hk.os, hk.tape, hk.output, hk.size, fun k hk' => ?_⟩
 obtain ⟨h1, a1, hp⟩ := AZ hs
 have e1 := hp k hk'
 have : ∃ o, W.heap[k]? = some o := ⟨_, Array.getElem?_eq_getElem hk'⟩
 obtain ⟨o, ho⟩ := this
 rw [ho] at e1 ⊢
 exact a1 _ _ e1
theorem Wi {a : Addr} {len cap : Nat} {V : Nat → Value} (hc : ∀ i, i < len → W.cell? (a.add i) = some (V i)) (hle : len ≤ cap) : ∀ h : Hp, Old W h → B5 1 h (.slice (some a) len cap) len ((List.range len).map V) := by
 intro h hold
 rcases Nat.eq_zero_or_pos len with rfl | hpos
 ·exact .inl ⟨rfl, rfl, some a, cap, rfl⟩
 ·obtain ⟨b, off, spot⟩ := a
  have h0 := hc 0 hpos
  have e0 : (⟨b, off, spot⟩ : Addr).add 0 = ⟨b, off, spot⟩ := by simp [Addr.add]
  rw [e0] at h0
  simp only [World.cell?] at h0
  rcases hw : W.heap[b]? with _ | o
  ·rw [hw] at h0; cases h0
  ·cases o with
   | cells c T fr =>
    rw [hw] at h0
    dsimp only at h0
    split at h0
    ·cases h0
    ·rename_i hsp
     have hspot : spot = none := by simpa using hsp
     subst hspot
     have hc' : ∀ i, i < len → c[off + i]? = some (V i) := by
      intro i hi
      have := hc i hi
      have e1 : (⟨b, off, none⟩ : Addr).add i = ⟨b, off + i, none⟩ := by
       simp only [Addr.add]; split
       ·rename_i h0; simp [h0]
       ·rfl
      rw [e1] at this
      simp only [World.cell?, hw] at this
      simpa using this
     have hlt : b < W.heap.size := by
      rcases Nat.lt_or_ge b W.heap.size with h' | h'
      ·exact h'
      ·rw [Array.getElem?_eq_none h'] at hw; cases hw
     have hlen : off + len ≤ c.size := by
      have := hc' (len - 1) om
      rcases Nat.lt_or_ge (off + (len - 1)) c.size with h' | h'
      ·omega
      ·rw [Array.getElem?_eq_none h'] at this; cases this
     refine .inr ⟨b, off, cap, c.toList, T, fr, rfl, by rw [hold b hlt, hw], ?_, by simpa using hlen, hle⟩
     apply ext_getElem?
     intro i
     rw [Nat.mul_one, List.getElem?_take, List.getElem?_map, List.getElem?_drop]
     split
     ·rename_i hi
      rw [List.getElem?_range hi]
      simpa using hc' i hi
     ·rename_i hi
      rw [List.getElem?_eq_none (by simpa using hi)]; rfl
   | _ => rw [hw] at h0; cases h0
theorem Xj {t : TypeId} {r : Reach} {b0 : Nat} {v : Value} {d : DataW H} {ps : List MemPlace} (ht : P.underlying t = some (.int .i64)) (hval : Value.okWide P W r b0 t v)
  (h : DataW.Trod enc P W 0 (fun _ => true) true t v d ps) : ∃ n : Int, v = AA n ∧ d = .lit (.int .i64 n) ∧ -9223372036854775808 ≤ n ∧ n ≤ 9223372036854775807 := by
 obtain ⟨n, rfl, rfl, rfl, hwf⟩ := open_int ht hval h
 exact ⟨n, rfl, rfl, bounds_i64 hwf⟩
end
open Go Go.ChangeShapes Go.WideShapes Go.ChangeAt Go.RowKit
section
variable {H : Type} {enc : TypeId × Value → H} {P : Program} {W : World}
end
open Go Go.ChangeShapes Go.WideShapes Go.ChangeAt Go.RowKit
section
variable {H : Type} {enc : TypeId × Value → H} {P : Program} {W : World}
theorem SY {α : Type} {sz : Nat} (f : Nat → List α) : ∀ n, (∀ i, i < n → (f i).length = sz) → ∀ j, j < n * sz → ((List.range n).flatMap f)[j]? = (f (j / sz))[j % sz]? ∧ ((List.range n).flatMap f).length = n * sz := by
 intro n
 induction n with
 | zero => intro _ j hj; omega
 | succ n ih =>
  intro hf j hj
  have hn := hf n om
  have hlen : ((List.range n).flatMap f).length = n * sz := by
   rcases Nat.eq_zero_or_pos (n * sz) with h0 | h0
   ·rcases Nat.eq_zero_or_pos n with h1 | h1
    ·subst h1; simp
    ·have : sz = 0 := by
      rcases Nat.eq_zero_or_pos sz with h2 | h2
      ·exact h2
      ·have := Nat.mul_pos h1 h2; omega
     subst this; omega
   ·exact (ih (fun i hi => hf i om) 0 h0).2
  have e : (List.range (n + 1)).flatMap f = (List.range n).flatMap f ++ f n := by simp [range_succ]
  have hm : (n + 1) * sz = n * sz + sz := by rw [Nat.add_mul, Nat.one_mul]
  rw [e]
  refine ⟨?_, by rw [length_append, hlen, hn, hm]⟩
  rcases Nat.lt_or_ge j (n * sz) with h | h
  ·rw [List.getElem?_append_left om]
   exact (ih (fun i hi => hf i om) j h).1
  ·rw [List.getElem?_append_right om, hlen]
   have hs : 0 < sz := by omega
   have h1 : j / sz = n := by
    have : j < (n + 1) * sz := hj
    have a := Nat.div_lt_of_lt_mul (show j < sz * (n + 1) by rw [Nat.mul_comm]; exact this)
    have b := (Nat.le_div_iff_mul_le hs).2 h
    omega
   have h2 : j % sz = j - n * sz := by
    have := Nat.div_add_mod j sz
    rw [h1, Nat.mul_comm] at this; omega
   rw [h1, h2]
theorem J5 {sz n c c1 : Nat} {a : Option Addr} {ys : List Value} {h : Hp} (hr : B5 1 h (.slice a (n * sz) c1) (n * sz) ys) (hc : n ≤ c) (hs : 0 < sz) : B5 sz h (.slice a n c) n ys := by
 rcases hr with ⟨h1, h2, -⟩ | ⟨b, off, cap, l, T, fr, hv, hb, h1, h2, h3⟩
 ·have : n = 0 := by
   rcases Nat.eq_zero_or_pos n with h0 | h0
   ·exact h0
   ·have := Nat.mul_pos h0 hs; omega
  subst this
  exact .inl ⟨rfl, h2, a, c, rfl⟩
 ·simp only [Value.slice.injEq] at hv
  obtain ⟨rfl, -, -⟩ := hv
  exact .inr ⟨b, off, c, l, T, fr, rfl, hb, by rw [← h1, Nat.mul_one], by rw [Nat.mul_one] at h2; exact h2, hc⟩
abbrev F5 (enc : TypeId × Value → H) (P : Program) (W : World) (fuel : Nat) (t : TypeId) (cs : List Value) (x : DataW H × List MemPlace) : Prop := DataW.trod enc P W 0 (fun _ => true) true fuel t cs = some x
theorem YT {t : TypeId} {fuel : Nat} {cs : List Value} {x : DataW H × List MemPlace} (ht : P.underlying t = some (.int .i64)) (h : F5 enc P W fuel t cs x) : ∃ n : Int, cs = [AA n] ∧ -9223372036854775808 ≤ n ∧ n ≤ 9223372036854775807 := by
 obtain ⟨n, rfl, -, hwf⟩ := DataW.trod_int ht h
 exact ⟨n, rfl, bounds_i64 hwf⟩
end
open Go Go.ChangeShapes Go.WideShapes Go.ChangeAt Go.RowKit
theorem GH {H : Type} (d : DataW H) : 1 ≤ Rows.uptoBulk d := by
 cases d with
 | lit l => cases l <;> simp [Rows.uptoBulk]
 | _ => simp [Rows.uptoBulk]
theorem Ju {H : Type} {d : DataW H} : ∀ {l : List (DataW H)}, d ∈ l → Rows.uptoBulk d ≤ Rows.uptoBulkAll l
 | x :: l, h => by
  unfold Rows.uptoBulkAll
  rcases mem_cons.1 h with rfl | h
  ·omega
  ·have := Ju h; omega
theorem IS {H : Type} : ∀ l : List (DataW H), l.length ≤ Rows.uptoBulkAll l
 | [] => by simp
 | x :: l => by
  have h1 := GH x
  have h2 := IS l
  unfold Rows.uptoBulkAll
  rw [length_cons]; omega
theorem P8 {H : Type} : ∀ l : List (DataW H), (l.map Rows.uptoBulk).sum ≤ Rows.uptoBulkAll l
 | [] => by simp
 | x :: l => by
  have h2 := P8 l
  unfold Rows.uptoBulkAll
  rw [map_cons, sum_cons]; omega
theorem Ih {H : Type} {l : List (DataW H)} (h : Rows.uptoSmall H l = true) {d : DataW H} (hd : d ∈ l) : Rows.uptoBulk d ≤ 1048576 :=
 Nat.le_trans (Ju hd) (of_decide_eq_true h)
instance : Inhabited Value := ⟨.bool false⟩
section
variable {H : Type} {enc : TypeId × Value → H} {P : Program} {W : World} {N : Nat}
theorem Vk {t : TypeId} {fuel : Nat} {cs : List Value} {x : DataW H × List MemPlace} (ht : P.underlying t = some (.int .i64)) (h : F5 enc P W fuel t cs x) : ∃ n : Int, cs = [AA n] ∧ (-9223372036854775808 ≤ n ∧ n ≤ 9223372036854775807) := by
 obtain ⟨n, h1, h2⟩ := YT ht h; exact ⟨n, h1, h2⟩
theorem Zi {Z : Type} [Inhabited Z] (toC : Z → List Value) (Q : Z → Prop) {t e : TypeId} {sz : Nat} {fuel : Nat} {cs : List Value} {x : DataW H × List MemPlace} (ht : P.underlying t = some (.slice e)) (hc : P.cellsOf e = sz) (hs : 0 < sz)
  (hdec : ∀ (n : Nat) (cs : List Value) (y : DataW H × List MemPlace), F5 enc P W n e cs y → Rows.uptoBulk y.1 ≤ N → ∃ z, cs = toC z ∧ Q z) (h : F5 enc P W fuel t cs x) (hb : Rows.uptoBulk x.1 ≤ N + 1) :
  ∃ z : Value × List Z, cs = [z.1] ∧ (∀ h : Hp, Old W h → B5 sz h z.1 z.2.length (z.2.flatMap toC)) ∧ z.2.length ≤ N ∧ ∀ y ∈ z.2, Q y := by
 subst hc
 rcases Go.Deep.open_slice ht h with ⟨rfl, rfl⟩ | ⟨a, len, cap, m, n, Dd, Pl, rfl, -, hl, hm, hmm, rfl, hx⟩
 ·exact ⟨(_, []), rfl, fun h _ => .inl ⟨rfl, rfl, none, 0, rfl⟩, by simp, by simp⟩
 ·simp only [if_true] at hmm
  subst hmm
  have hbl : len ≤ N := by
   have := IS ((List.range len).map Dd)
   simp only [Rows.uptoBulk] at hb
   rw [length_map, length_range] at this
   omega
  have hbe : ∀ i, i < len → Rows.uptoBulk (Dd i) ≤ N := fun i hi => by
   have := Ju (d := Dd i) (l := (List.range len).map Dd) (mem_map_of_mem (by simpa using hi))
   simp only [Rows.uptoBulk] at hb
   omega
  obtain ⟨Zf, hZ⟩ := Go.Deep.choose_lt (α := Z) (p := fun i z => W.cells? 0 (a.add (i * P.cellsOf e)) (P.cellsOf e) = some (toC z) ∧ Q z) (n := len) (fun i hi => by
   obtain ⟨cs', h1, h2⟩ := hx i om
   obtain ⟨z, rfl, h3⟩ := hdec _ _ _ h2 (hbe i hi)
   exact ⟨z, h1, h3⟩)
  have hlenf : ∀ i, i < len → (toC (Zf i)).length = P.cellsOf e := fun i hi => (World.cells?_some (hZ i hi).1).2.1
  have hflat := SY (fun i => toC (Zf i)) len hlenf
  refine ⟨(_, (List.range len).map Zf), rfl, ?_, ?_, ?_⟩
  ·intro h hold
   dsimp only
   rw [length_map, length_range]
   refine J5 (c1 := len * P.cellsOf e) ?_ hl hs
   have e1 : ((List.range len).map Zf).flatMap toC = (List.range (len * P.cellsOf e)).map (fun j => ((List.range len).flatMap fun i => toC (Zf i)).getD j (.bool false)) := by
    rw [flatMap_map]
    apply ext_getElem?
    intro j
    rcases Nat.lt_or_ge j (len * P.cellsOf e) with hj | hj
    ·rw [List.getElem?_map, List.getElem?_range hj]
     have := (hflat j hj).2
     have hjl : j < ((List.range len).flatMap fun i => toC (Zf i)).length := by omega
     simp only [Option.map_some, getD_eq_getElem?_getD, List.getElem?_eq_getElem hjl, Option.getD_some]
    ·have : ((List.range len).flatMap fun i => toC (Zf i)).length = len * P.cellsOf e := by
      rcases Nat.eq_zero_or_pos (len * P.cellsOf e) with h0 | h0
      ·have : len = 0 := by
        rcases Nat.eq_zero_or_pos len with h1 | h1
        ·exact h1
        ·have := Nat.mul_pos h1 hs; omega
       subst this; simp
      ·exact (hflat 0 h0).2
     rw [List.getElem?_eq_none om, List.getElem?_eq_none (by simpa using hj)]
   rw [e1]
   refine Wi (W := W) (fun j hj => ?_) (Nat.le_refl _) h hold
   have hi : j / P.cellsOf e < len := Nat.div_lt_of_lt_mul (by rw [Nat.mul_comm]; exact hj)
   have hcell := (World.cells?_some (hZ (j / P.cellsOf e) hi).1).2.2 (j % P.cellsOf e) (Nat.mod_lt _ hs)
   rw [Addr.add_add, Nat.mul_comm, Nat.div_add_mod] at hcell
   rw [hcell]
   obtain ⟨f1, f2⟩ := hflat j hj
   rw [getD_eq_getElem?_getD, f1]
   have : j % P.cellsOf e < (toC (Zf (j / P.cellsOf e))).length := by rw [hlenf _ hi]; exact Nat.mod_lt _ hs
   simp [this]
  ·dsimp only; rw [length_map, length_range]; exact hbl
  ·intro z hz
   obtain ⟨i, hi, rfl⟩ := mem_map.1 hz
   exact (hZ i (by simpa using hi)).2
theorem QK {Z : Type} [Inhabited Z] (toC : Z → List Value) (Q : Nat → Z → Prop) {t e : TypeId} {sz : Nat} {fuel : Nat} {cs : List Value} {x : DataW H × List MemPlace} (ht : P.underlying t = some (.slice e)) (hc : P.cellsOf e = sz) (hs : 0 < sz)
  (hdec : ∀ (n : Nat) (cs : List Value) (y : DataW H × List MemPlace), F5 enc P W n e cs y → ∃ z, cs = toC z ∧ Q (Rows.uptoBulk y.1) z) (h : F5 enc P W fuel t cs x) (hb : Rows.uptoBulk x.1 ≤ N + 1) :
  ∃ (z : Value × List Z) (ws : List Nat), cs = [z.1] ∧ (∀ h : Hp, Old W h → B5 sz h z.1 z.2.length (z.2.flatMap toC)) ∧ z.2.length ≤ N ∧ ws.length = z.2.length ∧ ws.sum ≤ N ∧ (∀ w ∈ ws, 1 ≤ w) ∧ ∀ i (h1 : i < z.2.length) (h2 : i < ws.length), Q ws[i] z.2[i] := by
 subst hc
 rcases Go.Deep.open_slice ht h with ⟨rfl, rfl⟩ | ⟨a, len, cap, m, n, Dd, Pl, rfl, -, hl, hm, hmm, rfl, hx⟩
 ·exact ⟨(_, []), [], rfl, fun h _ => .inl ⟨rfl, rfl, none, 0, rfl⟩, by simp, rfl, by simp, (fun _ h => by cases h), (fun i h1 _ => by simp at h1)⟩
 ·simp only [if_true] at hmm
  subst hmm
  have hbl : len ≤ N := by
   have := IS ((List.range len).map Dd)
   simp only [Rows.uptoBulk] at hb
   rw [length_map, length_range] at this
   omega
  have hall : ((List.range len).map fun i => Rows.uptoBulk (Dd i)).sum ≤ N := by
   have := P8 ((List.range len).map Dd)
   rw [map_map] at this
   simp only [Rows.uptoBulk] at hb
   have e : ((List.range len).map fun i => Rows.uptoBulk (Dd i)) = (List.range len).map (Rows.uptoBulk ∘ Dd) := rfl
   rw [e]; omega
  obtain ⟨Zf, hZ⟩ := Go.Deep.choose_lt (α := Z) (p := fun i z => W.cells? 0 (a.add (i * P.cellsOf e)) (P.cellsOf e) = some (toC z) ∧ Q (Rows.uptoBulk (Dd i)) z) (n := len) (fun i hi => by
   obtain ⟨cs', h1, h2⟩ := hx i om
   obtain ⟨z, rfl, h3⟩ := hdec _ _ _ h2
   exact ⟨z, h1, h3⟩)
  have hlenf : ∀ i, i < len → (toC (Zf i)).length = P.cellsOf e := fun i hi => (World.cells?_some (hZ i hi).1).2.1
  have hflat := SY (fun i => toC (Zf i)) len hlenf
  refine ⟨(_, (List.range len).map Zf), (List.range len).map fun i => Rows.uptoBulk (Dd i), rfl, ?_, ?_, by simp, hall, ?_, ?_⟩
  ·intro h hold
   dsimp only
   rw [length_map, length_range]
   refine J5 (c1 := len * P.cellsOf e) ?_ hl hs
   have e1 : ((List.range len).map Zf).flatMap toC = (List.range (len * P.cellsOf e)).map (fun j => ((List.range len).flatMap fun i => toC (Zf i)).getD j (.bool false)) := by
    rw [flatMap_map]
    apply ext_getElem?
    intro j
    rcases Nat.lt_or_ge j (len * P.cellsOf e) with hj | hj
    ·rw [List.getElem?_map, List.getElem?_range hj]
     have := (hflat j hj).2
     have hjl : j < ((List.range len).flatMap fun i => toC (Zf i)).length := by omega
     simp only [Option.map_some, getD_eq_getElem?_getD, List.getElem?_eq_getElem hjl, Option.getD_some]
    ·have : ((List.range len).flatMap fun i => toC (Zf i)).length = len * P.cellsOf e := by
      rcases Nat.eq_zero_or_pos (len * P.cellsOf e) with h0 | h0
      ·have : len = 0 := by
        rcases Nat.eq_zero_or_pos len with h1 | h1
        ·exact h1
        ·have := Nat.mul_pos h1 hs; omega
       subst this; simp
      ·exact (hflat 0 h0).2
     rw [List.getElem?_eq_none om, List.getElem?_eq_none (by simpa using hj)]
   rw [e1]
   refine Wi (W := W) (fun j hj => ?_) (Nat.le_refl _) h hold
   have hi : j / P.cellsOf e < len := Nat.div_lt_of_lt_mul (by rw [Nat.mul_comm]; exact hj)
   have hcell := (World.cells?_some (hZ (j / P.cellsOf e) hi).1).2.2 (j % P.cellsOf e) (Nat.mod_lt _ hs)
   rw [Addr.add_add, Nat.mul_comm, Nat.div_add_mod] at hcell
   rw [hcell]
   obtain ⟨f1, f2⟩ := hflat j hj
   rw [getD_eq_getElem?_getD, f1]
   have : j % P.cellsOf e < (toC (Zf (j / P.cellsOf e))).length := by rw [hlenf _ hi]; exact Nat.mod_lt _ hs
   simp [this]
  ·dsimp only; rw [length_map, length_range]; exact hbl
  ·intro w hw
   obtain ⟨i, -, rfl⟩ := mem_map.1 hw
   exact GH _
  ·intro i h1 h2
   simp only [getElem_map, getElem_range]
   exact (hZ i (by simpa using h1)).2
/-! ### With weights: what is read weighs no more than its bulk -/
theorem LJ {t : TypeId} {fuel : Nat} {cs : List Value} {x : DataW H × List MemPlace} (ht : P.underlying t = some (.int .i64)) (h : F5 enc P W fuel t cs x) : ∃ n : Int, cs = [AA n] ∧ (-9223372036854775808 ≤ n ∧ n ≤ 9223372036854775807) ∧ 1 ≤ Rows.uptoBulk x.1 := by
 obtain ⟨n, h1, h2⟩ := Vk ht h; exact ⟨n, h1, h2, GH _⟩
theorem VA {Z : Type} {m : Z → Nat} : ∀ {l : List Z} {ws : List Nat}, ws.length = l.length → (∀ i (h1 : i < l.length) (h2 : i < ws.length), m l[i] ≤ ws[i]) → (l.map m).sum ≤ ws.sum
 | [], _, _, _ => by simp
 | z :: l, [], h, _ => by simp at h
 | z :: l, w :: ws, h, hq => by
  have h0 := hq 0 (by simp) (by simp)
  have h1 := VA (l := l) (ws := ws) (m := m) (by simpa using h) (fun i h1 h2 => hq (i + 1) (by simpa using h1) (by simpa using h2))
  rw [map_cons, sum_cons, sum_cons]
  have h0' : m z ≤ w := h0
  omega
theorem Kx {Z : Type} [Inhabited Z] (toC : Z → List Value) (Q : Z → Prop) (m : Z → Nat) {t e : TypeId} {sz : Nat} {fuel : Nat} {cs : List Value} {x : DataW H × List MemPlace} (ht : P.underlying t = some (.slice e)) (hc : P.cellsOf e = sz) (hs : 0 < sz)
  (hdec : ∀ (n : Nat) (cs : List Value) (y : DataW H × List MemPlace), F5 enc P W n e cs y → ∃ z, cs = toC z ∧ Q z ∧ m z ≤ Rows.uptoBulk y.1) (h : F5 enc P W fuel t cs x) :
  ∃ z : Value × List Z, cs = [z.1] ∧ (∀ h : Hp, Old W h → B5 sz h z.1 z.2.length (z.2.flatMap toC)) ∧ (∀ y ∈ z.2, Q y) ∧ z.2.length + 1 ≤ Rows.uptoBulk x.1 ∧ 1 + (z.2.map m).sum ≤ Rows.uptoBulk x.1 := by
 have hp := GH x.1
 obtain ⟨z, ws, h1, h2, h3, h4, h5, -, h7⟩ := QK (N := Rows.uptoBulk x.1 - 1) toC (fun B z => Q z ∧ m z ≤ B) ht hc hs hdec h om
 refine ⟨z, h1, h2, fun y hy => ?_, by omega, ?_⟩
 ·obtain ⟨i, hi, rfl⟩ := mem_iff_getElem.1 hy
  exact (h7 i hi om).1
 ·have := VA (m := m) h4 (fun i g1 g2 => (h7 i g1 g2).2)
  omega
end
open Go Go.ChangeShapes Go.WideShapes Go.ChangeAt Go.RowKit
def Z8 (p : HP) (v : Value) (l : List Int) : Prop := (∀ h : Hp, p h → B5 1 h v l.length (Aq l)) ∧ (∀ z ∈ l, I64 z) ∧ l.length ≤ 1048576
theorem Yb (l : List Int) : (l.flatMap fun z => [AA z]) = Aq l := by
 induction l with
 | nil => rfl
 | cons z l ih => rw [flatMap_cons, ih]; rfl
theorem UN {H : Type} {enc : TypeId × Value → H} {W : World} {fuel : Nat} {cs : List Value} {x : DataW H × List MemPlace} (h : F5 enc prog W fuel 22 cs x) (hb : Rows.uptoBulk x.1 ≤ 1048576) : ∃ (v : Value) (l : List Int), cs = [v] ∧ Z8 (Old W) v l := by
 obtain ⟨⟨v, l⟩, h1, h2, h3, h4, h5⟩ := Kx (fun z => [AA z]) (fun z => I64 z) (fun _ => 1) underlying22 (show prog.cellsOf 3 = 1 by kernel_rfl) dQ (fun n cs y h => LJ underlying3 h) h
 dsimp only at h1 h2 h3 h4 h5
 exact ⟨v, l, h1, fun h hp => by rw [← Yb]; exact h2 h hp, h3, by omega⟩
theorem AAi {H : Type} {enc : TypeId × Value → H} {W : World} (n : Nat) (cs : List Value) (y : DataW H × List MemPlace) (h : F5 enc prog W n 56 cs y) : ∃ o : Int × Int, cs = Xk o ∧ (I64 o.1 ∧ I64 o.2) ∧ 1 ≤ Rows.uptoBulk y.1 := by
 obtain ⟨xs, m, -, rfl, hlen, hxs, hf⟩ := DataW.trod_struct underlying56 h
 rw [show prog.cellsOf 56 = 2 by kernel_rfl] at hlen
 obtain ⟨a0, a1, rfl⟩ : ∃ a0 a1, cs = [a0, a1] := by
  match cs, hlen with
  | [a0, a1], _ => exact ⟨a0, a1, rfl⟩
 obtain ⟨y0, y1, rfl⟩ : ∃ y0 y1, xs = [y0, y1] := by
  match xs, hxs with
  | [y0, y1], _ => exact ⟨y0, y1, rfl⟩
 try simp only [Rows.uptoBulk, Rows.uptoBulkAll, map_cons, map_nil]
 have g0 : F5 enc prog W m 3 (([a0, a1] : List Value).drop 0 |>.take (prog.cellsOf 3)) y0 := hf 0 _ rfl
 rw [show prog.cellsOf 3 = 1 by kernel_rfl] at g0
 have p0 := GH y0.1
 obtain ⟨z0, e0, q0, r0⟩ := LJ underlying3 g0
 try simp at e0
 have g1 : F5 enc prog W m 3 (([a0, a1] : List Value).drop 1 |>.take (prog.cellsOf 3)) y1 := hf 1 _ rfl
 rw [show prog.cellsOf 3 = 1 by kernel_rfl] at g1
 have p1 := GH y1.1
 obtain ⟨z1, e1, q1, r1⟩ := LJ underlying3 g1
 try simp at e1
 subst e0
 subst e1
 exact ⟨(z0, z1), rfl, ⟨q0, q1⟩, by omega⟩
theorem TP {H : Type} {enc : TypeId × Value → H} {W : World} {fuel : Nat} {cs : List Value} {x : DataW H × List MemPlace} (h : F5 enc prog W fuel 23 cs x) (hb : Rows.uptoBulk x.1 ≤ 1048576) : ∃ (v : Value) (l : List (Int × Int)), cs = [v] ∧ (∀ h : Hp, Old W h → B5 2 h v l.length (l.flatMap Xk)) ∧ l.length ≤ 1000000000 ∧ ∀ x ∈ l, I64 x.1 ∧ I64 x.2 := by
 obtain ⟨⟨v, l⟩, h1, h2, h3, h4, h5⟩ := Kx Xk (fun z => I64 z.1 ∧ I64 z.2) (fun _ => 1) underlying23 (show prog.cellsOf 56 = 2 by kernel_rfl) dQ (fun n cs y h => AAi n cs y h) h
 dsimp only at h1 h2 h3 h4 h5
 exact ⟨v, l, h1, h2, by omega, h3⟩
end Go.Proofs.YtjhlofbhpjakgaaGreat
