/- Own work: rules for loops and joins that keep by themselves what is not touched. -/
import Derived.Test.YtnnbelmpbmfdnaaDoorSlRules
namespace Go.Proofs.YtnnbelmpbmfdnaaDoor
open Go

/-- Slots kept, of an environment. -/
inductive KeepE : List Nat → Env → Env → Prop
  | nil {E : Env} : KeepE [] E []
  | cons {t : Nat} {ts : List Nat} {E E' : Env} {v : Value} (h : look E t = some v) (k : KeepE ts E E') : KeepE (t :: ts) E ((t, v) :: E')
/-- R has all of F, in any order. -/
inductive Have : List HP → List HP → Prop
  | base {F R : List HP} : Suff F R → Have F R
  | cons {p : HP} {F R R' : List HP} : Pick p R R' → Have F R' → Have (p :: F) R
theorem Have.st {F R : List HP} (h : Have F R) : ∀ {L : List HP} {hp : Hp}, sep (L ++ R) hp → sep (L ++ F) hp := by
  induction h with
  | base h => exact fun hs => h.st hs
  | @cons p F R R' hp _ ih =>
    intro L h hs
    have h1 : (L ++ R).Perm (p :: (L ++ R')) := (List.Perm.append_left L hp.perm).trans List.perm_middle
    have h2 := sep_cons_congr (L' := L ++ F) (fun h hs => ih hs) (sep_perm h1 hs)
    exact sep_perm List.perm_middle.symm h2
section
variable {P : Program} {W : World} {n : Nat} {ds : List Deferred} {E : Env} {L : List HP} {Q : Exit → Act → World → Prop} {next : Act → World → Prop}
theorem G.loopK {ι : Type} (Ei : ι → Env → Env) (Li : ι → List HP) (φ : ι → Prop) (μ : ι → Nat) (i0 : ι) {ts : List Nat} {K : Env} {c : Code} {R : List HP} (_ : KeepE ts E K) (h0 : φ i0) (hE : SubE (Ei i0 K) E) (hL : Picks (Li i0) L R)
    (round : ∀ i, φ i → G W n ds (Ei i K) (Li i ++ R) (c.wp P (Exit.then (RoundQ n ds W (fun i => Ei i K) Li φ μ R i) Q))) :
    G W n ds E L ((Code.loop c).wp P Q) :=
  G.loop (fun i => Ei i K) Li φ μ i0 h0 hE hL .here round
theorem G.roundK {ι : Type} {Ei : ι → Env} {Li : ι → List HP} {φ : ι → Prop} {μ : ι → Nat} {i : ι} {F R : List HP} (j : ι) (hj : φ j) (hm : μ j < μ i) (hE : SubE (Ei j) E) (hL : Picks (Li j) L R) (hF : Have F R) :
    G W n ds E L (RoundQ n ds W Ei Li φ μ F i) :=
  fun a w he hk hs => ⟨j, hj, hm, he.sub hE, hk, hF.st (hs.picks hL)⟩
theorem G.joinK {ι : Sort _} (Ei : ι → Env → Env) (Li : ι → List HP) (φ : ι → Prop) {pre : List HP} {ts : List Nat} {K : Env} {R : List HP} {x : Code} (_ : KeepE ts E K) (_ : Picks pre L R)
    (h1 : G W n ds E L (x.wp P (Exit.then (MeetQ n ds W (fun i => Ei i K) Li φ R) Q))) (h2 : ∀ i, φ i → G W n ds (Ei i K) (Li i ++ R) next) : G W n ds E L (x.wp P (Exit.then next Q)) :=
  G.join (fun i => Ei i K) Li φ h1 h2
theorem G.meetK {ι : Sort _} {Ei : ι → Env} {Li : ι → List HP} {φ : ι → Prop} {F R : List HP} (i : ι) (hi : φ i) (hE : SubE (Ei i) E) (hL : Picks (Li i) L R) (hF : Have F R) :
    G W n ds E L (MeetQ n ds W Ei Li φ F) :=
  fun a w he hk hs => ⟨i, hi, he.sub hE, hk, hF.st (hs.picks hL)⟩
end
end Go.Proofs.YtnnbelmpbmfdnaaDoor
