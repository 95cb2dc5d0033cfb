/- Own work: the first example of law 04, reckoned. -/
import Derived.Test.YtepncdidkjjllaaL4c
namespace Go.Proofs.Ytepncdidkjjllaa
open Go

def aw1 : Dk := (formatZ (Dk.new 18)).1
def ab : Bs := [97, 98]
def aw2 : Dk × Wl × Int := appendZ aw1 newW ab
def aw3 : Dk × Wl × Int := syncZ aw2.1 aw2.2.1
theorem aw_f : (formatZ (Dk.new 18)).2.isSome = true := by kernel_rfl
theorem aw_a : aw2.2.2 = 0 := by kernel_rfl
theorem aw_room : roomZ aw2.1 aw2.2.1 = 498 := by kernel_rfl
theorem aw_s : aw3.2.2 = 0 := by kernel_rfl
theorem aw_dead : aw3.1.dead = false := by kernel_rfl
theorem aw_read : (aw3.1.read 0).2 = 0 ∧ (aw3.1.read 0).1.length = 64 ∧ (aw3.1.read 0).1.take 6 = [87, 77, 0, 0, 0, 2] := ⟨by kernel_rfl, by kernel_rfl, by kernel_rfl⟩
theorem aw_acts : aw3.1.acts = 7 := by kernel_rfl
theorem aw_open : (openZ aw3.1).map (fun ω => (ω.recs, ω.doubt)) = some ([ab], false) := by kernel_rfl
theorem aw1_I : WlI aw1 newW := by
  have e1 : aw1.now.length = 18 := by kernel_rfl
  have e2 : aw1.acts = 3 := by kernel_rfl
  have e3 : halfZ aw1 = 8 := by kernel_rfl
  refine ⟨by omega, by omega, ⟨by decide, by decide⟩, ⟨by decide, by decide⟩, ⟨by decide, by decide⟩, ?_⟩
  rw [e3]; decide
theorem aw2_I : WlI aw2.1 aw2.2.1 := by
  have e1 : aw2.1.now.length = 18 := by kernel_rfl
  have e2 : aw2.1.acts = 4 := by kernel_rfl
  have e3 : halfZ aw2.1 = 8 := by kernel_rfl
  have e4 : aw2.2.1.area = 0 := by kernel_rfl
  have e5 : aw2.2.1.count = 1 := by kernel_rfl
  have e6 : aw2.2.1.synced = 0 := by kernel_rfl
  have e7 : aw2.2.1.recs.length = 1 := by kernel_rfl
  have e8 : (laidZ aw2.2.1.recs).length = 8 := by kernel_rfl
  refine ⟨by omega, by omega, by omega, by omega, by omega, ?_⟩
  rw [e3, e8]; decide
theorem aw3_len : aw3.1.now.length = 18 := by kernel_rfl
section
variable {W : World} {n : Nat} {ds : List Deferred} {E : Env} {L R : List HP} {X : Act → World → Prop}
theorem G.dkOk {d : Nat} {δ : Dk} (hL : Pick (dkR d δ) L R) (h : δ.Ok → G W n ds E L X) : G W n ds E L X := by
  intro ac w he hk hs
  obtain ⟨g1, -, hp⟩ := sep_head (hs.pick hL)
  obtain ⟨x, hok, -⟩ := hp
  exact h hok ac w he hk hs
end
end Go.Proofs.Ytepncdidkjjllaa
