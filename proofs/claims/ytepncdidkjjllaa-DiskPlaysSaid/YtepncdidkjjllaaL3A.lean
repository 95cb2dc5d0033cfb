/- Own work: DiskArmed in plain words. -/
import Derived.Test.YtepncdidkjjllaaLaw03
namespace Go.Proofs.Ytepncdidkjjllaa
open Go

section
variable {P : Program} {E : Env} {L : List HP}
theorem Quiet.as {o : Oper} {v v' : Value} (h : v = v') (q : Quiet P o E L v) : Quiet P o E L v' := h ▸ q
end
structure ArmI (N : Nat) (δ : Dk) (i : Nat) (b : Bool) : Prop where
  acts : δ.acts = (i : Int) - 1
  len : δ.now.length = 16
  run : i ≤ N → δ.left = (N : Int) + 1 - i ∧ δ.dead = false
  gone : N < i → δ.dead = true
  pend : decide (0 < δ.old.length) = b
def armE (N i : Nat) : Int := if i = N then 2 else 0
theorem ArmI.actE {N i : Nat} (h2 : i ≤ N) : actE ((N : Int) + 1 - i) = armE N i := by
  unfold Go.Proofs.Ytepncdidkjjllaa.actE armE
  split
  · omega
  · split
    · split
      · omega
      · rfl
    · split
      · rfl
      · omega
def armed (N : Nat) : Dk := { Dk.new 16 with left := N }
theorem arm_new {N : Nat} : (Dk.new 16).arm N = (armed N, 0) := by
  simp only [Dk.arm, Dk.new, armed, Bool.false_eq_true, if_false]
  rw [if_neg (by omega)]
theorem ArmI.start {N : Nat} (h : 1 ≤ N) : ArmI N (armed N) 1 false := by
  refine ⟨by simp [armed, Dk.new], by simp [armed, Dk.new], fun _ => ⟨by simp [armed], rfl⟩, fun h' => by omega, rfl⟩
theorem ArmI.acted {N : Nat} {δ : Dk} {i : Nat} {b : Bool} (h : ArmI N δ i b) (h1 : 1 ≤ i) (h2 : i ≤ N) (o : List (Int × List UInt8)) (s : List (List UInt8)) (hs : s.length = 16) {c : Bool} (ho : decide (0 < o.length) = c) :
    ArmI N { δ with now := s, old := o, acts := δ.acts + 1, left := actL δ.left, dead := actD δ.left δ.dead } (i + 1) c := by
  obtain ⟨r1, r2⟩ := h.run h2
  have ha := h.acts
  refine ⟨by simp only [ha]; omega, hs, fun h3 => ?_, fun h3 => ?_, ho⟩
  · simp only [r1, r2, actL, actD]
    rw [if_neg (by omega), if_neg (by omega), if_pos (by omega)]
    exact ⟨by omega, rfl⟩
  · simp only [r1, r2, actD]
    rw [if_neg (by omega), if_neg (by omega)]
theorem ArmI.sync {N : Nat} {δ : Dk} {i : Nat} {b : Bool} (h : ArmI N δ i b) (h1 : 1 ≤ i) (h2 : i ≤ N) : δ.sync.2 = armE N i ∧ ArmI N δ.sync.1 (i + 1) (b && decide (i = N)) := by
  obtain ⟨r1, r2⟩ := h.run h2
  have he : δ.act.2 = armE N i := by simp only [Dk.act, r1]; exact ArmI.actE h2
  unfold Dk.sync
  rw [r2, he]
  simp only [Bool.false_eq_true, if_false]
  by_cases hi : i = N
  · subst hi
    have e : armE i i = 2 := if_pos rfl
    rw [e]
    refine ⟨rfl, ?_⟩
    exact h.acted h1 h2 δ.old δ.now h.len (by rw [h.pend]; simp)
  · have e : armE N i = 0 := if_neg hi
    rw [e]
    refine ⟨rfl, ?_⟩
    exact h.acted h1 h2 [] δ.now h.len (by simp [hi])
theorem ArmI.write {N : Nat} {δ : Dk} {i : Nat} {b : Bool} (h : ArmI N δ i b) (h1 : 1 ≤ i) (h2 : i ≤ N) : (δ.write ((i : Int) % 16) (fill i)).2 = armE N i ∧ ArmI N (δ.write ((i : Int) % 16) (fill i)).1 (i + 1) true := by
  obtain ⟨r1, r2⟩ := h.run h2
  have hh : δ.has ((i : Int) % 16) = true := by simp [Dk.has, h.len]; omega
  have e : δ.write ((i : Int) % 16) (fill i) = (δ.put ((i : Int) % 16) (fill i)).act := by
    unfold Dk.write
    rw [r2, hh, fill_len]; simp
  rw [e]
  refine ⟨by simp only [Dk.act, Dk.put, r1]; exact ArmI.actE h2, ?_⟩
  refine h.acted h1 h2 _ _ (by simp [Dk.put, h.len]) ?_
  refine decide_eq_true ?_
  simp only [Dk.put]
  split
  · rename_i hs
    obtain ⟨b, hb⟩ := Option.isSome_iff_exists.1 hs
    exact List.length_pos_of_mem (alook_mem hb)
  · rename_i hs
    rw [aset_none (by simpa using hs)]; simp
theorem dec_cast (i N : Nat) : decide ((i : Int) = N) = decide (i = N) := decide_eq_decide.2 (by omega)
theorem armE_two (N i : Nat) : decide (armE N i = 2) = decide ((i : Int) = N) := by
  unfold armE
  by_cases hq : i = N
  · subst hq; simp
  · have : ¬ (i : Int) = N := by omega
    rw [if_neg hq, decide_eq_false this]; rfl
theorem ArmI.deadv {N : Nat} {δ : Dk} {i : Nat} {b : Bool} (h : ArmI N δ (i + 1) b) (hi : i ≤ N) : δ.dead = decide ((i : Int) = N) := by
  by_cases hq : i = N
  · rw [h.gone (by omega)]; simp [hq]
  · have : ¬ (i : Int) = N := by omega
    rw [(h.run (by omega)).2, decide_eq_false this]
theorem dead_write {δ : Dk} (h : δ.dead = true) (n : Int) (s : List UInt8) : δ.write n s = (δ, 2) := by simp [Dk.write, h]
theorem dead_sync {δ : Dk} (h : δ.dead = true) : δ.sync = (δ, 2) := by simp [Dk.sync, h]
theorem dead_read {δ : Dk} (h : δ.dead = true) (n : Int) : δ.read n = ([], 2) := by simp [Dk.read, h]
theorem dead_arm {δ : Dk} (h : δ.dead = true) (n : Int) : δ.arm n = (δ, 2) := by simp [Dk.arm, h]
theorem crash_write {δ : Dk} (hl : δ.now.length = 16) {s : List UInt8} (hs : s.length = 64) : ((δ.crash []).write 0 s).2 = 0 ∧ ((δ.crash []).write 0 s).1.acts = δ.acts + 1 := by
  have h1 : (δ.crash []).has 0 = true := by simp [Dk.has, Dk.crash, (δ.crashTo_same [] δ.pend.length).2.2.2.2, hl]
  have h2 : (δ.crash []).dead = false := rfl
  have h3 : (δ.crash []).left = 0 := rfl
  have h4 : (δ.crash []).acts = δ.acts := (δ.crashTo_same [] δ.pend.length).2.1
  unfold Dk.write
  rw [h2, h1, hs]
  simp [Dk.act, Dk.put, h3, h4, actE]
theorem pickZ_range (c : Int) {n : Int} (hn : 0 < n) : 0 ≤ pickZ c n ∧ pickZ c n < n := ⟨Int.emod_nonneg _ (by omega), Int.emod_lt_of_pos _ hn⟩
end Go.Proofs.Ytepncdidkjjllaa
