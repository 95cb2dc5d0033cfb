/- Own work, in part by program, for topShipped.proved. -/
import Derived.WalkKit
import Derived.Deep.LoopGhost
import Derived.KernelRfl
import Derived.Orders
import Derived.Laws.Append
import Derived.Test.YtbhkloaagkkioaaGreatDoorRows
set_option maxRecDepth 100000
namespace Go.Proofs.YtbhkloaagkkioaaGreatDoor
open Go List Go.Proofs.Tryz
abbrev Hp:=Nat→Option Obj
abbrev HP:=Hp→Prop
def CP:List HP→HP
  |[]=>fun _=>True
  |p::L=>fun h=> ∃h1 h2:Hp,(∀b,h1 b=none∨h2 b=none)∧(∀b o,h1 b=some o→h b=some o)∧
      (∀b o,h2 b=some o→h b=some o)∧p h1∧CP L h2
theorem Fu {L:List HP} {h h':Hp} (hs:CP L h) (hle:∀b o,h b=some o→h' b=some o):CP L h':=by
 cases L with
 |nil=>trivial
 |cons p L=>
  obtain ⟨h1,h2,hd,a1,a2,hp,hL⟩:=hs
  exact ⟨h1,h2,hd,fun b o e=>hle _ _ (a1 b o e),fun b o e=>hle _ _ (a2 b o e),hp,hL⟩
theorem FH {p:HP} {L:List HP} {h:Hp} (hs:CP (p::L) h):CP L h:=by
 obtain ⟨h1,h2,hd,a1,a2,hp,hL⟩:=hs
 exact Fu hL a2
def EV (h1 h2:Hp):Hp:=fun b=>match h1 b with|some o=>some o|none=>h2 b
theorem HD {h1 h2:Hp} {b:Nat} {o:Obj} (h:EV h1 h2 b=some o):h1 b=some o∨h2 b=some o:=by
 unfold EV at h
 cases e:h1 b with
 |some x=>rw [e] at h;exact .inl h
 |none=>rw [e] at h;exact .inr h
theorem G8 {h1 h2:Hp} {b:Nat} {o:Obj} (h:h1 b=some o):EV h1 h2 b=some o:=by simp [EV,h]
theorem IW {h1 h2:Hp} (hd:∀b,h1 b=none∨h2 b=none) {b:Nat} {o:Obj} (h:h2 b=some o):EV h1 h2 b=some o:=by
 rcases hd b with e|e
 ·simp [EV,e,h]
 ·rw [e] at h;cases h
theorem Gp {h h':Hp} (hle:∀b o,h b=some o→h' b=some o) {b:Nat} (hb:h' b=none):h b=none:=by
 cases e:h b with
 |none=>rfl
 |some o=>rw [hle _ _ e] at hb;cases hb
theorem EJ {p q:HP} {L:List HP} {h:Hp} (hs:CP (p::q::L) h):CP (q::p::L) h:=by
 obtain ⟨h1,h2,hd,a1,a2,hp,g1,g2,gd,b1,b2,hq,hL⟩:=hs
 refine ⟨g1,EV h1 g2,fun b=>?_,fun b o e=>a2 _ _ (b1 _ _ e),fun b o e=>?_,hq,h1,g2,fun b=>?_,fun b o e=>G8 e,fun b o e=>?_,hp,hL⟩
 ·cases e:g1 b with
  |none=>exact .inl rfl
  |some o=>
   refine .inr ?_
   have h2b:=b1 _ _ e
   have e1:h1 b=none:=(hd b).resolve_right (by rw [h2b];simp)
   have e2:g2 b=none:=(gd b).resolve_left (by rw [e];simp)
   simp [EV,e1,e2]
 ·rcases HD e with e|e
  ·exact a1 _ _ e
  ·exact a2 _ _ (b2 _ _ e)
 ·rcases hd b with e|e
  ·exact .inl e
  ·exact .inr (Gp b2 e)
 ·refine IW (fun b=>?_) e
  rcases hd b with e|e
  ·exact .inl e
  ·exact .inr (Gp b2 e)
theorem Gz {p:HP} {L L':List HP} (hi:∀h,CP L h→CP L' h) {h:Hp} (hs:CP (p::L) h):CP (p::L') h:=by
 obtain ⟨h1,h2,hd,a1,a2,hp,hL⟩:=hs
 exact ⟨h1,h2,hd,a1,a2,hp,hi _ hL⟩
theorem B0 {p q:HP} {L:List HP} (hi:∀h,p h→q h) {h:Hp} (hs:CP (p::L) h):CP (q::L) h:=by
 obtain ⟨h1,h2,hd,a1,a2,hp,hL⟩:=hs
 exact ⟨h1,h2,hd,a1,a2,hi _ hp,hL⟩
theorem DG {L L':List HP} (hp:L.Perm L'):∀{h:Hp},CP L h→CP L' h:=by
 induction hp with
 |nil=>exact id
 |cons p _ ih=>exact fun hs=>Gz (fun _=>ih) hs
 |swap p q l=>exact fun hs=>EJ hs
 |trans _ _ ih1 ih2=>exact fun hs=>ih2 (ih1 hs)
theorem OC {L1 L2:List HP}:∀{h:Hp},CP (L1++L2) h→
  ∃h1 h2:Hp,(∀b,h1 b=none∨h2 b=none)∧(∀b o,h1 b=some o→h b=some o)∧(∀b o,h2 b=some o→h b=some o)∧CP L1 h1∧CP L2 h2:=by
 induction L1 with
 |nil=>exact fun {h} hs=>⟨fun _=>none,h,fun _=> .inl rfl,fun _ _ e=>(by cases e),fun _ _ e=>e,trivial,hs⟩
 |cons p L ih=>
  intro h hs
  obtain ⟨h1,h2,hd,a1,a2,hp,hL⟩:=hs
  obtain ⟨g1,g2,gd,b1,b2,s1,s2⟩:=ih hL
  refine ⟨EV h1 g1,g2,fun b=>?_,fun b o e=>?_,fun b o e=>a2 _ _ (b2 _ _ e),⟨h1,g1,fun b=>?_,fun b o e=>G8 e,fun b o e=>?_,hp,s1⟩,s2⟩
  ·cases e:g2 b with
   |none=>exact .inr rfl
   |some o=>
    refine .inl ?_
    have h2b:=b2 _ _ e
    have e1:h1 b=none:=(hd b).resolve_right (by rw [h2b];simp)
    have e2:g1 b=none:=(gd b).resolve_right (by rw [e];simp)
    simp [EV,e1,e2]
  ·rcases HD e with e|e
   ·exact a1 _ _ e
   ·exact a2 _ _ (b1 _ _ e)
  ·rcases hd b with e|e
   ·exact .inl e
   ·exact .inr (Gp b1 e)
  ·refine IW (fun b=>?_) e
   rcases hd b with e|e
   ·exact .inl e
   ·exact .inr (Gp b1 e)
theorem ON {L1 L2:List HP}:∀{h h1 h2:Hp},(∀b,h1 b=none∨h2 b=none)→(∀b o,h1 b=some o→h b=some o)→
  (∀b o,h2 b=some o→h b=some o)→CP L1 h1→CP L2 h2→CP (L1++L2) h:=by
 induction L1 with
 |nil=>exact fun hd a1 a2 _ s2=>Fu s2 a2
 |cons p L ih=>
  intro h h1 h2 hd a1 a2 s1 s2
  obtain ⟨g1,g2,gd,b1,b2,hp,hL⟩:=s1
  refine ⟨g1,EV g2 h2,fun b=>?_,fun b o e=>a1 _ _ (b1 _ _ e),fun b o e=>?_,hp,?_⟩
  ·cases e:g1 b with
   |none=>exact .inl rfl
   |some o=>
    refine .inr ?_
    have e1:h2 b=none:=(hd b).resolve_left (by rw [b1 _ _ e];simp)
    have e2:g2 b=none:=(gd b).resolve_left (by rw [e];simp)
    simp [EV,e1,e2]
  ·rcases HD e with e|e
   ·exact a1 _ _ (b2 _ _ e)
   ·exact a2 _ _ e
  ·have hd':∀b,g2 b=none∨h2 b=none:=fun b=>by
    rcases hd b with e|e
    ·exact .inl (Gp b2 e)
    ·exact .inr e
   exact ih hd' (fun b o e=>G8 e) (fun b o e=>IW hd' e) hL s2
theorem Eu {L1 L:List HP} {h:Hp} (hs:CP (CP L1::L) h):CP (L1++L) h:=by
 obtain ⟨h1,h2,hd,a1,a2,hp,hL⟩:=hs
 exact ON hd a1 a2 hp hL
theorem Gq {L1 L:List HP} {h:Hp} (hs:CP (L1++L) h):CP (CP L1::L) h:=by
 obtain ⟨h1,h2,hd,a1,a2,s1,s2⟩:=OC hs
 exact ⟨h1,h2,hd,a1,a2,s1,s2⟩
def pt (b:Nat) (o:Obj):HP:=fun h=>h b=some o
theorem MJ {α:Sort _} {p:α→HP} {L:List HP} {h:Hp} (hs:CP ((fun h=> ∃x,p x h)::L) h):∃x,CP (p x::L) h:=by
 obtain ⟨h1,h2,hd,a1,a2,⟨x,hp⟩,hL⟩:=hs
 exact ⟨x,h1,h2,hd,a1,a2,hp,hL⟩
theorem Ae {p:HP} {L:List HP} {h:Hp} (hs:CP (p::L) h):∃h1,(∀b o,h1 b=some o→h b=some o)∧p h1:=by
 obtain ⟨h1,h2,hd,a1,a2,hp,hL⟩:=hs
 exact ⟨h1,a1,hp⟩
theorem Gx {b:Nat} {o:Obj} {L:List HP} {h:Hp} (hs:CP (pt b o::L) h):h b=some o:=by
 obtain ⟨h1,a1,hp⟩:=Ae hs
 exact a1 _ _ hp
theorem AG0 {b:Nat} {o o':Obj} {L:List HP} {h h':Hp} (hs:CP (pt b o::L) h) (hb:h' b=some o') (hne:∀c,c≠b→h' c=h c):
  CP (pt b o'::L) h':=by
 obtain ⟨h1,h2,hd,a1,a2,hp,hL⟩:=hs
 have h2b:h2 b=none:=(hd b).resolve_left (by rw [hp];simp)
 refine ⟨fun c=>if c=b then some o' else none,h2,fun c=>?_,fun c o e=>?_,fun c o e=>?_,if_pos rfl,hL⟩
 ·by_cases e:c=b
  ·exact .inr (e▸h2b)
  ·exact .inl (if_neg e)
 ·by_cases hc:c=b
  ·subst hc;simp at e;rw [←e];exact hb
  ·simp [hc] at e
 ·have hc:c≠b:=by rintro rfl;rw [h2b] at e;cases e
  rw [hne _ hc];exact a2 _ _ e
theorem AGb {b:Nat} {o:Obj} {L:List HP} {h h':Hp} (hs:CP L h) (hnb:h b=none) (hb:h' b=some o) (hne:∀c,c≠b→h' c=h c):
  CP (pt b o::L) h':=by
 refine ⟨fun c=>if c=b then some o else none,h,fun c=>?_,fun c o' e=>?_,fun c o e=>?_,if_pos rfl,hs⟩
 ·by_cases e:c=b
  ·exact .inr (e▸hnb)
  ·exact .inl (if_neg e)
 ·by_cases hc:c=b
  ·subst hc;simp at e;rw [←e];exact hb
  ·simp [hc] at e
 ·have hc:c≠b:=by rintro rfl;rw [hnb] at e;cases e
  rw [hne _ hc];exact e
inductive BJ:HP→List HP→List HP→Prop
 |here {p:HP} {L:List HP}:BJ p (p::L) L
 |there {p q:HP} {L R:List HP}:BJ p L R→BJ p (q::L) (q::R)
theorem BJ.perm {p:HP} {L R:List HP} (h:BJ p L R):L.Perm (p::R):=by
 induction h with
 |here=>exact .refl _
 |there _ ih=>exact (List.Perm.cons _ ih).trans (List.Perm.swap _ _ _)
inductive A4:List HP→List HP→List HP→Prop
 |nil {L:List HP}:A4 [] L L
 |cons {p:HP} {ps L R S:List HP}:BJ p L R→A4 ps R S→A4 (p::ps) L S
theorem A4.perm {ps L R:List HP} (h:A4 ps L R):L.Perm (ps++R):=by
 induction h with
 |nil=>exact .refl _
 |cons h _ ih=>exact h.perm.trans (List.Perm.cons _ ih)
def St (L:List HP) (w:World):Prop:=CP L fun b=>w.heap[b]?
theorem St.perm {L L':List HP} {w:World} (h:St L w) (hp:L.Perm L'):St L' w:=DG hp h
theorem St.pick {p:HP} {L R:List HP} {w:World} (h:St L w) (hp:BJ p L R):St (p::R) w:=DG hp.perm h
theorem St.picks {ps L R:List HP} {w:World} (h:St L w) (hp:A4 ps L R):St (ps++R) w:=DG hp.perm h
theorem St.of_heap {L:List HP} {w w':World} (h:St L w) (he:w'.heap=w.heap):St L w':=by unfold St at *;rw [he];exact h
theorem St.pt {b:Nat} {o:Obj} {L:List HP} {w:World} (h:St (pt b o::L) w):w.heap[b]?=some o:=Gx h
theorem St.tail {p:HP} {L:List HP} {w:World} (h:St (p::L) w):St L w:=FH h
structure As (w w':World):Prop where
 os:w'.os=w.os
 tape:w'.tape=w.tape
 output:w'.output=w.output
 size:w.heap.size≤w'.heap.size
theorem As.refl (w:World):As w w:=⟨rfl,rfl,rfl,Nat.le_refl _⟩
theorem As.trans {a b c:World} (h:As a b) (k:As b c):As a c:=
 ⟨k.os.trans h.os,k.tape.trans h.tape,k.output.trans h.output,Nat.le_trans h.size k.size⟩
theorem As.drew (w:World):As w {w with drawn:=w.drawn+1}:=⟨rfl,rfl,rfl,Nat.le_refl _⟩
theorem As.heap {w:World} {h:Array Obj} (hs:w.heap.size≤h.size):As w {w with heap:=h}:=⟨rfl,rfl,rfl,hs⟩
theorem St.drew {L:List HP} {w:World} (h:St L w):St L {w with drawn:=w.drawn+1}:=h.of_heap rfl
theorem St.new {L:List HP} {w:World} (h:St L w) (o:Obj):St (Go.Proofs.YtbhkloaagkkioaaGreatDoor.pt w.heap.size o::L) {w with heap:=w.heap.push o}:=by
 refine AGb h (by simp) (by simp) fun c hc=>?_
 simp [Array.getElem?_push,hc]
theorem As.new (w:World) (o:Obj):As w {w with heap:=w.heap.push o}:=As.heap (h:=w.heap.push o) (by simp)
theorem St.set {b:Nat} {o o':Obj} {L:List HP} {w:World} (h:St (Go.Proofs.YtbhkloaagkkioaaGreatDoor.pt b o::L) w):St (Go.Proofs.YtbhkloaagkkioaaGreatDoor.pt b o'::L) {w with heap:=w.heap.setIfInBounds b o'}:=by
 have hb:=h.pt
 have hlt:b<w.heap.size:=by
  rcases Nat.lt_or_ge b w.heap.size with h|h
  ·exact h
  ·simp [Array.getElem?_eq_none h] at hb
 refine AG0 h (by simp [hlt]) fun c hc=>?_
 simp [Ne.symm hc]
theorem As.set (w:World) (b:Nat) (o:Obj):As w {w with heap:=w.heap.setIfInBounds b o}:=As.heap (h:=w.heap.setIfInBounds b o) (by simp)
def TI (W:World):HP:=fun h=> ∀b,b<W.heap.size→h b=W.heap[b]?
/-! ### The environment -/
abbrev Bi:=List (Nat×Value)
def look:Bi→Nat→Option Value
 |[],_=>none
 |(k,v)::E,t=>bif Nat.beq k t then some v else look E t
def FL:Option Nat→Value→Bi→Bi
 |some d,v,E=>(d,v)::E
 |none,_,E=>E
def ev (E:Bi):Operand→Option Value
 | .tmp t=>look E t
 | .const v=>some v
 | .global g=>some (.pointer (some ⟨g,0,none⟩))
 | .func f=>some (.func (.func f) #[] #[])
def CL:Option Nat→Nat→Bool
 |some d,n=>Nat.blt d n
 |none,_=>true
structure EL (n:Nat) (ds:List Deferred) (E:Bi) (a:Act):Prop where
 size:a.tmps.size=n
 defers:a.defers=ds
 slots:∀t v,look E t=some v→a.tmps[t]?=some v
theorem EL.put {n:Nat} {ds:List Deferred} {E:Bi} {a:Act} (h:EL n ds E a) {dst:Option Nat} (hd:CL dst n=true) (v:Value):
  EL n ds (FL dst v E) (a.put dst v):=by
 cases dst with
 |none=>exact h
 |some d=>
  have hd':d<n:=by simpa [CL,Nat.blt_eq] using hd
  refine ⟨by simpa [Act.put] using h.size,h.defers,fun t u hu=>?_⟩
  simp only [FL,look] at hu
  by_cases hk:d=t
  ·subst hk
   simp at hu
   subst hu
   simp [Act.put,h.size,hd']
  ·have:Nat.beq d t=false:=by
    cases e:Nat.beq d t with
    |false=>rfl
    |true=>exact absurd (Nat.eq_of_beq_eq_true e) hk
   rw [this] at hu
   simpa [Act.put,Array.getElem?_setIfInBounds,hk] using h.slots t u hu
def KV (E:Bi) (ρ:Operand→Value):Prop:= ∀x v,ev E x=some v→ρ x=v
theorem EL.agrees {n:Nat} {ds:List Deferred} {E:Bi} {a:Act} (h:EL n ds E a):KV E a.eval:=by
 intro x v hv
 cases x with
 |tmp t=>simp only [ev] at hv;simp [Act.eval,h.slots t v hv]
 |const c=>simpa [ev,Act.eval] using hv
 |global g=>simpa [ev,Act.eval] using hv
 |func f=>simpa [ev,Act.eval] using hv
def Is:Bi→Bi→Prop
 |[],_=>True
 |(t,v)::E',E=>look E t=some v∧Is E' E
theorem Is.look {E' E:Bi} (h:Is E' E) {t:Nat} {v:Value} (hl:look E' t=some v):look E t=some v:=by
 induction E' with
 |nil=>cases hl
 |cons x E' ih=>
  obtain ⟨k,u⟩:=x
  obtain ⟨h1,h2⟩:=h
  simp only [Go.Proofs.YtbhkloaagkkioaaGreatDoor.look] at hl
  cases e:Nat.beq k t with
  |true=>
   rw [e] at hl
   have:=Nat.eq_of_beq_eq_true e
   subst this
   simp at hl;rw [←hl];exact h1
  |false=>rw [e] at hl;exact ih h2 hl
theorem EL.sub {n:Nat} {ds:List Deferred} {E E':Bi} {a:Act} (h:EL n ds E a) (hs:Is E' E):EL n ds E' a:=
 ⟨h.size,h.defers,fun t v hl=>h.slots t v (hs.look hl)⟩
/-! ### One operation -/
def DC (P:Program) (o:Oper) (ρ:Operand→Value) (w:World) (R:Value→World→Prop):Prop:=
 match (execOp ρ o).run P w with
 | .ok (.value v) w'=>R v w'
 | .ok .skip w'=>R undef w'
 | .ok (.enter f args) w'=>Calls P f args w' fun e w''=> ∃v,e= .returned v∧R v w''
 |_=>False
theorem DC.wp {P:Program} {o:Oper} {a:Act} {w:World} {R:Value→World→Prop} {next:Act→World→Prop} {Q:Exit→Act→World→Prop}
  (h:DC P o a.eval w R) (hn:∀v w',R v w'→next (a.put o.dst v) w'):o.wp P a w next Q:=by
 unfold DC at h
 unfold Oper.wp
 generalize (execOp a.eval o).run P w=r at h ⊢
 cases r with
 |ok nx w'=>
  cases nx<;>simp only [Oper.upon] at h ⊢ <;>first|exact hn _ _ h|exact h.elim|skip
  refine Calls.mono h ?_
  rintro e w'' ⟨v,rfl,hr⟩
  exact hn _ _ hr
 |halt x w'=>exact h.elim
theorem DC.mono {P:Program} {o:Oper} {ρ:Operand→Value} {w:World} {R R':Value→World→Prop}
  (h:DC P o ρ w R) (hn:∀v w',R v w'→R' v w'):DC P o ρ w R':=by
 unfold DC at h ⊢
 generalize (execOp ρ o).run P w=r at h ⊢
 cases r with
 |ok nx w'=>
  cases nx<;>simp only at h ⊢ <;>first|exact hn _ _ h|exact h.elim|skip
  refine Calls.mono h ?_
  rintro e w'' ⟨v,rfl,hr⟩
  exact ⟨v,rfl,hn _ _ hr⟩
 |halt x w'=>exact h.elim
def AE (P:Program) (o:Oper) (E:Bi) (L:List HP) (v:Value):Prop:=
 ∀ρ w,KV E ρ→St L w→(execOp ρ o).run P w= .ok (.value v) w
def AO (P:Program) (o:Oper) (E:Bi) (pre:List HP) (K:Value→List HP→Prop):Prop:=
 ∀ρ w F,KV E ρ→St (pre++F) w→DC P o ρ w fun v w'=> ∃L',K v L'∧St (L'++F) w'∧As w w'
theorem AE.spec {P:Program} {o:Oper} {E:Bi} {L:List HP} {v:Value} (h:AE P o E L v):AO P o E L fun u L'=>u=v∧L'=L:=by
 intro ρ w F ha hs
 obtain ⟨h1,h2,hd,a1,a2,s1,s2⟩:=OC hs
 have:=h ρ w ha (Fu s1 a1)
 unfold DC
 rw [this]
 exact ⟨_,⟨rfl,rfl⟩,hs, .refl _⟩
/-! ### Contracts -/
def Fn (P:Program) (f:FuncId) (args:Array Value) (pre:List HP) (post:Value→List HP→Prop):Prop:=
 ∀(F:List HP) (w:World),St (pre++F) w→Calls P f args w fun e w'=> ∃v L,post v L∧e= .returned v∧St (L++F) w'∧As w w'
theorem Fn.mono {P:Program} {f:FuncId} {args:Array Value} {pre:List HP} {post post':Value→List HP→Prop} (h:Fn P f args pre post)
  (hp:∀v L,post v L→post' v L):Fn P f args pre post':=
 fun F w hs=>(h F w hs).mono fun _ _ ⟨v,L,hv,he,hs',hk⟩=>⟨v,L,hp _ _ hv,he,hs',hk⟩
/-! ### The walk's state -/
def G (W:World) (n:Nat) (ds:List Deferred) (E:Bi) (L:List HP) (X:Act→World→Prop):Prop:=
 ∀a w,EL n ds E a→As W w→St L w→X a w
section code
variable {P:Program} {W:World} {n:Nat} {ds:List Deferred} {E:Bi} {L:List HP} {Q:Exit→Act→World→Prop} {next:Act→World→Prop}
theorem G.seq {x y:Code} (h:G W n ds E L (x.wp P (Exit.then (y.wp P Q) Q))):G W n ds E L ((Code.seq x y).wp P Q):=
 fun a w he hk hs=>wp_seq (h a w he hk hs)
theorem G.region {id:Nat} {l:List Oper} (h:G W n ds E L (wpList P l.toArray Q l)):G W n ds E L ((Code.region id l.toArray false).wp P Q):=
 fun a w he hk hs=>wp_region_lit (h a w he hk hs)
theorem G.block {id:Nat} {c:Code} (h:G W n ds E L (c.wp P (Exit.inBlock id Q))):G W n ds E L ((Code.block id c).wp P Q):=
 fun a w he hk hs=>wp_block (h a w he hk hs)
theorem G.ret (h:G W n ds E L (Q .ret)):G W n ds E L (Code.ret.wp P Q):=fun a w he hk hs=>wp_ret (h a w he hk hs)
theorem G.skip (h:G W n ds E L (Q .normal)):G W n ds E L (Code.skip.wp P Q):=fun a w he hk hs=>wp_skip (h a w he hk hs)
theorem G.exit {id:Nat} (h:G W n ds E L (Q (.exit id))):G W n ds E L ((Code.exit id).wp P Q):=fun a w he hk hs=>wp_exit (h a w he hk hs)
theorem G.condT {c:Operand} {x y:Code} (hc:ev E c=some (.bool true)) (h:G W n ds E L (x.wp P Q)):G W n ds E L ((Code.cond c x y).wp P Q):=
 fun a w he hk hs=>wp_cond_true (he.agrees _ _ hc) (h a w he hk hs)
theorem G.condF {c:Operand} {x y:Code} (hc:ev E c=some (.bool false)) (h:G W n ds E L (y.wp P Q)):G W n ds E L ((Code.cond c x y).wp P Q):=
 fun a w he hk hs=>wp_cond_false (he.agrees _ _ hc) (h a w he hk hs)
theorem G.condB {c:Operand} {x y:Code} {t:Bool} (hc:ev E c=some (.bool t)) (ht:t=true→G W n ds E L (x.wp P Q)) (hf:t=false→G W n ds E L (y.wp P Q)):
  G W n ds E L ((Code.cond c x y).wp P Q):=
 fun a w he hk hs=>wp_cond_split (he.agrees _ _ hc) (fun e=>ht e a w he hk hs) (fun e=>hf e a w he hk hs)
theorem G.condD {c:Operand} {x y:Code} {φ:Prop} [Decidable φ] (hc:ev E c=some (.bool (decide φ))) (ht:φ→G W n ds E L (x.wp P Q)) (hf:¬φ→G W n ds E L (y.wp P Q)):
  G W n ds E L ((Code.cond c x y).wp P Q):=
 G.condB hc (fun e=>ht (of_decide_eq_true e)) (fun e=>hf (of_decide_eq_false e))
theorem G.condN {c:Operand} {x y:Code} {φ:Prop} [Decidable φ] (hc:ev E c=some (.bool (!decide φ))) (ht:¬φ→G W n ds E L (x.wp P Q)) (hf:φ→G W n ds E L (y.wp P Q)):
  G W n ds E L ((Code.cond c x y).wp P Q):=
 G.condB hc (fun e=>ht (by simpa using e)) (fun e=>hf (by simpa using e))
theorem G.nil {ops:Array Oper} (h:G W n ds E L (Q .normal)):G W n ds E L (wpList P ops Q []):=h
theorem G.then_n (h:G W n ds E L next):G W n ds E L (Exit.then next Q .normal):=h
theorem G.then_r (h:G W n ds E L (Q .ret)):G W n ds E L (Exit.then next Q .ret):=h
theorem G.then_e {id:Nat} (h:G W n ds E L (Q (.exit id))):G W n ds E L (Exit.then next Q (.exit id)):=h
theorem G.blk_n {id:Nat} (h:G W n ds E L (Q .normal)):G W n ds E L (Exit.inBlock id Q .normal):=h
theorem G.blk_r {id:Nat} (h:G W n ds E L (Q .ret)):G W n ds E L (Exit.inBlock id Q .ret):=h
theorem G.blk_e {id:Nat} (h:G W n ds E L (Q .normal)):G W n ds E L (Exit.inBlock id Q (.exit id)):=
 fun a w he hk hs=>by simp only [Exit.inBlock,if_true];exact h a w he hk hs
theorem G.blk_o {id id':Nat} (hne:Nat.beq id' id=false) (h:G W n ds E L (Q (.exit id'))):G W n ds E L (Exit.inBlock id Q (.exit id')):=
 fun a w he hk hs=>by
  have:id'≠id:=fun e=>by subst e;simp at hne
  simp only [Exit.inBlock,if_neg this];exact h a w he hk hs
theorem G.env {X:Act→World→Prop} (E':Bi) (hE:Is E' E) (h:G W n ds E' L X):G W n ds E L X:=
 fun a w he hk hs=>h a w (he.sub hE) hk hs
theorem G.perm {X:Act→World→Prop} {L':List HP} (hL:L.Perm L') (h:G W n ds E L' X):G W n ds E L X:=
 fun a w he hk hs=>h a w he hk (hs.perm hL)
theorem G.focus {X:Act→World→Prop} {p:HP} {R:List HP} (hL:BJ p L R) (h:G W n ds E (p::R) X):G W n ds E L X:=
 fun a w he hk hs=>h a w he hk (hs.pick hL)
theorem G.unfold {X:Act→World→Prop} {p:HP} {q:List HP} (hi:∀hp,p hp→CP q hp) (h:G W n ds E (q++L) X):G W n ds E (p::L) X:=
 fun a w he hk hs=>h a w he hk (Eu (B0 hi hs))
theorem G.open {X:Act→World→Prop} {p:HP} {α:Sort _} {φ:α→Prop} {q:α→List HP} (hi:∀hp,p hp→∃x,φ x∧CP (q x) hp)
  (h:∀x,φ x→G W n ds E (q x++L) X):G W n ds E (p::L) X:=
 fun a w he hk hs=>by
  have hs':St ((fun hp=> ∃x,φ x∧CP (q x) hp)::L) w:=B0 hi hs
  obtain ⟨x,h1,h2,hd,a1,a2,⟨hx,hp⟩,hL⟩:=MJ hs'
  exact h x hx a w he hk (ON hd a1 a2 hp hL)
theorem G.fold {X:Act→World→Prop} {p:HP} {q R:List HP} (hL:A4 q L R) (hi:∀hp,CP q hp→p hp) (h:G W n ds E (p::R) X):G W n ds E L X:=
 fun a w he hk hs=>h a w he hk (B0 hi (Gq (hs.picks hL)))
theorem G.add {X:Act→World→Prop} {p:HP} (hp:∀h,p h) (h:G W n ds E (p::L) X):G W n ds E L X:=
 fun a w he hk hs=>h a w he hk ⟨fun _=>none,_,fun _=> .inl rfl,fun _ _ e=>(by cases e),fun _ _ e=>e,hp _,hs⟩
theorem EL.cons {a:Act} {t:Nat} {v:Value} (h:EL n ds E a) (hl:look E t=some v):EL n ds ((t,v)::E) a:=
 ⟨h.size,h.defers,fun s u hu=>by
  simp only [look] at hu
  cases e:Nat.beq t s with
  |true=>
   rw [e] at hu
   have:=Nat.eq_of_beq_eq_true e
   subst this
   simp at hu;subst hu;exact h.slots _ _ hl
  |false=>rw [e] at hu;exact h.slots _ _ hu⟩
theorem G.bool {X:Act→World→Prop} {t:Nat} {b:Bool} (hl:look E t=some (.bool b)) (hT:b=true→G W n ds ((t, .bool true)::E) L X)
  (hF:b=false→G W n ds ((t, .bool false)::E) L X):G W n ds E L X:=by
 intro a w he hk hs
 cases b
 ·exact hF rfl a w (he.cons hl) hk hs
 ·exact hT rfl a w (he.cons hl) hk hs
theorem G.dec {X:Act→World→Prop} {t:Nat} {φ:Prop} [Decidable φ] (hl:look E t=some (.bool (decide φ))) (hT:φ→G W n ds ((t, .bool true)::E) L X)
  (hF:¬φ→G W n ds ((t, .bool false)::E) L X):G W n ds E L X:=
 G.bool hl (fun e=>hT (of_decide_eq_true e)) (fun e=>hF (of_decide_eq_false e))
theorem G.ndec {X:Act→World→Prop} {t:Nat} {φ:Prop} [Decidable φ] (hl:look E t=some (.bool (!decide φ))) (hT:¬φ→G W n ds ((t, .bool true)::E) L X)
  (hF:φ→G W n ds ((t, .bool false)::E) L X):G W n ds E L X:=
 G.bool hl (fun e=>hT (by simpa using e)) (fun e=>hF (by simpa using e))
theorem G.kB {X:Act→World→Prop} {t:Nat} {b c:Bool} (hl:look E t=some (.bool b)) (hb:b=c) (h:G W n ds ((t, .bool c)::E) L X):G W n ds E L X:=
 fun a w he hk hs=>by subst hb;exact h a w (he.cons hl) hk hs
theorem G.kDT {X:Act→World→Prop} {t:Nat} {φ:Prop} [Decidable φ] (hl:look E t=some (.bool (decide φ))) (hb:φ) (h:G W n ds ((t, .bool true)::E) L X):G W n ds E L X:=G.kB hl (decide_eq_true hb) h
theorem G.kDF {X:Act→World→Prop} {t:Nat} {φ:Prop} [Decidable φ] (hl:look E t=some (.bool (decide φ))) (hb:¬φ) (h:G W n ds ((t, .bool false)::E) L X):G W n ds E L X:=G.kB hl (decide_eq_false hb) h
theorem G.kNT {X:Act→World→Prop} {t:Nat} {φ:Prop} [Decidable φ] (hl:look E t=some (.bool (!decide φ))) (hb:¬φ) (h:G W n ds ((t, .bool true)::E) L X):G W n ds E L X:=G.kB hl (by simpa using hb) h
theorem G.kNF {X:Act→World→Prop} {t:Nat} {φ:Prop} [Decidable φ] (hl:look E t=some (.bool (!decide φ))) (hb:φ) (h:G W n ds ((t, .bool false)::E) L X):G W n ds E L X:=G.kB hl (by simpa using hb) h
inductive IX:List HP→List HP→Prop
 |here {F:List HP}:IX F F
 |there {q:HP} {F R:List HP}:IX F R→IX F (q::R)
theorem IX.st {F R L:List HP} (h:IX F R):∀{hp:Hp},CP (L++R) hp→CP (L++F) hp:=by
 induction h with
 |here=>exact id
 | @there q F R _ ih=>
  intro hp hs
  refine ih ?_
  have:(L++q::R).Perm (q::(L++R)):=perm_middle
  exact FH (DG this hs)
def Oa {ι:Type} (n:Nat) (ds:List Deferred) (W:World) (Ei:ι→Bi) (Li:ι→List HP) (φ:ι→Prop) (μ:ι→Nat) (F:List HP) (i:ι):Act→World→Prop:=
 fun a w=> ∃j,φ j∧μ j<μ i∧EL n ds (Ei j) a∧As W w∧St (Li j++F) w
def Tc {ι:Sort _} (n:Nat) (ds:List Deferred) (W:World) (Ei:ι→Bi) (Li:ι→List HP) (φ:ι→Prop) (F:List HP):Act→World→Prop:=
 fun a w=> ∃i,φ i∧EL n ds (Ei i) a∧As W w∧St (Li i++F) w
theorem G.loop {ι:Type} (Ei:ι→Bi) (Li:ι→List HP) (φ:ι→Prop) (μ:ι→Nat) (i0:ι) {F:List HP} {c:Code} {R:List HP} (h0:φ i0) (hE:Is (Ei i0) E) (hL:A4 (Li i0) L R) (hF:IX F R)
  (round:∀i,φ i→G W n ds (Ei i) (Li i++F) (c.wp P (Exit.then (Oa n ds W Ei Li φ μ F i) Q))):
  G W n ds E L ((Code.loop c).wp P Q):=by
 intro a w he hk hs
 refine wp_loop_ghost (fun k a w=> ∃i,φ i∧μ i=k∧EL n ds (Ei i) a∧As W w∧St (Li i++F) w) (μ i0) ⟨i0,h0,rfl,he.sub hE,hk,hF.st (hs.picks hL)⟩ ?_
 rintro k a w ⟨i,hi,rfl,he,hk,hs⟩
 refine Code.wp_mono ?_ (round i hi a w he hk hs)
 intro e a' w' hq
 cases e<;>first|exact hq|skip
 obtain ⟨j,h1,h2,h3,h4,h5⟩:=hq
 exact ⟨μ j,h2,j,h1,rfl,h3,h4,h5⟩
theorem G.round {ι:Type} {Ei:ι→Bi} {Li:ι→List HP} {φ:ι→Prop} {μ:ι→Nat} {i:ι} {F R:List HP} (j:ι) (hj:φ j) (hm:μ j<μ i) (hE:Is (Ei j) E) (hL:A4 (Li j) L R) (hF:IX F R):
  G W n ds E L (Oa n ds W Ei Li φ μ F i):=
 fun a w he hk hs=>⟨j,hj,hm,he.sub hE,hk,hF.st (hs.picks hL)⟩
theorem G.join {ι:Sort _} (Ei:ι→Bi) (Li:ι→List HP) (φ:ι→Prop) {F:List HP} {x:Code} {next:Act→World→Prop}
  (h1:G W n ds E L (x.wp P (Exit.then (Tc n ds W Ei Li φ F) Q))) (h2:∀i,φ i→G W n ds (Ei i) (Li i++F) next):G W n ds E L (x.wp P (Exit.then next Q)):=by
 intro a w he hk hs
 refine Code.wp_mono ?_ (h1 a w he hk hs)
 intro e a' w' hq
 cases e<;>first|exact hq|skip
 obtain ⟨i,q1,q2,q3,q4⟩:=hq
 exact h2 i q1 a' w' q2 q3 q4
theorem G.meet {ι:Sort _} {Ei:ι→Bi} {Li:ι→List HP} {φ:ι→Prop} {F R:List HP} (i:ι) (hi:φ i) (hE:Is (Ei i) E) (hL:A4 (Li i) L R) (hF:IX F R):
  G W n ds E L (Tc n ds W Ei Li φ F):=
 fun a w he hk hs=>⟨i,hi,he.sub hE,hk,hF.st (hs.picks hL)⟩
theorem G.op {ops:Array Oper} {d:Option Nat} {op:Op} {ty:TypeId} {pos:String} {aft:Array Edge} {rest:List Oper} {pre F:List HP} {K:Value→List HP→Prop}
  (hp:AO P ⟨none,op,ty, "",#[],none⟩ E pre K) (hL:A4 pre L F) (hd:CL d n=true)
  (h:∀v L',K v L'→G W n ds (FL d v E) (L'++F) (wpList P ops Q rest)):G W n ds E L (wpList P ops Q (⟨d,op,ty,pos,aft,none⟩::rest)):=by
 intro a w he hk hs
 refine wpList_plain rfl fun K' hK'=>?_
 have hr:DC P ⟨d,op,ty,pos,aft,none⟩ a.eval w _:=hp a.eval w F he.agrees (hs.picks hL)
 refine hr.wp fun v w' ⟨L',hv,hs',hk'⟩=>hK' _ _ ?_
 exact h v L' hv _ _ (he.put hd v) (hk.trans hk') hs'
theorem G.q {ops:Array Oper} {d:Nat} {op:Op} {ty:TypeId} {pos:String} {aft:Array Edge} {rest:List Oper} {v:Value}
  (hp:AE P ⟨none,op,ty, "",#[],none⟩ E L v) (hd:Nat.blt d n=true)
  (h:G W n ds ((d,v)::E) L (wpList P ops Q rest)):G W n ds E L (wpList P ops Q (⟨some d,op,ty,pos,aft,none⟩::rest)):=by
 intro a w he hk hs
 refine wpList_plain rfl fun K' hK'=>?_
 have hr:DC P ⟨some d,op,ty,pos,aft,none⟩ a.eval w fun u w'=>u=v∧w'=w:=by
  have:=hp a.eval w he.agrees hs
  unfold DC
  rw [show execOp a.eval ⟨some d,op,ty,pos,aft,none⟩=execOp a.eval ⟨none,op,ty, "",#[],none⟩ from rfl,this]
  exact ⟨rfl,rfl⟩
 refine hr.wp fun u w' ⟨hu,hw⟩=>hK' _ _ ?_
 subst hu;subst hw
 exact h _ _ (he.put (dst:=some d) hd _) hk hs
def CO (ops:Array Oper) (j:Nat):Option Nat:=(ops[j]?).bind (·.dst)
theorem N3 {ops:Array Oper} {j t:Nat} {b:Bool} {a:Act} (hj:CO ops j=some t) (he:EL n ds E a) (hl:look E t=some (.bool b)):yielded ops a.tmps j=some b:=by
 unfold yielded
 have:((ops[j]?).bind (·.dst))=some t:=hj
 rw [this]
 simp [he.slots t _ hl]
theorem G.gskip {ops:Array Oper} {d:Option Nat} {op:Op} {ty:TypeId} {pos:String} {aft:Array Edge} {rest:List Oper} {j t:Nat} {b c:Bool}
  (hj:CO ops j=some t) (hl:look E t=some (.bool c)) (hbc:(c==b)=false) (hd:CL d n=true)
  (h:G W n ds (FL d undef E) L (wpList P ops Q rest)):G W n ds E L (wpList P ops Q (⟨d,op,ty,pos,aft,some (j,b)⟩::rest)):=by
 intro a w he hk hs
 unfold wpList
 have hw:Region.wanted ⟨d,op,ty,pos,aft,some (j,b)⟩ (yielded ops a.tmps)=false:=by
  simp only [Region.wanted,N3 hj he hl]
  simpa using hbc
 rw [if_neg (by rw [hw];simp)]
 exact h _ _ (he.put hd _) hk hs
theorem G.gskipU {ops:Array Oper} {d:Option Nat} {op:Op} {ty:TypeId} {pos:String} {aft:Array Edge} {rest:List Oper} {j t:Nat} {b:Bool}
  (hj:CO ops j=some t) (hl:look E t=some undef) (hd:CL d n=true)
  (h:G W n ds (FL d undef E) L (wpList P ops Q rest)):G W n ds E L (wpList P ops Q (⟨d,op,ty,pos,aft,some (j,b)⟩::rest)):=by
 intro a w he hk hs
 unfold wpList
 have hy:yielded ops a.tmps j=none:=by
  unfold yielded
  have:((ops[j]?).bind (·.dst))=some t:=hj
  rw [this]
  simp [he.slots t _ hl,undef]
 have hw:Region.wanted ⟨d,op,ty,pos,aft,some (j,b)⟩ (yielded ops a.tmps)=false:=by
  simp only [Region.wanted,hy]
  cases b<;>rfl
 rw [if_neg (by rw [hw];simp)]
 exact h _ _ (he.put hd _) hk hs
theorem G.grun {ops:Array Oper} {d:Option Nat} {op:Op} {ty:TypeId} {pos:String} {aft:Array Edge} {rest:List Oper} {j t:Nat} {b c:Bool}
  (hj:CO ops j=some t) (hl:look E t=some (.bool c)) (hbc:(c==b)=true)
  (h:G W n ds E L (wpList P ops Q (⟨d,op,ty,pos,aft,none⟩::rest))):G W n ds E L (wpList P ops Q (⟨d,op,ty,pos,aft,some (j,b)⟩::rest)):=by
 intro a w he hk hs
 have hh:=h a w he hk hs
 unfold wpList at hh ⊢
 have hw:Region.wanted ⟨d,op,ty,pos,aft,some (j,b)⟩ (yielded ops a.tmps)=true:=by
  simp only [Region.wanted,N3 hj he hl]
  simpa using hbc
 have hw':Region.wanted ⟨d,op,ty,pos,aft,none⟩ (yielded ops a.tmps)=true:=rfl
 rw [if_pos hw]
 rw [if_pos hw'] at hh
 exact hh
theorem AO.call {f:FuncId} {fn:Func} {c:Code} {xs:Array Operand} {ts:Array TypeId} {ty:TypeId} {vs:List Value} {pre:List HP} {post:Value→List HP→Prop}
    (hf:P.funcs[f]?=some fn) (hb:fn.body=some c) (hnm:(fn.name== "runtime.NumGoroutine")=false) (hx:xs.toList.map (ev E)=vs.map some) (h:Fn P f vs.toArray pre post):
    AO P ⟨none, .call {callee:= .value (.func f),args:=xs,argTypes:=ts},ty, "",#[],none⟩ E pre post:=by
  intro ρ w F ha hs
  have hv:xs.map ρ=vs.toArray:=by
    apply Array.ext'
    rw [Array.toList_map]
    have:∀(l:List Operand) (us:List Value),l.map (ev E)=us.map some→l.map ρ=us:=by
      intro l
      induction l with
      |nil=>intro us h;cases us with
        |nil=>rfl
        |cons u us=>simp at h
      |cons x l ih=>intro us h;cases us with
        |nil=>simp at h
        |cons u us=>
          simp only [map_cons,List.cons.injEq] at h ⊢
          exact ⟨ha _ _ h.1,ih us h.2⟩
    exact this _ _ hx
  have hfn:ρ (.func f)= .func (.func f) #[] #[]:=ha (.func f) _ rfl
  unfold DC
  have:(execOp ρ ⟨none, .call {callee:= .value (.func f),args:=xs,argTypes:=ts},ty, "",#[],none⟩).run P w= .ok (.enter f vs.toArray) w:=by
    have hnm':¬fn.name= "runtime.NumGoroutine" :=by simpa using hnm
    simp [execOp,resolve,hfn,Deferred.ofValue,invoke,callFunc,program,Bind.bind,Sem.bind,Pure.pure,Sem.run,hf,hb,hnm',hv]
  rw [this]
  refine (h F w hs).mono ?_
  rintro e w' ⟨v,L,hv',he,hs',hk⟩
  exact ⟨v,he,L,hv',hs',hk⟩
end code
/-! ### Entering and leaving -/
def FnQ (P:Program) (fn:Func) (post:Value→List HP→Prop) (F:List HP) (W:World):Exit→Act→World→Prop:=
 bodyPost P fn fun e w'=> ∃v L,post v L∧e= .returned v∧St (L++F) w'∧As W w'
def W0:Nat→List Value→Bi
 |_,[]=>[]
 |i,v::vs=>(i,v)::W0 (i+1) vs
theorem Js:∀(vs:List Value) (i t:Nat) (v:Value),look (W0 i vs) t=some v→i≤t∧vs[t-i]?=some v:=by
 intro vs
 induction vs with
 |nil=>intro i t v h;cases h
 |cons u vs ih=>
  intro i t v h
  simp only [W0,look] at h
  by_cases hk:i=t
  ·subst hk;simp at h;simp [h]
  ·have hb:Nat.beq i t=false:=by
    cases e:Nat.beq i t with
    |false=>rfl
    |true=>exact absurd (Nat.eq_of_beq_eq_true e) hk
   rw [hb] at h
   obtain ⟨h1,h2⟩:=ih _ _ _ h
   refine ⟨by omega,?_⟩
   have:t-i=(t-(i+1))+1:=by omega
   rw [this];simpa using h2
theorem Fn.intro {P:Program} {f:FuncId} {fn:Func} {c:Code} {vs:List Value} {pre:List HP} {post:Value→List HP→Prop} {n:Nat}
    (hf:P.funcs[f]?=some fn) (hb:fn.body=some c) (hn:vs.length+(fn.ntmps-vs.length)=n)
    (h:∀F W,G W n [] (W0 0 vs) (pre++F) (c.wp P (FnQ P fn post F W))):Fn P f vs.toArray pre post:=by
  intro F w hs
  refine calls_of_wp hf hb (h F w _ w ⟨?_,rfl,fun t v hl=>?_⟩ (.refl w) hs)
  · simp [←hn]
  obtain ⟨-,h2⟩:=Js _ _ _ _ hl
  have hlt:t<vs.length:=by
    rcases Nat.lt_or_ge t vs.length with h|h
    · exact h
    simp [List.getElem?_eq_none h] at h2
  simp only [Nat.sub_zero] at h2
  rw [List.getElem?_eq_getElem hlt] at h2
  simp only [Option.some.injEq] at h2
  simp [Array.getElem?_append,hlt,h2]
def AEW:List ResultVar→Bi→Option Value
 |[],_=>some (.tuple #[])
 |[.tmp t],E=>look E t
 |[.tmp t, .tmp u],E=>match look E t,look E u with|some v,some v'=>some (.tuple #[v,v'])|_,_=>none
 |[.tmp t, .tmp u, .tmp r],E=>match look E t,look E u,look E r with|some v,some v',some v''=>some (.tuple #[v,v',v''])|_,_,_=>none
 |_,_=>none
theorem AE8 {P:Program} {fn:Func} {E:Bi} {n:Nat} {ds:List Deferred} {a:Act} {v:Value} {l:List ResultVar} (he:EL n ds E a) (hl:fn.results=l.toArray) (h:AEW l E=some v) (w:World):
  (results fn a.tmps).run P w= .ok v w:=by
 have hg:∀t u,look E t=some u→a.tmps.getD t undef=u:=fun t u hu=>by simp [he.slots t u hu]
 unfold AEW at h
 split at h
 ·rw [results_none (by rw [hl])];simpa using h
 ·rw [results_tmp (by rw [hl]),hg _ _ h]
 ·split at h
  ·rename_i h1 h2
   rw [results_tmp2 (by rw [hl]),hg _ _ h1,hg _ _ h2];simpa using h
  ·cases h
 ·split at h
  ·rename_i h1 h2 h3
   simp only [Option.some.injEq] at h
   subst h
   simp [results,hl,←hg _ _ h1,←hg _ _ h2,←hg _ _ h3]
  ·cases h
 ·cases h
theorem G.done {P:Program} {fn:Func} {post:Value→List HP→Prop} {F:List HP} {W:World} {n:Nat} {E:Bi} {L L' R:List HP} {v:Value} {l:List ResultVar}
  (hl:fn.results=l.toArray) (hr:AEW l E=some v) (hp:post v L') (hL:A4 L' L R) (hF:IX F R):G W n [] E L (FnQ P fn post F W .ret):=by
 intro a w he hk hs
 exact ⟨he.defers,v,AE8 he hl hr w,v,L',hp,rfl,hF.st (hs.picks hL),hk⟩
theorem G.done_n {P:Program} {fn:Func} {post:Value→List HP→Prop} {F:List HP} {W:World} {n:Nat} {E:Bi} {L:List HP}
  (h:G W n [] E L (FnQ P fn post F W .ret)):G W n [] E L (FnQ P fn post F W .normal):=h
abbrev bs (l:List UInt8):ByteArray:=⟨l.toArray⟩
abbrev AF (l:List UInt8):Value:= .string (bs l)
abbrev AA (n:Int):Value:= .int .i64 n
abbrev Co (c:UInt8):Value:= .int .u8 (c.toNat:Int)
abbrev AD (b:Nat):Value:= .pointer (some ⟨b,0,none⟩)
abbrev AW (b:Nat) (l:List Value) (T:TypeId):HP:=pt b (.cells l.toArray T (0,0))
/-! ### Facts of the program's tables, as computed words -/
def Ap (P:Program) (s:TypeId) (i:Nat):Option Nat:=
  match P.underlying s with
  |some (.struct fs)=>match fs[i]? with
    |some f=>match P.info? f.type with
      |some inf=>if inf.size=0 then none else some f.offset
      |none=>none
    |none=>none
  |_=>none
def A9 (P:Program) (t:TypeId):Option (Option Nat):=
 match P.underlying t,P.info? t with
 |some (.struct _),some i=>some (some i.size)
 |some (.array _ _),some i=>some (some i.size)
 |some _,some _=>some none
 |_,_=>none
def Au (P:Program) (t:TypeId):Option (TypeId×Nat×Nat):=
  match P.underlying t with
  |some (.slice e)=>match P.info? e with
    |some i=>some (e,i.size,i.bytes)
    |none=>none
  |_=>none
def JJ (P:Program) (t:TypeId):Option (Nat×TypeId×Nat):=
  match P.underlying t with
  |some (.array n e)=>match P.info? e with
    |some i=>some (n,e,i.size)
    |none=>none
  |_=>none
def Ah (P:Program) (t:TypeId):Option Value:=(P.info? t).bind (·.zero)
def Ab (P:Program) (t:TypeId):Option Nat:=(P.info? t).map (·.size)
section
variable {P:Program} {E:Bi} {L R:List HP} {ty:TypeId} {w:World}
theorem Be {t:TypeId} {k:Nat} (h:Ab P t=some k):(sizeOf t).run P w= .ok k w:=by
 unfold Ab at h
 cases hi:P.info? t with
 |none=>simp [hi] at h
 |some i=>
  simp [hi] at h
  simp [sizeOf,typeInfo,program,Bind.bind,Sem.bind,Pure.pure,Sem.run,hi,h]
theorem P3 {t:TypeId} {k:Nat} (h:A9 P t=some (some k)):Ab P t=some k:=by
 unfold A9 at h
 unfold Ab
 split at h<;>simp_all
theorem MD {t:TypeId} {k:Option Nat} (h:A9 P t=some k):(isAgg t).run P w= .ok k.isSome w:=by
 unfold A9 at h
 split at h<;>(try cases h)<;>rename_i hu hi<;>simp [isAgg,underlying,program,Bind.bind,Sem.bind,Pure.pure,Sem.run,hu]
theorem run_bind {α β:Type} {x:Sem α} {f:α→Sem β} {a:α} {w':World} (h:x.run P w= .ok a w'):(x>>=f).run P w=(f a).run P w':=by
 show (x.bind f).run P w=_
 rw [Sem.run_bind' P,h];rfl
theorem run_pure {α:Type} {a:α}:(pure a:Sem α).run P w= .ok a w:=rfl
theorem Ni {b off:Nat} {l:List Value} {T:TypeId} {fr:Nat×Nat} {v:Value} (hb:w.heap[b]?=some (.cells l.toArray T fr)) (hc:l[off]?=some v):w.cell? ⟨b,off,none⟩=some v:=by
 simp [World.cell?,hb,hc]
theorem Ty {b off:Nat} {l:List Value} {T:TypeId} {fr:Nat×Nat} {v:Value} (hb:w.heap[b]?=some (.cells l.toArray T fr)) (hc:l[off]?=some v):(load ⟨b,off,none⟩).run P w= .ok v w:=by
 simp [load,Sem.run,Ni hb hc]
theorem Addr.add_eq (b off k:Nat):(⟨b,off,none⟩:Addr).add k=⟨b,off+k,none⟩:=by
 unfold Addr.add;split
 ·rename_i h;subst h;rfl
 ·rfl
theorem Lk {b off:Nat} {l:List Value} {T:TypeId} {fr:Nat×Nat} (hb:w.heap[b]?=some (.cells l.toArray T fr)):
  ∀(n i:Nat) (acc:Array Value),off+i+n≤l.length→(loadCellsFrom ⟨b,off,none⟩ i n acc).run P w= .ok (acc++((l.drop (off+i)).take n).toArray) w:=by
 intro n
 induction n with
 |zero=>intro i acc h;simp [loadCellsFrom,run_pure]
 |succ n ih=>
  intro i acc h
  have hlt:off+i<l.length:=by omega
  unfold loadCellsFrom
  rw [Addr.add_eq,run_bind (Ty hb (List.getElem?_eq_getElem hlt)),ih (i+1) _ (by omega)]
  congr 1
  apply Array.ext'
  rw [show l.drop (off+i)=l[off+i]::l.drop (off+(i+1)) from by rw [drop_eq_getElem_cons hlt];rfl]
  simp
theorem Fk {b off n:Nat} {l:List Value} {T:TypeId} {fr:Nat×Nat} (hb:w.heap[b]?=some (.cells l.toArray T fr)) (h:off+n≤l.length):
  (loadCells ⟨b,off,none⟩ n).run P w= .ok ((l.drop off).take n).toArray w:=by
 unfold loadCells;rw [Lk hb n 0 #[] (by omega)];simp
theorem H3 {t:TypeId} {b off:Nat} {l:List Value} {T:TypeId} {fr:Nat×Nat} {v:Value} (hp:A9 P t=some none) (hb:w.heap[b]?=some (.cells l.toArray T fr)) (hc:l[off]?=some v):
  (loadVar t ⟨b,off,none⟩).run P w= .ok v w:=by
 unfold loadVar;rw [run_bind (MD hp)];exact Ty hb hc
theorem GP {t:TypeId} {b off k:Nat} {l:List Value} {T:TypeId} {fr:Nat×Nat} (hp:A9 P t=some (some k)) (hb:w.heap[b]?=some (.cells l.toArray T fr)) (h:off+k≤l.length):
  (loadVar t ⟨b,off,none⟩).run P w= .ok (.agg ((l.drop off).take k).toArray) w:=by
 unfold loadVar;rw [run_bind (MD hp)]
 simp only [Option.isSome_some,if_true]
 rw [run_bind (Be (P3 hp)),run_bind (Fk hb h)];rfl
theorem AE.move {x:Operand} {v:Value} (hx:ev E x=some v):AE P ⟨none, .move x,ty, "",#[],none⟩ E L v:=
 fun ρ w ha _=>by simp [execOp,ha x v hx,Pure.pure,Sem.run]
theorem AE.assign {x:Operand} {v:Value} (hx:ev E x=some v):AE P ⟨none, .assign x,ty, "",#[],none⟩ E L v:=
 fun ρ w ha _=>by simp [execOp,ha x v hx,Pure.pure,Sem.run]
theorem AE.pickT {c x y:Operand} {v:Value} (hc:ev E c=some (.bool true)) (hx:ev E x=some v):AE P ⟨none, .pick c x y,ty, "",#[],none⟩ E L v:=
 fun ρ w ha _=>by simp [execOp,ha c _ hc,ha x v hx,asBool,Bind.bind,Sem.bind,Pure.pure,Sem.run]
theorem AE.pickF {c x y:Operand} {v:Value} (hc:ev E c=some (.bool false)) (hx:ev E y=some v):AE P ⟨none, .pick c x y,ty, "",#[],none⟩ E L v:=
 fun ρ w ha _=>by simp [execOp,ha c _ hc,ha y v hx,asBool,Bind.bind,Sem.bind,Pure.pure,Sem.run]
theorem AE.nilp {x:Operand} {a:Addr} (hx:ev E x=some (.pointer (some a))):AE P ⟨none, .nilCheck x,ty, "",#[],none⟩ E L (.pointer (some a)):=
 fun ρ w ha _=>by simp [execOp,ha x _ hx,Pure.pure,Sem.run]
theorem AE.fieldAddr {s:TypeId} {x:Operand} {i k b off:Nat} (hx:ev E x=some (.pointer (some ⟨b,off,none⟩))) (hf:Ap P s i=some k):
  AE P ⟨none, .fieldAddr s x i,ty, "",#[],none⟩ E L (.pointer (some ⟨b,off+k,none⟩)):=by
 intro ρ w ha _
 unfold Ap at hf
 split at hf<;>(try cases hf)
 rename_i fs hu
 split at hf<;>(try cases hf)
 rename_i f hfi
 split at hf<;>(try cases hf)
 rename_i inf hin
 split at hf<;>(try cases hf)
 rename_i hne
 simp [execOp,ha x _ hx,Instr.fieldAt,underlying,program,Bind.bind,Sem.bind,Pure.pure,Sem.run,hu,hfi,Instr.sureAddr,fieldPlace,sizeOf,typeInfo,hin,hne,Addr.add_eq]
theorem AE.load {t:TypeId} {x:Operand} {b off:Nat} {l:List Value} {T:TypeId} {fr:Nat×Nat} {v:Value} (hx:ev E x=some (.pointer (some ⟨b,off,none⟩)))
  (hp:A9 P t=some none) (hL:BJ (pt b (.cells l.toArray T fr)) L R) (hc:l[off]?=some v):AE P ⟨none, .load t x,ty, "",#[],none⟩ E L v:=by
 intro ρ w ha hs
 have hb:=(hs.pick hL).pt
 show (do pure (Next.value (←Instr.loadAt t (ρ x))):Sem Next).run P w=_
 rw [ha x _ hx]
 have:(Instr.loadAt t (.pointer (some ⟨b,off,none⟩))).run P w= .ok v w:=by
  unfold Instr.loadAt;exact H3 hp hb hc
 rw [run_bind this];rfl
theorem AE.loadA {t:TypeId} {x:Operand} {b off k:Nat} {l:List Value} {T:TypeId} {fr:Nat×Nat} (hx:ev E x=some (.pointer (some ⟨b,off,none⟩)))
  (hp:A9 P t=some (some k)) (hL:BJ (pt b (.cells l.toArray T fr)) L R) (hc:off+k≤l.length):AE P ⟨none, .load t x,ty, "",#[],none⟩ E L (.agg ((l.drop off).take k).toArray):=by
 intro ρ w ha hs
 have hb:=(hs.pick hL).pt
 show (do pure (Next.value (←Instr.loadAt t (ρ x))):Sem Next).run P w=_
 rw [ha x _ hx]
 have:(Instr.loadAt t (.pointer (some ⟨b,off,none⟩))).run P w= .ok (.agg ((l.drop off).take k).toArray) w:=by
  unfold Instr.loadAt;exact GP hp hb hc
 rw [run_bind this];rfl
theorem AE.loadAs {t:TypeId} {x:Operand} {b off k:Nat} {l vs:List Value} {T:TypeId} {fr:Nat×Nat} (hx:ev E x=some (.pointer (some ⟨b,off,none⟩)))
  (hp:A9 P t=some (some k)) (hL:BJ (pt b (.cells l.toArray T fr)) L R) (hc:off+k≤l.length) (hv:(l.drop off).take k=vs):AE P ⟨none, .load t x,ty, "",#[],none⟩ E L (.agg vs.toArray):=
 hv▸AE.loadA hx hp hL hc
/-! Integers. -/
def PS:BinOp→IntKind→Int→Int→Option Value
 | .add,k,a,b=>some (.int k (k.wrap (a+b)))
 | .sub,k,a,b=>some (.int k (k.wrap (a-b)))
 | .mul,k,a,b=>some (.int k (k.wrap (a*b)))
 | .eql,_,a,b=>some (.bool (decide (a=b)))
 | .neq,_,a,b=>some (.bool (!decide (a=b)))
 | .lss,_,a,b=>some (.bool (decide (a<b)))
 | .leq,_,a,b=>some (.bool (decide (a≤b)))
 | .gtr,_,a,b=>some (.bool (decide (a>b)))
 | .geq,_,a,b=>some (.bool (decide (a≥b)))
 |_,_,_,_=>none
theorem Nj (a b:Int):(a==b)=decide (a=b):=by
 by_cases h:a=b
 ·subst h;simp
 ·simp [h]
theorem AFP (a b:Int):(a !=b)= !decide (a=b):=by rw [bne,Nj]
theorem AE.int {op:BinOp} {t t':TypeId} {x y:Operand} {k:IntKind} {a b:Int} {v:Value} (hx:ev E x=some (.int k a)) (hy:ev E y=some (.int k b)) (hv:PS op k a b=some v):
  AE P ⟨none, .binOp op t x y t',ty, "",#[],none⟩ E L v:=by
 intro ρ w ha _
 cases op<;>simp [PS] at hv<;>subst hv<;>
  simp [execOp,ha x _ hx,ha y _ hy,eqGuard,binOp,Op.intArith,Op.intCmp,Bind.bind,Sem.bind,Pure.pure,Sem.run,Nj,AFP]
theorem JA {n:Int} (h: -9223372036854775808≤n∧n≤9223372036854775807):IntKind.i64.wrap n=n:=by rw [IntKind.wrap_i64];omega
theorem AE.add {t t':TypeId} {x y:Operand} {a b:Int} (hx:ev E x=some (.int .i64 a)) (hy:ev E y=some (.int .i64 b)) (hb: -9223372036854775808≤a+b∧a+b≤9223372036854775807):
  AE P ⟨none, .binOp .add t x y t',ty, "",#[],none⟩ E L (.int .i64 (a+b)):=AE.int hx hy (by simp only [PS,JA hb])
theorem AE.sub {t t':TypeId} {x y:Operand} {a b:Int} (hx:ev E x=some (.int .i64 a)) (hy:ev E y=some (.int .i64 b)) (hb: -9223372036854775808≤a-b∧a-b≤9223372036854775807):
  AE P ⟨none, .binOp .sub t x y t',ty, "",#[],none⟩ E L (.int .i64 (a-b)):=AE.int hx hy (by simp only [PS,JA hb])
theorem AE.mul {t t':TypeId} {x y:Operand} {a b:Int} (hx:ev E x=some (.int .i64 a)) (hy:ev E y=some (.int .i64 b)) (hb: -9223372036854775808≤a*b∧a*b≤9223372036854775807):
  AE P ⟨none, .binOp .mul t x y t',ty, "",#[],none⟩ E L (.int .i64 (a*b)):=AE.int hx hy (by simp only [PS,JA hb])
theorem AE.quo {t t':TypeId} {x y:Operand} {a b:Int} (hx:ev E x=some (.int .i64 a)) (hy:ev E y=some (.int .i64 b)) (h0:b≠0) (hb: -9223372036854775808≤a.tdiv b∧a.tdiv b≤9223372036854775807):
  AE P ⟨none, .binOp .quo t x y t',ty, "",#[],none⟩ E L (.int .i64 (a.tdiv b)):=by
 intro ρ w ha _
 simp [execOp,ha x _ hx,ha y _ hy,eqGuard,binOp,Op.intDiv,Bind.bind,Sem.bind,Pure.pure,Sem.run,h0,JA hb]
theorem AE.rem {t t':TypeId} {x y:Operand} {a b:Int} (hx:ev E x=some (.int .i64 a)) (hy:ev E y=some (.int .i64 b)) (h0:b≠0):
  AE P ⟨none, .binOp .rem t x y t',ty, "",#[],none⟩ E L (.int .i64 (a.tmod b)):=by
 intro ρ w ha _
 simp [execOp,ha x _ hx,ha y _ hy,eqGuard,binOp,Op.intDiv,Bind.bind,Sem.bind,Pure.pure,Sem.run,h0]
theorem AE.quoE {t t':TypeId} {x y:Operand} {a b:Int} (hx:ev E x=some (.int .i64 a)) (hy:ev E y=some (.int .i64 b)) (h0:0≤a∧a≤9223372036854775807) (hb:0<b):
  AE P ⟨none, .binOp .quo t x y t',ty, "",#[],none⟩ E L (.int .i64 (a/b)):=by
 have e:a.tdiv b=a/b:=Int.tdiv_eq_ediv_of_nonneg h0.1
 have h1:a/b≤a:=Int.ediv_le_self b h0.1
 have h2:0≤a/b:=Int.ediv_nonneg h0.1 (by omega)
 rw [←e];rw [←e] at h1 h2
 exact AE.quo hx hy (by omega) (by omega)
theorem AE.remE {t t':TypeId} {x y:Operand} {a b:Int} (hx:ev E x=some (.int .i64 a)) (hy:ev E y=some (.int .i64 b)) (h0:0≤a) (hb:0<b):
  AE P ⟨none, .binOp .rem t x y t',ty, "",#[],none⟩ E L (.int .i64 (a%b)):=by
 have e:a.tmod b=a%b:=Int.tmod_eq_emod_of_nonneg h0
 rw [←e];exact AE.rem hx hy (by omega)
theorem AE.not {t:TypeId} {x:Operand} {b:Bool} (hx:ev E x=some (.bool b)):AE P ⟨none, .unOp .not t x,ty, "",#[],none⟩ E L (.bool (!b)):=by
 intro ρ w ha _
 simp [execOp,ha x _ hx,Op.unary,Bind.bind,Sem.bind,Pure.pure,Sem.run]
theorem AE.neg {t:TypeId} {x:Operand} {a:Int} (hx:ev E x=some (.int .i64 a)) (hb: -9223372036854775808≤ -a∧ -a≤9223372036854775807):AE P ⟨none, .unOp .neg t x,ty, "",#[],none⟩ E L (.int .i64 (-a)):=by
 intro ρ w ha _
 simp [execOp,ha x _ hx,Op.unary,Op.intArith,Bind.bind,Sem.bind,Pure.pure,Sem.run,JA hb]
theorem AN {t:TypeId} {d:TypeDesc} (h:P.underlying t=some d):(underlying t).run P w= .ok d w:=by
 simp [underlying,program,Bind.bind,Sem.bind,Pure.pure,Sem.run,h]
theorem Bn {s:Sem Value} {v:Value} {w':World} (h:s.run P w= .ok v w'):(do pure (Next.value (←s)):Sem Next).run P w= .ok (.value v) w':=by
 rw [run_bind h];rfl
theorem I4 {t:TypeId} {a b:Bool} (ht:P.underlying t=some .bool):(Op.equal t (.bool a) (.bool b)).run P w= .ok (a==b) w:=by
 unfold Op.equal
 rw [show Op.maxDepth=9999+1 from rfl]
 generalize 9999=d
 unfold Op.equalIn
 rw [run_bind (AN ht)];rfl
theorem KL {t e:TypeId} {a:Option Addr} (ht:P.underlying t=some (.pointer e)):(Op.equal t (.pointer a) (.pointer none)).run P w= .ok a.isNone w:=by
 unfold Op.equal
 rw [show Op.maxDepth=9999+1 from rfl]
 generalize 9999=d
 unfold Op.equalIn
 rw [run_bind (AN ht)];cases a<;>rfl
theorem SZ {t t':TypeId} {x y:Operand} {u v:Value} {r:Bool} {ρ:Operand→Value} (hx:ρ x=u) (hy:ρ y=v) (hg:eqGuard .eql t x y u v=pure ()) (hb:binOp .eql t u v=do pure (.bool (←Op.equal t u v)))
  (he:(Op.equal t u v).run P w= .ok r w):(execOp ρ ⟨none, .binOp .eql t x y t',ty, "",#[],none⟩).run P w= .ok (.value (.bool r)) w:=by
 show (do pure (Next.value (←(do eqGuard .eql t x y (ρ x) (ρ y);binOp .eql t (ρ x) (ρ y)))):Sem Next).run P w=_
 rw [hx,hy]
 refine Bn ?_
 rw [hg,run_bind run_pure,hb,run_bind he];rfl
theorem Ya {t t':TypeId} {x y:Operand} {u v:Value} {r:Bool} {ρ:Operand→Value} (hx:ρ x=u) (hy:ρ y=v) (hg:eqGuard .neq t x y u v=pure ()) (hb:binOp .neq t u v=do pure (.bool (!(←Op.equal t u v))))
  (he:(Op.equal t u v).run P w= .ok r w):(execOp ρ ⟨none, .binOp .neq t x y t',ty, "",#[],none⟩).run P w= .ok (.value (.bool (!r))) w:=by
 show (do pure (Next.value (←(do eqGuard .neq t x y (ρ x) (ρ y);binOp .neq t (ρ x) (ρ y)))):Sem Next).run P w=_
 rw [hx,hy]
 refine Bn ?_
 rw [hg,run_bind run_pure,hb,run_bind he];rfl
theorem AE.booleq {t t':TypeId} {x y:Operand} {a b:Bool} (hx:ev E x=some (.bool a)) (hy:ev E y=some (.bool b)) (ht:P.underlying t=some .bool):AE P ⟨none, .binOp .eql t x y t',ty, "",#[],none⟩ E L (.bool (a==b)):=
 fun _ _ ha _=>SZ (ha x _ hx) (ha y _ hy) rfl rfl (I4 ht)
theorem AE.boolne {t t':TypeId} {x y:Operand} {a b:Bool} (hx:ev E x=some (.bool a)) (hy:ev E y=some (.bool b)) (ht:P.underlying t=some .bool):AE P ⟨none, .binOp .neq t x y t',ty, "",#[],none⟩ E L (.bool (!(a==b))):=
 fun _ _ ha _=>Ya (ha x _ hx) (ha y _ hy) rfl rfl (I4 ht)
theorem AE.ptreq {t t' e:TypeId} {x y:Operand} {a:Option Addr} (hx:ev E x=some (.pointer a)) (hy:ev E y=some (.pointer none)) (ht:P.underlying t=some (.pointer e)):AE P ⟨none, .binOp .eql t x y t',ty, "",#[],none⟩ E L (.bool a.isNone):=
 fun _ _ ha _=>SZ (ha x _ hx) (ha y _ hy) rfl rfl (KL ht)
theorem AE.ptrne {t t' e:TypeId} {x y:Operand} {a:Option Addr} (hx:ev E x=some (.pointer a)) (hy:ev E y=some (.pointer none)) (ht:P.underlying t=some (.pointer e)):AE P ⟨none, .binOp .neq t x y t',ty, "",#[],none⟩ E L (.bool (!a.isNone)):=
 fun _ _ ha _=>Ya (ha x _ hx) (ha y _ hy) rfl rfl (KL ht)
/-! Strings. -/
theorem AE.streq {t t':TypeId} {x y:Operand} {a b:List UInt8} (hx:ev E x=some (AF a)) (hy:ev E y=some (AF b)):AE P ⟨none, .binOp .eql t x y t',ty, "",#[],none⟩ E L (.bool (decide (a=b))):=by
 intro ρ w ha _
 simp [execOp,ha x _ hx,ha y _ hy,eqGuard,binOp,Op.stringOp,Bind.bind,Sem.bind,Pure.pure,Sem.run]
 by_cases h:a=b<;>simp [h]
theorem AE.strne {t t':TypeId} {x y:Operand} {a b:List UInt8} (hx:ev E x=some (AF a)) (hy:ev E y=some (AF b)):AE P ⟨none, .binOp .neq t x y t',ty, "",#[],none⟩ E L (.bool (!decide (a=b))):=by
 intro ρ w ha _
 simp [execOp,ha x _ hx,ha y _ hy,eqGuard,binOp,Op.stringOp,Bind.bind,Sem.bind,Pure.pure,Sem.run]
 by_cases h:a=b<;>simp [h]
theorem AAj (a b:List UInt8):bs a++bs b=bs (a++b):=by
 apply ByteArray.ext;simp
theorem Bz (a:List UInt8):(bs a).size=a.length:=by show a.toArray.size=_;exact size_toArray
theorem PM (a:List UInt8) (i j:Nat):(bs a).extract i j=bs ((a.take j).drop i):=by
 apply ByteArray.ext;rw [ByteArray.data_extract];simp only [extract_toArray,extract_eq_take_drop,drop_take]
theorem AE.concat {t t':TypeId} {x y:Operand} {a b:List UInt8} (hx:ev E x=some (AF a)) (hy:ev E y=some (AF b)) (hl:(a.length:Int)+b.length≤9223372036854775807):
  AE P ⟨none, .binOp .add t x y t',ty, "",#[],none⟩ E L (AF (a++b)):=by
 intro ρ w ha _
 have h1:¬((((bs a).size+(bs b).size:Nat)):Int)>IntKind.i64.max:=by
  rw [Bz,Bz,show IntKind.i64.max=9223372036854775807 from by decide];omega
 show (do pure (Next.value (←(do eqGuard .add t x y (ρ x) (ρ y);binOp .add t (ρ x) (ρ y)))):Sem Next).run P w=_
 rw [ha x _ hx,ha y _ hy]
 refine Bn ?_
 have h2:binOp .add t (AF a) (AF b)=pure (AF (a++b)):=by
  show (if ((((bs a).size+(bs b).size:Nat)):Int)>IntKind.i64.max then unsupported _ else pure (.string (bs a++bs b)):Sem Value)=_
  rw [if_neg h1,AAj]
 rw [h2];rfl
theorem CR {b:Builtin} {xs:Array Operand} {ts:Array TypeId} {ρ:Operand→Value}:execOp ρ ⟨none, .call {callee:= .builtin b,args:=xs,argTypes:=ts},ty, "",#[],none⟩=
  builtin b ts ty (xs.map fun| .const _=>true|_=>false) (xs.map ρ):=rfl
theorem AE.strlen {t:TypeId} {x:Operand} {a:List UInt8} {ts:Array TypeId} (hx:ev E x=some (AF a)) (ht:P.underlying t=some .string) (hts:ts= #[t]):
  AE P ⟨none, .call {callee:= .builtin .len,args:= #[x],argTypes:=ts},ty, "",#[],none⟩ E L (.int .i64 (a.length:Int)):=by
 intro ρ w ha _
 subst hts
 rw [CR]
 refine Bn ?_
 simp only [map_toArray,map_cons,map_nil]
 rw [ha x _ hx]
 unfold Builtin.len_
 simp only [List.getElem?_toArray,List.getElem?_cons_zero]
 rw [run_bind (AN ht)]
 show Result.ok (goInt (bs a).size) w=_
 rw [Bz];rfl
theorem AE.slen {t:TypeId} {x:Operand} {a:Option Addr} {n c:Nat} {e:TypeId} {ts:Array TypeId} (hx:ev E x=some (.slice a n c)) (ht:P.underlying t=some (.slice e)) (hts:ts= #[t]):
  AE P ⟨none, .call {callee:= .builtin .len,args:= #[x],argTypes:=ts},ty, "",#[],none⟩ E L (.int .i64 (n:Int)):=by
 intro ρ w ha _
 subst hts
 rw [CR]
 refine Bn ?_
 simp only [map_toArray,map_cons,map_nil]
 rw [ha x _ hx]
 unfold Builtin.len_
 simp only [List.getElem?_toArray,List.getElem?_cons_zero]
 rw [run_bind (AN ht)];rfl
theorem AE.extract {x:Operand} {vs:List Value} {i:Nat} {v:Value} (hx:ev E x=some (.tuple vs.toArray)) (hi:vs[i]?=some v):AE P ⟨none, .extract x i,ty, "",#[],none⟩ E L v:=by
 intro ρ w ha _
 simp [execOp,ha x _ hx,Instr.extract,hi,Bind.bind,Sem.bind,Pure.pure,Sem.run]
theorem AE.strIndex {t:TypeId} {x y:Operand} {a:List UInt8} {k:IntKind} {i:Int} {c:UInt8} (hx:ev E x=some (AF a)) (hy:ev E y=some (.int k i)) (ht:P.underlying t=some .string)
  (h0:0≤i) (hc:a[i.toNat]?=some c):AE P ⟨none, .index t x y,ty, "",#[],none⟩ E L (Co c):=by
 intro ρ w ha _
 obtain ⟨hlt,hce⟩:=List.getElem?_eq_some_iff.1 hc
 have:(bs a)[i.toNat]?=some c:=by
  rw [getElem?_def]
  simp [Bz,hlt]
  exact hce
 simp [execOp,ha x _ hx,ha y _ hy,Instr.index,asIntOf,underlying,program,ht,h0,this,Bind.bind,Sem.bind,Pure.pure,Sem.run]
theorem AE.indexAddr {t:TypeId} {x y:Operand} {b off n c e sz by':Nat} {k:IntKind} {i:Int} (hx:ev E x=some (.slice (some ⟨b,off,none⟩) n c)) (hy:ev E y=some (.int k i)) (ht:Au P t=some (e,sz,by'))
  (h0:0≤i∧i<n):AE P ⟨none, .indexAddr t x y,ty, "",#[],none⟩ E L (.pointer (some ⟨b,off+i.toNat*sz,none⟩)):=by
 intro ρ w ha _
 unfold Au at ht
 split at ht<;>(try cases ht)
 rename_i e' hu
 split at ht<;>(try cases ht)
 rename_i inf hin
 simp [execOp,ha x _ hx,ha y _ hy,Instr.indexAt,asIntOf,underlying,program,hu,h0,sizeOf,typeInfo,hin,Addr.add_eq,Bind.bind,Sem.bind,Pure.pure,Sem.run]
theorem DV {s:Bool} {n c:Nat} {lo hi:Option Value} {i j:Int} (hlo:lo=some (.int .i64 i)∨(lo=none∧i=0)) (hhi:hi=some (.int .i64 j)∨(hi=none∧j=n)) (hb:0≤i∧i≤j∧j≤c):
  (Instr.sliceBounds s n c lo hi none).run P w= .ok (i.toNat,j.toNat,c) w:=by
 obtain ⟨h0,h1,h2⟩:=hb
 have hj:0≤j:=by omega
 have h1':i≤(j.toNat:Int):=by omega
 have h3:max j 0=j:=by omega
 rcases hlo with rfl|⟨rfl,rfl⟩<;>rcases hhi with rfl|⟨rfl,rfl⟩<;>
  simp [Instr.sliceBounds,Instr.sliceBound,asIntOf,Bind.bind,Sem.bind,Pure.pure,Sem.run,h0,h1,h2,hj,h3]
theorem Mm {ρ:Operand→Value} (ha:KV E ρ) {lo:Option Operand} {i z:Int} (h:match lo with|none=>i=z|some y=>ev E y=some (.int .i64 i)):lo.map ρ=some (.int .i64 i)∨(lo.map ρ=none∧i=z):=by
 cases lo with
 |none=>exact .inr ⟨rfl,h⟩
 |some y=>exact .inl (by simp [ha y _ h])
theorem AE.strSlice {t:TypeId} {x:Operand} {lo hi:Option Operand} {a:List UInt8} {i j:Int} (hx:ev E x=some (AF a)) (ht:P.underlying t=some .string)
  (hlo:match lo with|none=>i=0|some y=>ev E y=some (.int .i64 i)) (hhi:match hi with|none=>j=a.length|some y=>ev E y=some (.int .i64 j))
  (hb:0≤i∧i≤j∧j≤a.length):AE P ⟨none, .slice t x lo hi none,ty, "",#[],none⟩ E L (AF ((a.take j.toNat).drop i.toNat)):=by
 intro ρ w ha _
 refine Bn ?_
 show (Instr.sliceAt t (ρ x) (lo.map ρ) (hi.map ρ) none).run P w=_
 rw [ha x _ hx]
 unfold Instr.sliceAt
 rw [run_bind (AN ht)]
 show (Instr.slice t (AF a) (lo.map ρ) (hi.map ρ) none).run P w=_
 unfold Instr.slice
 rw [run_bind (AN ht)]
 show (do let (l,h,_) ←Instr.sliceBounds false (bs a).size (bs a).size (lo.map ρ) (hi.map ρ) none;pure (.string ((bs a).extract l h)):Sem Value).run P w=_
 rw [run_bind (DV (i:=i) (j:=j) (Mm ha hlo) (Mm ha (by simpa [Bz] using hhi)) (by rw [Bz];exact hb))]
 show Result.ok (Value.string ((bs a).extract i.toNat j.toNat)) w=_
 rw [PM]
theorem AE.strTo {t:TypeId} {x y:Operand} {a:List UInt8} {j:Int} (hx:ev E x=some (AF a)) (hy:ev E y=some (.int .i64 j)) (ht:P.underlying t=some .string) (hb:0≤j∧j≤a.length):
  AE P ⟨none, .slice t x none (some y) none,ty, "",#[],none⟩ E L (AF (a.take j.toNat)):=by
 have:=AE.strSlice (P:=P) (L:=L) (ty:=ty) (lo:=none) (hi:=some y) (i:=0) (j:=j) hx ht rfl hy ⟨Int.le_refl _,hb.1,hb.2⟩
 simpa using this
theorem AE.strFrom {t:TypeId} {x y:Operand} {a:List UInt8} {i:Int} (hx:ev E x=some (AF a)) (hy:ev E y=some (.int .i64 i)) (ht:P.underlying t=some .string) (hb:0≤i∧i≤a.length):
  AE P ⟨none, .slice t x (some y) none none,ty, "",#[],none⟩ E L (AF (a.drop i.toNat)):=by
 have:=AE.strSlice (P:=P) (L:=L) (ty:=ty) (lo:=some y) (hi:=none) (i:=i) (j:=a.length) hx ht hy rfl ⟨hb.1,hb.2,Int.le_refl _⟩
 simpa using this
theorem AE.strMid {t:TypeId} {x y z:Operand} {a:List UInt8} {i j:Int} (hx:ev E x=some (AF a)) (hy:ev E y=some (.int .i64 i)) (hz:ev E z=some (.int .i64 j)) (ht:P.underlying t=some .string) (hb:0≤i∧i≤j∧j≤a.length):
  AE P ⟨none, .slice t x (some y) (some z) none,ty, "",#[],none⟩ E L (AF ((a.take j.toNat).drop i.toNat)):=
 AE.strSlice (lo:=some y) (hi:=some z) hx ht hy hz hb
theorem AE.slSlice {t:TypeId} {x:Operand} {lo hi:Option Operand} {b off n c e sz by':Nat} {i j:Int} (hx:ev E x=some (.slice (some ⟨b,off,none⟩) n c)) (ht:Au P t=some (e,sz,by'))
  (hlo:match lo with|none=>i=0|some y=>ev E y=some (.int .i64 i)) (hhi:match hi with|none=>j=n|some y=>ev E y=some (.int .i64 j))
  (hb:0≤i∧i≤j∧j≤c):AE P ⟨none, .slice t x lo hi none,ty, "",#[],none⟩ E L
   (.slice (some (if c=i.toNat then ⟨b,off,none⟩ else ⟨b,off+i.toNat*sz,none⟩)) (j.toNat-i.toNat) (c-i.toNat)):=by
 intro ρ w ha _
 unfold Au at ht
 split at ht<;>(try cases ht)
 rename_i e' hu
 split at ht<;>(try cases ht)
 rename_i inf hin
 refine Bn ?_
 show (Instr.sliceAt t (ρ x) (lo.map ρ) (hi.map ρ) none).run P w=_
 rw [ha x _ hx]
 unfold Instr.sliceAt
 rw [run_bind (AN hu)]
 show (Instr.slice t (.slice (some ⟨b,off,none⟩) n c) (lo.map ρ) (hi.map ρ) none).run P w=_
 unfold Instr.slice
 rw [run_bind (AN hu)]
 show (do let (l,h,m) ←Instr.sliceBounds true n c (lo.map ρ) (hi.map ρ) none;let size ←sizeOf e;pure (.slice (if m=l then some ⟨b,off,none⟩ else (some ⟨b,off,none⟩:Option Addr).map (·.add (l*size))) (h-l) (m-l)):Sem Value).run P w=_
 rw [run_bind (DV (i:=i) (j:=j) (Mm ha hlo) (Mm ha hhi) hb)]
 show (do let size ←sizeOf e;pure (.slice (if c=i.toNat then some ⟨b,off,none⟩ else (some ⟨b,off,none⟩:Option Addr).map (·.add (i.toNat*size))) (j.toNat-i.toNat) (c-i.toNat)):Sem Value).run P w=_
 rw [run_bind (Be (k:=inf.size) (by simp [Ab,hin]))]
 simp only [Option.map_some,Addr.add_eq,run_pure]
 split<;>rfl
theorem AE.conv {s d:TypeId} {x:Operand} {k k':IntKind} {a:Int} {de:TypeDesc} (hx:ev E x=some (.int k' a)) (hs:P.underlying s=some de) (hd:P.underlying d=some (.int k)):
  AE P ⟨none, .convert s d x,ty, "",#[],none⟩ E L (.int k (k.wrap a)):=by
 intro ρ w ha _
 simp [execOp,ha x _ hx,convert,underlying,program,hs,hd,Conv.intToInt,Bind.bind,Sem.bind,Pure.pure,Sem.run]
theorem AE.func {fn:Go.Fn} {xs ys:Array Operand} {us vs:List Value} (hx:xs.toList.map (ev E)=us.map some) (hy:ys.toList.map (ev E)=vs.map some):
    AE P ⟨none, .makeFunc fn xs ys,ty, "",#[],none⟩ E L (.func fn us.toArray vs.toArray):=by
  intro ρ w ha _
  have:∀(l:List Operand) (us:List Value),l.map (ev E)=us.map some→l.map ρ=us:=by
    intro l
    induction l with
    |nil=>intro us h;cases us with
      |nil=>rfl
      |cons u us=>simp at h
    |cons x l ih=>intro us h;cases us with
      |nil=>simp at h
      |cons u us=>
        simp only [map_cons,List.cons.injEq] at h ⊢
        exact ⟨ha _ _ h.1,ih us h.2⟩
  have h1:xs.map ρ=us.toArray:=by apply Array.ext';rw [Array.toList_map];exact this _ _ hx
  have h2:ys.map ρ=vs.toArray:=by apply Array.ext';rw [Array.toList_map];exact this _ _ hy
  simp [execOp,Instr.makeFunc,h1,h2,Bind.bind,Sem.bind,Pure.pure,Sem.run]
end
def AB:Value→Bool
 | .agg _=>false
 | .tuple _=>false
 |_=>true
theorem ER {v:Value} (h:AB v=true):v.cells= #[v]:=by cases v<;>first|rfl|cases h
def CX (l:List Value) (off:Nat) (vs:List Value):List Value:=l.take off++vs++l.drop (off+vs.length)
theorem WS {l:List Value} {off:Nat} {vs:List Value} (h:off+vs.length≤l.length):(CX l off vs).length=l.length:=by
 simp [CX];omega
theorem AFu {l:List Value} {off:Nat} {v:Value} (h:off<l.length):CX l off [v]=l.set off v:=by
 simp [CX,set_eq_take_append_cons_drop,h]
theorem AEY {l:List Value} {off:Nat} {v:Value} {vs:List Value} (h:off+(v::vs).length≤l.length):CX l off (v::vs)=CX (l.set off v) (off+1) vs:=by
 have hlt:off<l.length:=by simp at h;omega
 simp only [CX]
 have e1:(l.set off v).take (off+1)=l.take off++[v]:=by
  apply ext_getElem?
  intro i
  simp only [List.getElem?_take,List.getElem?_append,List.getElem?_set,length_take]
  rw [Nat.min_eq_left (Nat.le_of_lt hlt)]
  by_cases h1:i<off
  ·rw [if_pos h1,if_pos (by omega),if_neg (by omega),if_pos h1]
  ·by_cases h2:i=off
   ·subst h2;simp [hlt]
   ·rw [if_neg (by omega),if_neg h1]
    have:i-off≠0:=by omega
    simp [this]
 have e2:(l.set off v).drop (off+1+vs.length)=l.drop (off+(v::vs).length):=by
  rw [drop_set_of_lt (by omega)];congr 1;simp;omega
 rw [e1,e2];simp
section
variable {P:Program} {E:Bi} {L R:List HP} {ty:TypeId} {w:World}
def upd (w:World) (b:Nat) (o:Obj):World:={w with heap:=w.heap.setIfInBounds b o}
theorem SD {b:Nat} {o o':Obj} (h:w.heap[b]?=some o):(upd w b o').heap[b]?=some o':=by
 have:b<w.heap.size:=by
  rcases Nat.lt_or_ge b w.heap.size with h1|h1
  ·exact h1
  ·rw [Array.getElem?_eq_none h1] at h;cases h
 simp [upd,this]
theorem AFw {b:Nat} {o o':Obj}:upd (upd w b o) b o'=upd w b o':=by
 simp [upd]
theorem ACS {b:Nat} {o:Obj} (h:w.heap[b]?=some o):upd w b o=w:=by
 have:w.heap.setIfInBounds b o=w.heap:=by
  apply Array.ext_getElem?
  intro i
  by_cases hi:b=i
  ·subst hi
   have hlt:b<w.heap.size:=by
    rcases Nat.lt_or_ge b w.heap.size with h1|h1
    ·exact h1
    ·rw [Array.getElem?_eq_none h1] at h;cases h
   rw [Array.getElem?_setIfInBounds_self_of_lt hlt,h]
  ·rw [Array.getElem?_setIfInBounds_ne hi]
 simp [upd,this]
theorem St.upd {b:Nat} {o o':Obj} (h:St (Go.Proofs.YtbhkloaagkkioaaGreatDoor.pt b o::L) w):St (Go.Proofs.YtbhkloaagkkioaaGreatDoor.pt b o'::L) (Go.Proofs.YtbhkloaagkkioaaGreatDoor.upd w b o'):=h.set
theorem As.upd (w:World) (b:Nat) (o:Obj):As w (Go.Proofs.YtbhkloaagkkioaaGreatDoor.upd w b o):=As.set w b o
def V5 (fr:Nat×Nat) (off n:Nat):Prop:= ∀i,off≤i→i<off+n→¬(fr.1≤i∧i<fr.2)
theorem Bd (off n:Nat):V5 (0,0) off n:=fun _ _ _ h=>by simp at h
theorem ABI {b off:Nat} {l:List Value} {T:TypeId} {fr:Nat×Nat} {v:Value} (hb:w.heap[b]?=some (.cells l.toArray T fr)) (hc:off<l.length) (hv:AB v=true) (hf:V5 fr off 1):
  (store ⟨b,off,none⟩ v).run P w= .ok () (upd w b (.cells (l.set off v).toArray T fr)):=by
 have hcell:w.cell? ⟨b,off,none⟩=some (l[off]):=Ni hb (List.getElem?_eq_getElem hc)
 have hfr:w.frozen? ⟨b,off,none⟩=false:=by
  have:=hf off (Nat.le_refl _) (by omega)
  simp only [World.frozen?,hb]
  cases e:(decide (fr.1≤off)&&decide (off<fr.2)) with
  |false=>rfl
  |true=>simp at e;exact absurd e this
 have hw:w.setCell ⟨b,off,none⟩ v=upd w b (.cells (l.set off v).toArray T fr):=by
  have:w.heap.modify b (fun| .cells c elem frozen=> .cells (if Option.isSome (none:Option Nat) then c else c.setIfInBounds off v) elem frozen|o=>o)=w.heap.setIfInBounds b (.cells (l.set off v).toArray T fr):=by
   apply Array.ext_getElem?
   intro i
   rw [Array.getElem?_modify]
   by_cases hi:b=i
   ·subst hi
    have hlt:b<w.heap.size:=by
     rcases Nat.lt_or_ge b w.heap.size with h|h
     ·exact h
     ·rw [Array.getElem?_eq_none h] at hb;cases hb
    rw [if_pos rfl,hb,Array.getElem?_setIfInBounds_self_of_lt hlt]
    simp
   ·rw [if_neg hi,Array.getElem?_setIfInBounds_ne hi]
  unfold World.setCell upd
  rw [←this];rfl
 have:(store ⟨b,off,none⟩ v).run P w= .ok () (w.setCell ⟨b,off,none⟩ v):=by
  cases v<;>first|(simp [AB] at hv;done)|simp [store,Sem.run,hcell,hfr]
 rw [this,hw]
theorem Do {b:Nat} {T:TypeId} {fr:Nat×Nat}:∀(vs:List Value) (w:World) (l:List Value) (off i:Nat),w.heap[b]?=some (.cells l.toArray T fr)→off+i+vs.length≤l.length→(∀v∈vs,AB v=true)→V5 fr (off+i) vs.length→
  (storeCells ⟨b,off,none⟩ vs i).run P w= .ok () (upd w b (.cells (CX l (off+i) vs).toArray T fr)):=by
 intro vs
 induction vs with
 |nil=>
  intro w l off i hb _ _ _
  have:CX l (off+i) []=l:=by simp [CX]
  rw [this,ACS hb];rfl
 |cons v vs ih=>
  intro w l off i hb hlen hv hf
  simp only [length_cons] at hlen
  unfold storeCells
  rw [Addr.add_eq,run_bind (ABI hb (by omega) (hv v (by simp)) (fun j h1 h2=>hf j h1 (by simp only [length_cons];omega)))]
  rw [ih _ (l.set (off+i) v) off (i+1) (SD hb) (by simp;omega) (fun u hu=>hv u (by simp [hu])) (fun j h1 h2=>hf j (by omega) (by simp only [length_cons];omega))]
  rw [AFw,AEY (by simp only [length_cons];omega)]
  rfl
theorem ADu {s:Sem Unit} {w':World} (h:s.run P w= .ok () w'):(do s;pure Next.skip:Sem Next).run P w= .ok .skip w':=by
 rw [run_bind h];rfl
theorem AO.store {t:TypeId} {x y:Operand} {b off:Nat} {l:List Value} {T:TypeId} {fr:Nat×Nat} {v:Value} (hx:ev E x=some (.pointer (some ⟨b,off,none⟩))) (hy:ev E y=some v)
  (hv:AB v=true) (ht:Ab P t=some 1) (hc:off<l.length) (hf:V5 fr off 1):
  AO P ⟨none, .store t x y,ty, "",#[],none⟩ E [pt b (.cells l.toArray T fr)] fun _ L'=>L'=[pt b (.cells (l.set off v).toArray T fr)]:=by
 intro ρ w F ha hs
 have hb:w.heap[b]?=some (.cells l.toArray T fr):=St.pt (L:=F) hs
 have hr:(execOp ρ ⟨none, .store t x y,ty, "",#[],none⟩).run P w= .ok .skip (Go.Proofs.YtbhkloaagkkioaaGreatDoor.upd w b (.cells (l.set off v).toArray T fr)):=by
  refine ADu ?_
  show (Instr.storeAt t (ρ x) (ρ y)).run P w=_
  rw [ha x _ hx,ha y _ hy]
  show (storeVar t ⟨b,off,none⟩ v).run P w=_
  unfold storeVar
  rw [run_bind (Be ht),ER hv]
  simp only [size_toArray,length_cons,length_nil]
  have:=Do (P:=P) [v] w l off 0 hb (by simp;omega) (by simp [hv]) (by simpa using hf)
  rw [Nat.add_zero,AFu hc] at this
  simpa using this
 unfold DC;rw [hr]
 exact ⟨_,rfl,St.upd (L:=F) hs,As.upd _ _ _⟩
theorem AO.storeA {t:TypeId} {x y:Operand} {b off:Nat} {l vs:List Value} {T:TypeId} {fr:Nat×Nat} (hx:ev E x=some (.pointer (some ⟨b,off,none⟩))) (hy:ev E y=some (.agg vs.toArray))
  {k:Nat} (hv:∀v∈vs,AB v=true) (ht:Ab P t=some k) (hk:vs.length=k) (hc:off+vs.length≤l.length) (hf:V5 fr off vs.length):
  AO P ⟨none, .store t x y,ty, "",#[],none⟩ E [pt b (.cells l.toArray T fr)] fun _ L'=>L'=[pt b (.cells (CX l off vs).toArray T fr)]:=by
 subst hk
 intro ρ w F ha hs
 have hb:w.heap[b]?=some (.cells l.toArray T fr):=St.pt (L:=F) hs
 have hr:(execOp ρ ⟨none, .store t x y,ty, "",#[],none⟩).run P w= .ok .skip (Go.Proofs.YtbhkloaagkkioaaGreatDoor.upd w b (.cells (CX l off vs).toArray T fr)):=by
  refine ADu ?_
  show (Instr.storeAt t (ρ x) (ρ y)).run P w=_
  rw [ha x _ hx,ha y _ hy]
  show (storeVar t ⟨b,off,none⟩ (.agg vs.toArray)).run P w=_
  unfold storeVar
  rw [run_bind (Be ht)]
  simp only [Value.cells,size_toArray,ne_eq,not_true_eq_false,if_false]
  have:=Do (P:=P) vs w l off 0 hb (by omega) hv (by simpa using hf)
  simpa using this
 unfold DC;rw [hr]
 exact ⟨_,rfl,St.upd (L:=F) hs,As.upd _ _ _⟩
theorem C7 (e:TypeId) (l:Array Value):(newRow e l).run P w= .ok ⟨w.heap.size,0,none⟩ {w with heap:=w.heap.push (.cells l e)}:=rfl
theorem FD {t:TypeId} {v:Value} (h:Ah P t=some v):(zeroValue t).run P w= .ok v w:=by
 unfold Ah at h
 cases hi:P.info? t with
 |none=>simp [hi] at h
 |some i=>
  simp [hi] at h
  simp [zeroValue,typeInfo,program,Bind.bind,Sem.bind,Pure.pure,Sem.run,hi,h]
theorem AO.newCells {op:Op} {l:List Value} {T:TypeId} (h:∀ρ w,KV E ρ→(execOp ρ ⟨none,op,ty, "",#[],none⟩).run P w= .ok (.value (AD w.heap.size)) {w with heap:=w.heap.push (.cells l.toArray T)}):
  AO P ⟨none,op,ty, "",#[],none⟩ E [] fun v L'=> ∃b,v=AD b∧L'=[AW b l T]:=by
 intro ρ w F ha hs
 unfold DC;rw [h ρ w ha]
 exact ⟨_,⟨_,rfl,rfl⟩,St.new (L:=F) hs _,As.new _ _⟩
theorem AO.box {t:TypeId} {x:Operand} {v:Value} (hx:ev E x=some v):AO P ⟨none, .box t x,ty, "",#[],none⟩ E [] fun u L'=> ∃b,u=AD b∧L'=[AW b v.cells.toList t]:=
 AO.newCells fun ρ w ha=>by
  refine Bn ?_
  show (Instr.box t (ρ x)).run P w=_
  rw [ha x _ hx]
  unfold Instr.box newVar
  rw [run_bind (C7 _ _)];rfl
theorem AO.alloc {t:TypeId} {v:Value} (hz:Ah P t=some v):AO P ⟨none, .alloc t,ty, "",#[],none⟩ E [] fun u L'=> ∃b,u=AD b∧L'=[AW b v.cells.toList t]:=
 AO.newCells fun ρ w ha=>by
  refine Bn ?_
  show (Instr.alloc t true (.tuple #[])).run P w=_
  unfold Instr.alloc
  rw [run_bind (FD hz)]
  show (do pure (.pointer (some (←newVar t v))):Sem Value).run P w=_
  unfold newVar
  rw [run_bind (C7 _ _)];rfl
theorem AO.makeMap {t:TypeId} {k e:TypeId} (ht:P.underlying t=some (.map k e)):AO P ⟨none, .makeMap t none,ty, "",#[],none⟩ E [] fun u L'=> ∃b,u= .map (some b)∧L'=[pt b (.map #[] 0)]:=by
 intro ρ w F ha hs
 have:(execOp ρ ⟨none, .makeMap t none,ty, "",#[],none⟩).run P w= .ok (.value (.map (some w.heap.size))) {w with heap:=w.heap.push (.map #[] 0)}:=by
  refine Bn ?_
  show (Instr.makeMap t none).run P w=_
  unfold Instr.makeMap
  rfl
 unfold DC;rw [this]
 exact ⟨_,⟨_,rfl,rfl⟩,St.new (L:=F) hs _,As.new _ _⟩
end
abbrev EF:=Nat→Option Value
def DM (d:Option Nat) (v:Value) (e:EF):EF:=
 match d with
 |some d=>fun t=>if t=d then some v else e t
 |none=>e
def evF (e:EF):Operand→Option Value
 | .tmp t=>e t
 | .const v=>some v
 | .global g=>some (.pointer (some ⟨g,0,none⟩))
 | .func f=>some (.func (.func f) #[] #[])
def AgF (e:EF) (ρ:Operand→Value):Prop:= ∀x v,evF e x=some v→ρ x=v
structure PH (n:Nat) (ds:List Deferred) (e:EF) (a:Act):Prop where
 size:a.tmps.size=n
 defers:a.defers=ds
 slots:∀t v,e t=some v→a.tmps[t]?=some v
theorem PH.agrees {n:Nat} {ds:List Deferred} {e:EF} {a:Act} (h:PH n ds e a):AgF e a.eval:=by
 intro x v hv
 cases x with
 |tmp t=>simp only [evF] at hv;simp [Act.eval,h.slots t v hv]
 |const c=>simpa [evF,Act.eval] using hv
 |global g=>simpa [evF,Act.eval] using hv
 |func f=>simpa [evF,Act.eval] using hv
theorem PH.put {n:Nat} {ds:List Deferred} {e:EF} {a:Act} (h:PH n ds e a) {dst:Option Nat} (hd:CL dst n=true) (v:Value):
  PH n ds (DM dst v e) (a.put dst v):=by
 cases dst with
 |none=>exact h
 |some d=>
  have hd':d<n:=by simpa [CL,Nat.blt_eq] using hd
  refine ⟨by simpa [Act.put] using h.size,h.defers,fun t u hu=>?_⟩
  simp only [DM] at hu
  by_cases hk:t=d
  ·subst hk;simp at hu;subst hu;simp [Act.put,h.size,hd']
  ·rw [if_neg hk] at hu
   simpa [Act.put,Array.getElem?_setIfInBounds,Ne.symm hk] using h.slots t u hu
theorem Mi {e:EF} {d d':Option Nat} {v v':Value} (h:∀t,d=some t→d'≠some t):DM d v (DM d' v' e)=DM d' v' (DM d v e):=by
 cases d with
 |none=>rfl
 |some d=>
  cases d' with
  |none=>rfl
  |some d'=>
   have hne:d≠d':=fun he=>h d rfl (he▸rfl)
   funext t
   simp only [DM]
   by_cases h1:t=d
   ·subst h1;simp [hne]
   ·by_cases h2:t=d'
    ·subst h2;simp [h1]
    ·simp [h1,h2]
theorem Fd (d:Nat) (v:Value) (E:Bi):look ((d,v)::E)=DM (some d) v (look E):=by
 funext t
 simp only [look,DM]
 by_cases h:t=d
 ·subst h;simp
 ·have:Nat.beq d t=false:=by
   cases e:Nat.beq d t with
   |false=>rfl
   |true=>exact absurd (Nat.eq_of_beq_eq_true e).symm h
  simp [this,h]
theorem DW (d:Option Nat) (v:Value) (E:Bi):look (FL d v E)=DM d v (look E):=by
 cases d with
 |none=>rfl
 |some d=>exact Fd d v E
theorem ACi (E:Bi) (x:Operand):ev E x=evF (look E) x:=by cases x<;>rfl
section
variable (P:Program) (ops:Array Oper) (n:Nat) (RO:List HP) (H:List Nat) (I:List HP→Prop) (Fin:EF→List HP→Prop)
def D9 (o:Oper) (e:EF) (pre:List HP) (K:Value→List HP→Prop):Prop:=
 ∀ρ w F,AgF e ρ→St (pre++F) w→DC P o ρ w fun v w'=> ∃L',K v L'∧St (L'++F) w'∧As w w'
def Ic (o:Oper) (e:EF) (pre:List HP) (K:Value→List HP→Prop):Prop:=
 ∀ρ w F,AgF e ρ→St (pre++(RO++F)) w→DC P o ρ w fun v w'=> ∃L',K v L'∧St (L'++(RO++F)) w'∧As w w'
def GL (o:Oper) (e:EF) (L:List HP) (v:Value):Prop:=D9 P o e L fun u L'=>u=v∧L'=L
def Ar (S:List Nat) (i:Nat):Bool:=
 match ops[i]? with
 |some o=>o.after.all fun e=> !Region.binds .any e|| !S.contains e.on
 |none=>false
def FT (o:Oper) (j:Nat):Bool:=o.after.any fun e=>Region.binds .any e&&e.on==j
def D2:Bool:=
 (List.range ops.size).all fun i=>(ops[i]?).any fun oi=>
  (oi.after.all fun e=>Nat.blt e.on ops.size)&&(match oi.op with| .select .. =>false|_=>true)&&
  (List.range i).all fun j=>(ops[j]?).any fun oj=>FT oi j||FT oj i||(oj.apart ops oi&&oi.apart ops oj)
def Ee (j:Nat) (S A:List Nat):Bool:=
 (A.all fun i=>S.contains i&&(ops[i]?).any fun o=>o.after.any fun e=>Region.binds .any e&&(e.on==j||A.contains e.on))&&
 (S.all fun h=> !H.contains h||A.contains h)
def Cv (o:Oper) (e:EF):Prop:=o.guard=none∨∃j b t,o.guard=some (j,b)∧CO ops j=some t∧e t=some (.bool b)
def Dy (o:Oper) (e:EF):Prop:= ∃j b t u,o.guard=some (j,b)∧CO ops j=some t∧e t=some u∧(u= .bool (!b)∨u=undef)
def Mq (o:Oper) (e:EF) (L:List HP) (v:Value):Prop:=(Cv ops o e∧GL P o e L v)∨(Dy ops o e∧v=undef)
inductive D:List Nat→EF→List HP→Prop
 |done {e:EF} {RW:List HP}:Fin e RW→D [] e RW
 |quiet {j:Nat} {S:List Nat} {e:EF} {RW:List HP} {o:Oper} {v:Value}:ops[j]?=some o→Ar ops (j::S) j=true→CL o.dst n=true→
   Mq P ops o e RO v→D S (DM o.dst v e) RW→D (j::S) e RW
 |quietW {j:Nat} {S:List Nat} {e:EF} {RW:List HP} {o:Oper} {v:Value} (A:List Nat):ops[j]?=some o→Ar ops (j::S) j=true→CL o.dst n=true→
   Ee ops H j S A=true→Mq P ops o e (RO++RW) v→D S (DM o.dst v e) RW→D (j::S) e RW
 |heavy {S:List Nat} {e:EF} {RW:List HP} (o:Nat→Oper) (pre F:Nat→List HP) (K:Nat→Value→List HP→Prop):
   (∃i,i∈S∧Ar ops S i=true)→
   (∀i,i∈S→Ar ops S i=true→H.contains i=true∧ops[i]?=some (o i)∧Cv ops (o i) e∧CL (o i).dst n=true∧A4 (pre i) RW (F i)∧Ic P RO (o i) e (pre i) (K i))→
   (∀i,i∈S→Ar ops S i=true→∀v L',K i v L'→I (L'++F i))→
   (∀i,i∈S→Ar ops S i=true→∀v L',K i v L'→D (S.erase i) (DM (o i).dst v e) (L'++F i))→D S e RW
 |stable {j:Nat} {S:List Nat} {e:EF} {RW:List HP} {o:Oper} {v:Value}:ops[j]?=some o→Ar ops (j::S) j=true→CL o.dst n=true→
   I RW→(∀RW',I RW'→Mq P ops o e (RO++RW') v)→D S (DM o.dst v e) RW→D (j::S) e RW
end
def Ym:List HP→Prop:=fun _=>True
section
variable {P:Program} {ops:Array Oper} {n:Nat} {RO:List HP} {H:List Nat} {I:List HP→Prop} {Fin:EF→List HP→Prop}
theorem Ch {S:List Nat} {i j:Nat} {o:Oper} (ho:ops[i]?=some o) (hr:Ar ops S i=true) (hj:j∈S):FT o j=false:=by
 simp only [Ar,ho,Array.all_eq_true'] at hr
 cases he:FT o j with
 |false=>rfl
 |true=>
  simp only [FT,Array.any_eq_true'] at he
  obtain ⟨e,hm,he⟩:=he
  have:=hr e hm
  simp at he
  obtain ⟨hb,hon⟩:=he
  simp [hb,hon,hj] at this
theorem Ef {S S':List Nat} {i:Nat} (hs:∀x,x∈S'→x∈S) (hr:Ar ops S i=true):Ar ops S' i=true:=by
 unfold Ar at hr ⊢
 cases ho:ops[i]? with
 |none=>rw [ho] at hr;cases hr
 |some o=>
  rw [ho] at hr
  simp only [Array.all_eq_true'] at hr ⊢
  intro e hm
  have:=hr e hm
  simp only [Bool.or_eq_true,Bool.not_eq_true',contains_eq_mem,decide_eq_false_iff_not] at this ⊢
  exact this.imp id (fun h hx=>h (hs _ hx))
theorem JH (hd:D2 ops=true) {i j:Nat} {oi oj:Oper} (hi:ops[i]?=some oi) (hj:ops[j]?=some oj) (hne:i≠j) (h1:FT oi j=false) (h2:FT oj i=false):
  oj.apart ops oi=true∧oi.apart ops oj=true:=by
 have lt:∀{k:Nat} {o:Oper},ops[k]?=some o→k<ops.size:=fun {k o} h=>by
  rcases Nat.lt_or_ge k ops.size with h'|h'
  ·exact h'
  ·rw [Array.getElem?_eq_none h'] at h;cases h
 have key:∀{i j:Nat} {oi oj:Oper},ops[i]?=some oi→ops[j]?=some oj→j<i→FT oi j=false→FT oj i=false→oj.apart ops oi=true∧oi.apart ops oj=true:=by
  intro i j oi oj hi hj hlt h1 h2
  unfold D2 at hd
  have a:=all_eq_true.1 hd i (mem_range.2 (lt hi))
  simp only [hi,Option.any_some,Bool.and_eq_true] at a
  have b:=all_eq_true.1 a.2 j (mem_range.2 hlt)
  simp only [hj,Option.any_some,h1,h2,Bool.false_or,Bool.and_eq_true] at b
  exact b
 rcases Nat.lt_or_gt_of_ne hne with h|h
 ·exact (key hj hi h h2 h1).symm
 ·exact key hi hj h h1 h2
theorem Dx (hd:D2 ops=true) {i:Nat} {o:Oper} (hi:ops[i]?=some o):∀cs b,o.op≠ .select cs b:=by
 have hlt:i<ops.size:=by
  rcases Nat.lt_or_ge i ops.size with h'|h'
  ·exact h'
  ·rw [Array.getElem?_eq_none h'] at hi;cases hi
 unfold D2 at hd
 have a:=all_eq_true.1 hd i (mem_range.2 hlt)
 simp only [hi,Option.any_some,Bool.and_eq_true] at a
 intro cs b he
 have:=a.1.2
 rw [he] at this
 cases this
theorem Rt (hd:D2 ops=true) {i:Nat} {o:Oper} (hi:ops[i]?=some o) {e:Edge} (he:e∈o.after):e.on<ops.size:=by
 have hlt:i<ops.size:=by
  rcases Nat.lt_or_ge i ops.size with h'|h'
  ·exact h'
  ·rw [Array.getElem?_eq_none h'] at hi;cases hi
 unfold D2 at hd
 have a:=all_eq_true.1 hd i (mem_range.2 hlt)
 simp only [hi,Option.any_some,Bool.and_eq_true,Array.all_eq_true'] at a
 simpa [Nat.blt_eq] using a.1.1 e he
theorem Rf {o:Oper} {x:Operand} {t:Nat} (hx:x∈o.op.operands) (ht:x= .tmp t):t∈o.looksAt ops:=by
 subst ht
 exact mem_append_left _ (mem_filterMap.2 ⟨.tmp t,by simpa using hx,rfl⟩)
def rho (t:Nat) (u:Value) (ρ:Operand→Value):Operand→Value
 | .tmp s=>if s=t then u else ρ (.tmp s)
 |x=>ρ x
theorem Sj {t:Nat} {u:Value} {ρ:Operand→Value} {x:Operand} (h:x≠ .tmp t):rho t u ρ x=ρ x:=by
 cases x with
 |tmp s=>exact if_neg (fun hs=>h (by rw [hs]))
 |const c=>rfl
 |global g=>rfl
 |func f=>rfl
theorem AgF.swap {o:Oper} (hs:∀cs b,o.op≠ .select cs b) {e:EF} {d:Option Nat} {u:Value} (hd:∀t,d=some t→t∉o.looksAt ops) {ρ:Operand→Value} (ha:AgF e ρ):
  ∃ρ',AgF (DM d u e) ρ'∧execOp ρ' o=execOp ρ o:=by
 cases d with
 |none=>exact ⟨ρ,ha,rfl⟩
 |some t=>
  refine ⟨rho t u ρ,fun x v hv=>?_,execOp_congr o hs fun x hx=>Sj (fun h=>hd t rfl (Rf hx h))⟩
  cases x with
  |tmp s=>
   simp only [evF,DM] at hv
   by_cases hst:s=t
   ·subst hst;simp at hv;simp [rho,hv]
   ·rw [if_neg hst] at hv
    rw [Sj (fun h=>hst (by injection h))];exact ha _ _ hv
  |const c=>exact ha (.const c) _ hv
  |global g=>exact ha (.global g) _ hv
  |func f=>exact ha (.func f) _ hv
theorem AgF.drop {o:Oper} (hs:∀cs b,o.op≠ .select cs b) {e:EF} {d:Option Nat} {u:Value} (hd:∀t,d=some t→t∉o.looksAt ops) {ρ:Operand→Value} (ha:AgF (DM d u e) ρ):
  ∃ρ',AgF e ρ'∧execOp ρ' o=execOp ρ o:=by
 cases d with
 |none=>exact ⟨ρ,ha,rfl⟩
 |some t=>
  refine ⟨rho t ((e t).getD undef) ρ,fun x v hv=>?_,execOp_congr o hs fun x hx=>Sj (fun h=>hd t rfl (Rf hx h))⟩
  cases x with
  |tmp s=>
   simp only [evF] at hv
   by_cases hst:s=t
   ·subst hst;simp [rho,hv]
   ·rw [Sj (fun h=>hst (by injection h))]
    exact ha (.tmp s) v (by simp [evF,DM,hst,hv])
  |const c=>exact ha (.const c) _ hv
  |global g=>exact ha (.global g) _ hv
  |func f=>exact ha (.func f) _ hv
theorem D9.take {o:Oper} (hs:∀cs b,o.op≠ .select cs b) {e:EF} {d:Option Nat} {u:Value} (hd:∀t,d=some t→t∉o.looksAt ops) {pre:List HP} {K:Value→List HP→Prop} (h:D9 P o (DM d u e) pre K):D9 P o e pre K:=by
 intro ρ w F ha hst
 obtain ⟨ρ',ha',he⟩:=AgF.swap hs hd (u:=u) ha
 have:=h ρ' w F ha' hst
 unfold DC at this ⊢
 rw [←he];exact this
theorem Ic.take {o:Oper} (hs:∀cs b,o.op≠ .select cs b) {e:EF} {d:Option Nat} {u:Value} (hd:∀t,d=some t→t∉o.looksAt ops) {pre:List HP} {K:Value→List HP→Prop} (h:Ic P RO o (DM d u e) pre K):Ic P RO o e pre K:=by
 intro ρ w F ha hst
 obtain ⟨ρ',ha',he⟩:=AgF.swap hs hd (u:=u) ha
 have:=h ρ' w F ha' hst
 unfold DC at this ⊢
 rw [←he];exact this
theorem D9.give {o:Oper} (hs:∀cs b,o.op≠ .select cs b) {e:EF} {d:Option Nat} {u:Value} (hd:∀t,d=some t→t∉o.looksAt ops) {pre:List HP} {K:Value→List HP→Prop} (h:D9 P o e pre K):D9 P o (DM d u e) pre K:=by
 intro ρ w F ha hst
 obtain ⟨ρ',ha',he⟩:=AgF.drop hs hd ha
 have:=h ρ' w F ha' hst
 unfold DC at this ⊢
 rw [←he];exact this
theorem GL.more {o:Oper} {e:EF} {L L':List HP} {v:Value} (h:GL P o e L v):GL P o e (L++L') v:=by
 intro ρ w F ha hs
 rw [append_assoc] at hs
 refine (h ρ w (L'++F) ha hs).mono ?_
 rintro u w' ⟨_,⟨rfl,rfl⟩,hs',hk⟩
 exact ⟨_,⟨rfl,rfl⟩,by rw [append_assoc];exact hs',hk⟩
theorem H5 {o:Oper} {j:Nat} {b:Bool} {t:Nat} (hg:o.guard=some (j,b)) (ht:CO ops j=some t):t∈o.looksAt ops:=by
 unfold CO at ht
 simp [Oper.looksAt,hg,ht]
theorem Jm {e:EF} {d:Option Nat} {u:Value} {t:Nat} (h:∀s,d=some s→s≠t):DM d u e t=e t:=by
 cases d with
 |none=>rfl
 |some s=>simp [DM,Ne.symm (h s rfl)]
theorem Cv.iff {o:Oper} {e:EF} {d:Option Nat} {u:Value} (hd:∀t,d=some t→t∉o.looksAt ops):Cv ops o (DM d u e)↔Cv ops o e:=by
 unfold Cv
 refine or_congr Iff.rfl ⟨?_,?_⟩
 ·rintro ⟨j,b,t,h1,h2,h3⟩
  exact ⟨j,b,t,h1,h2,by rwa [Jm (fun s hs hst=>hd s hs (hst▸H5 h1 h2))] at h3⟩
 ·rintro ⟨j,b,t,h1,h2,h3⟩
  exact ⟨j,b,t,h1,h2,by rwa [Jm (fun s hs hst=>hd s hs (hst▸H5 h1 h2))]⟩
theorem Dy.iff {o:Oper} {e:EF} {d:Option Nat} {u:Value} (hd:∀t,d=some t→t∉o.looksAt ops):Dy ops o (DM d u e)↔Dy ops o e:=by
 unfold Dy
 refine ⟨?_,?_⟩
 ·rintro ⟨j,b,t,u,h1,h2,h3,h4⟩
  exact ⟨j,b,t,u,h1,h2,by rwa [Jm (fun s hs hst=>hd s hs (hst▸H5 h1 h2))] at h3,h4⟩
 ·rintro ⟨j,b,t,u,h1,h2,h3,h4⟩
  exact ⟨j,b,t,u,h1,h2,by rwa [Jm (fun s hs hst=>hd s hs (hst▸H5 h1 h2))],h4⟩
theorem Mq.take {o:Oper} (hs:∀cs b,o.op≠ .select cs b) {e:EF} {d:Option Nat} {u:Value} (hd:∀t,d=some t→t∉o.looksAt ops) {L:List HP} {v:Value} (h:Mq P ops o (DM d u e) L v):Mq P ops o e L v:=
 h.imp (fun ⟨a,b⟩=>⟨(Cv.iff hd).1 a,D9.take hs hd b⟩) (fun ⟨a,b⟩=>⟨(Dy.iff hd).1 a,b⟩)
theorem Mq.give {o:Oper} (hs:∀cs b,o.op≠ .select cs b) {e:EF} {d:Option Nat} {u:Value} (hd:∀t,d=some t→t∉o.looksAt ops) {L:List HP} {v:Value} (h:Mq P ops o e L v):Mq P ops o (DM d u e) L v:=
 h.imp (fun ⟨a,b⟩=>⟨(Cv.iff hd).2 a,D9.give hs hd b⟩) (fun ⟨a,b⟩=>⟨(Dy.iff hd).2 a,b⟩)
theorem Mq.more {o:Oper} {e:EF} {L L':List HP} {v:Value} (h:Mq P ops o e L v):Mq P ops o e (L++L') v:=
 h.imp (fun ⟨a,b⟩=>⟨a,b.more⟩) id
def AI8 (P:Program) (ops:Array Oper) (n:Nat) (RO:List HP) (H:List Nat) (I:List HP→Prop) (Fin:EF→List HP→Prop) (S:List Nat) (e:EF) (RW:List HP) (i:Nat):Prop:=
 (∃o v,ops[i]?=some o∧CL o.dst n=true∧Mq P ops o e (RO++RW) v∧D P ops n RO H I Fin (S.erase i) (DM o.dst v e) RW)∨
 (∃o pre F K,H.contains i=true∧ops[i]?=some o∧Cv ops o e∧CL o.dst n=true∧A4 pre RW F∧Ic P RO o e pre K∧∀v L',K v L'→I (L'++F)∧D P ops n RO H I Fin (S.erase i) (DM o.dst v e) (L'++F))
theorem D.step (hd:D2 ops=true) {S:List Nat} {e:EF} {RW:List HP} (h:D P ops n RO H I Fin S e RW):S.Nodup→∀i,i∈S→Ar ops S i=true→AI8 P ops n RO H I Fin S e RW i:=by
 induction h with
 |done _=>intro _ i hi;cases hi
 | @quiet j S e RW o v ho hr hds ha hD ih=>
  intro hn i hi hri
  by_cases hij:i=j
  ·subst hij
   exact .inl ⟨o,v,ho,hds,ha.more,by simpa using hD⟩
  ·have hiS:i∈S:=(mem_cons.1 hi).resolve_left hij
   have hn':=(nodup_cons.1 hn)
   obtain ⟨oi,hoi⟩:∃oi,ops[i]?=some oi:=by
    unfold Ar at hri
    cases hx:ops[i]? with
    |none=>rw [hx] at hri;cases hri
    |some x=>exact ⟨x,rfl⟩
   have e1:FT oi j=false:=Ch hoi hri (by simp)
   have e2:FT o i=false:=Ch ho hr hi
   obtain ⟨ap1,ap2⟩:=JH hd hoi ho hij e1 e2
   obtain ⟨p1,p2,p3⟩:=Oper.apart_spec ap1
   have er:(j::S).erase i=j::S.erase i:=erase_cons_tail (by simp [Ne.symm hij])
   have rest:∀(u:Value) (RW':List HP),D P ops n RO H I Fin (S.erase i) (DM oi.dst u (DM o.dst v e)) RW'→D P ops n RO H I Fin ((j::S).erase i) (DM oi.dst u e) RW':=by
    intro u RW' hx
    rw [er]
    refine D.quiet ho (Ef (fun x hx=>?_) hr) hds (ha.give (Dx hd ho) (fun t ht=>p3 t ht)) ?_
    ·rcases mem_cons.1 hx with h|h
     ·exact h▸mem_cons_self
     ·exact mem_cons_of_mem _ (mem_of_mem_erase h)
    ·rw [Mi (fun t h1 h2=>p2 t h1 h2)];exact hx
   rcases ih hn'.2 i hiS (Ef (fun x hx=>mem_cons_of_mem _ hx) hri) with ⟨o',u,ho',hd',ha',hD'⟩|⟨o',pre,F,K,hH,ho',hg,hd',hp,hspec,hD'⟩
   ·obtain rfl:oi=o':=by rw [hoi] at ho';injection ho'
    exact .inl ⟨oi,u,hoi,hd',ha'.take (Dx hd hoi) (fun t ht=>p1 t ht),rest _ _ hD'⟩
   ·obtain rfl:oi=o':=by rw [hoi] at ho';injection ho'
    exact .inr ⟨oi,pre,F,K,hH,hoi,(Cv.iff (fun t ht=>p1 t ht)).1 hg,hd',hp,hspec.take (Dx hd hoi) (fun t ht=>p1 t ht),fun u L' hu=>⟨(hD' u L' hu).1,rest _ _ (hD' u L' hu).2⟩⟩
 | @quietW j S e RW o v A ho hr hds hw ha hD ih=>
  intro hn i hi hri
  by_cases hij:i=j
  ·subst hij
   exact .inl ⟨o,v,ho,hds,ha,by simpa using hD⟩
  ·have hiS:i∈S:=(mem_cons.1 hi).resolve_left hij
   have hn':=(nodup_cons.1 hn)
   obtain ⟨oi,hoi⟩:∃oi,ops[i]?=some oi:=by
    unfold Ar at hri
    cases hx:ops[i]? with
    |none=>rw [hx] at hri;cases hri
    |some x=>exact ⟨x,rfl⟩
   have e1:FT oi j=false:=Ch hoi hri (by simp)
   have e2:FT o i=false:=Ch ho hr hi
   obtain ⟨ap1,ap2⟩:=JH hd hoi ho hij e1 e2
   obtain ⟨p1,p2,p3⟩:=Oper.apart_spec ap1
   have er:(j::S).erase i=j::S.erase i:=erase_cons_tail (by simp [Ne.symm hij])
   simp only [Ee,Bool.and_eq_true] at hw
   have hiA:i∉A:=by
    intro hA
    have:=all_eq_true.1 hw.1 i hA
    simp only [hoi,Option.any_some,Bool.and_eq_true,Array.any_eq_true'] at this
    obtain ⟨-,ed,hm,hb⟩:=this
    simp only [Bool.and_eq_true,Bool.or_eq_true,beq_iff_eq] at hb
    obtain ⟨hb,hon⟩:=hb
    have hin:ed.on∈j::S:=by
     rcases hon with hon|hon
     ·rw [hon];simp
     ·have hc:=all_eq_true.1 hw.1 ed.on (by simpa using hon)
      simp only [Bool.and_eq_true] at hc
      exact mem_cons_of_mem _ (by simpa using hc.1)
    have:=Ch hoi hri hin
    have ht:FT oi ed.on=true:=by
     simp only [FT,Array.any_eq_true']
     exact ⟨ed,hm,by simp [hb]⟩
    rw [ht] at this;cases this
   have hw':Ee ops H j (S.erase i) A=true:=by
    simp only [Ee,Bool.and_eq_true]
    refine ⟨all_eq_true.2 fun x hx=>?_,all_eq_true.2 fun x hx=>all_eq_true.1 hw.2 x (mem_of_mem_erase hx)⟩
    have hc:=all_eq_true.1 hw.1 x hx
    simp only [Bool.and_eq_true] at hc ⊢
    refine ⟨?_,hc.2⟩
    have:x≠i:=fun h=>hiA (h▸hx)
    simpa [mem_erase_of_ne this] using hc.1
   have hiH:H.contains i=false:=by
    have:=all_eq_true.1 hw.2 i hiS
    simp only [Bool.or_eq_true,Bool.not_eq_true'] at this
    exact this.resolve_right (by simpa using hiA)
   have rest:∀(u:Value),D P ops n RO H I Fin (S.erase i) (DM oi.dst u (DM o.dst v e)) RW→D P ops n RO H I Fin ((j::S).erase i) (DM oi.dst u e) RW:=by
    intro u hx
    rw [er]
    refine D.quietW A ho (Ef (fun x hx=>?_) hr) hds hw' (ha.give (Dx hd ho) (fun t ht=>p3 t ht)) ?_
    ·rcases mem_cons.1 hx with h|h
     ·exact h▸mem_cons_self
     ·exact mem_cons_of_mem _ (mem_of_mem_erase h)
    ·rw [Mi (fun t h1 h2=>p2 t h1 h2)];exact hx
   rcases ih hn'.2 i hiS (Ef (fun x hx=>mem_cons_of_mem _ hx) hri) with ⟨o',u,ho',hd',ha',hD'⟩|⟨o',pre,F,K,hH,ho',hg,hd',hp,hspec,hD'⟩
   ·obtain rfl:oi=o':=by rw [hoi] at ho';injection ho'
    exact .inl ⟨oi,u,hoi,hd',ha'.take (Dx hd hoi) (fun t ht=>p1 t ht),rest _ hD'⟩
   ·rw [hiH] at hH;cases hH
 |heavy o pre F K _ h1 h2 h3 _=>
  intro _ i hi hri
  obtain ⟨a,b,c,d,f,g⟩:=h1 i hi hri
  exact .inr ⟨o i,pre i,F i,K i,a,b,c,d,f,g,fun v L' hv=>⟨h2 i hi hri v L' hv,h3 i hi hri v L' hv⟩⟩
 | @stable j S e RW o v ho hr hds hI ha hD ih=>
  intro hn i hi hri
  by_cases hij:i=j
  ·subst hij
   exact .inl ⟨o,v,ho,hds,ha RW hI,by simpa using hD⟩
  ·have hiS:i∈S:=(mem_cons.1 hi).resolve_left hij
   have hn':=(nodup_cons.1 hn)
   obtain ⟨oi,hoi⟩:∃oi,ops[i]?=some oi:=by
    unfold Ar at hri
    cases hx:ops[i]? with
    |none=>rw [hx] at hri;cases hri
    |some x=>exact ⟨x,rfl⟩
   have e1:FT oi j=false:=Ch hoi hri (by simp)
   have e2:FT o i=false:=Ch ho hr hi
   obtain ⟨ap1,ap2⟩:=JH hd hoi ho hij e1 e2
   obtain ⟨p1,p2,p3⟩:=Oper.apart_spec ap1
   have er:(j::S).erase i=j::S.erase i:=erase_cons_tail (by simp [Ne.symm hij])
   have rest:∀(u:Value) (RW':List HP),I RW'→D P ops n RO H I Fin (S.erase i) (DM oi.dst u (DM o.dst v e)) RW'→D P ops n RO H I Fin ((j::S).erase i) (DM oi.dst u e) RW':=by
    intro u RW' hI' hx
    rw [er]
    refine D.stable ho (Ef (fun x hx=>?_) hr) hds hI' (fun RW'' h=>(ha RW'' h).give (Dx hd ho) (fun t ht=>p3 t ht)) ?_
    ·rcases mem_cons.1 hx with h|h
     ·exact h▸mem_cons_self
     ·exact mem_cons_of_mem _ (mem_of_mem_erase h)
    ·rw [Mi (fun t h1 h2=>p2 t h1 h2)];exact hx
   rcases ih hn'.2 i hiS (Ef (fun x hx=>mem_cons_of_mem _ hx) hri) with ⟨o',u,ho',hd',ha',hD'⟩|⟨o',pre,F,K,hH,ho',hg,hd',hp,hspec,hD'⟩
   ·obtain rfl:oi=o':=by rw [hoi] at ho';injection ho'
    exact .inl ⟨oi,u,hoi,hd',ha'.take (Dx hd hoi) (fun t ht=>p1 t ht),rest _ _ hI hD'⟩
   ·obtain rfl:oi=o':=by rw [hoi] at ho';injection ho'
    exact .inr ⟨oi,pre,F,K,hH,hoi,(Cv.iff (fun t ht=>p1 t ht)).1 hg,hd',hp,hspec.take (Dx hd hoi) (fun t ht=>p1 t ht),fun u L' hu=>⟨(hD' u L' hu).1,rest _ _ (hD' u L' hu).1 (hD' u L' hu).2⟩⟩
theorem D.some_ready {S:List Nat} {e:EF} {RW:List HP} (h:D P ops n RO H I Fin S e RW):S=[]∧Fin e RW∨∃i,i∈S∧Ar ops S i=true:=by
 cases h with
 |done h=>exact .inl ⟨rfl,h⟩
 |quiet _ hr=>exact .inr ⟨_,mem_cons_self,hr⟩
 |quietW _ _ hr=>exact .inr ⟨_,mem_cons_self,hr⟩
 |heavy _ _ _ _ hx=>exact .inr hx
 |stable _ hr=>exact .inr ⟨_,mem_cons_self,hr⟩
theorem Pf {o:Oper} {e:EF} {ds:List Deferred} {a:Act} (he:PH n ds e a) (h:Cv ops o e):Region.wanted o (yielded ops a.tmps)=true:=by
 rcases h with h|⟨j,b,t,h1,h2,h3⟩
 ·simp [Region.wanted,h]
 ·have:yielded ops a.tmps j=some b:=by
   unfold yielded
   rw [show ((ops[j]?).bind (·.dst))=some t from h2]
   simp [he.slots t _ h3]
  simp [Region.wanted,h1,this]
theorem V2 {o:Oper} {e:EF} {ds:List Deferred} {a:Act} (he:PH n ds e a) (h:Dy ops o e):Region.wanted o (yielded ops a.tmps)=false:=by
 obtain ⟨j,b,t,u,h1,h2,h3,h4⟩:=h
 rcases h4 with rfl|rfl
 ·have:yielded ops a.tmps j=some (!b):=by
   unfold yielded
   rw [show ((ops[j]?).bind (·.dst))=some t from h2]
   simp [he.slots t _ h3]
  simp only [Region.wanted,h1,this]
  cases b<;>rfl
 ·have:yielded ops a.tmps j=none:=by
   unfold yielded
   rw [show ((ops[j]?).bind (·.dst))=some t from h2]
   simp [he.slots t _ h3,undef]
  simp only [Region.wanted,h1,this]
  cases b<;>rfl
def GD (ops:Array Oper) (y x:Nat):Bool:=(ops[y]?).any fun o=>FT o x
def Lj (ops:Array Oper) (S R:List Nat):List Nat:=S.foldr (fun x R=>if R.contains x||R.any (fun y=>GD ops y x) then x::R else R) R
def X5 (ops:Array Oper) (S T:List Nat):Bool:=
 T.all fun t=>T.any (fun u=>GD ops t u)||S.all fun x=>(Lj ops S (S.filter fun y=>GD ops t y)).contains x
theorem Zq {S0 U0:List Nat} (hcl:∀y∈S0,y∉U0→∀x∈U0,GD ops y x=false):∀(S R:List Nat),(∀x∈S,x∈S0)→(∀y∈R,y∈S0∧y∉U0)→∀y∈Lj ops S R,y∈S0∧y∉U0:=by
 intro S
 induction S with
 |nil=>exact fun R _ hR y hy=>hR y hy
 |cons x S ih=>
  intro R hS hR y hy
  have hrec:=ih R (fun z hz=>hS z (mem_cons_of_mem _ hz)) hR
  rw [show Lj ops (x::S) R=(if (Lj ops S R).contains x||(Lj ops S R).any (fun y=>GD ops y x) then x::Lj ops S R else Lj ops S R) from rfl] at hy
  by_cases hc:((Lj ops S R).contains x||(Lj ops S R).any (fun y=>GD ops y x))=true
  ·rw [if_pos hc] at hy
   rcases mem_cons.1 hy with rfl|hy
   ·simp only [Bool.or_eq_true] at hc
    rcases hc with hc|hc
    ·exact hrec _ (by simpa using hc)
    ·obtain ⟨z,hz,he⟩:=any_eq_true.1 hc
     obtain ⟨z1,z2⟩:=hrec z hz
     refine ⟨hS _ mem_cons_self,fun hy0=>?_⟩
     rw [hcl z z1 z2 _ hy0] at he;cases he
   ·exact hrec y hy
  ·rw [if_neg hc] at hy
   exact hrec y hy
theorem GF {U:List Nat} {t x:Nat} (hr:Ar ops U t=true) (hx:x∈U):GD ops t x=false:=by
 unfold GD
 cases ho:ops[t]? with
 |none=>rfl
 |some o=>simpa using Ch ho hr hx
theorem AF7 {S0 T U0:List Nat} (hb:X5 ops S0 T=true) (hcl:∀y∈S0,y∉U0→∀x∈U0,GD ops y x=false) {s t:Nat} (hs:s∈S0) (hs0:s∈U0) (ht:t∈T) (hr:Ar ops (U0++T) t=true):False:=by
 have h1:=all_eq_true.1 hb t ht
 simp only [Bool.or_eq_true] at h1
 rcases h1 with h1|h1
 ·obtain ⟨u,hu,he⟩:=any_eq_true.1 h1
  rw [GF hr (mem_append_right _ hu)] at he;cases he
 ·have h2:=all_eq_true.1 h1 s hs
  have:=Zq hcl S0 (S0.filter fun y=>GD ops t y) (fun _ h=>h) (fun y hy=>by
   obtain ⟨y1,y2⟩:=mem_filter.1 hy
   refine ⟨y1,fun hy0=>?_⟩
   rw [GF hr (mem_append_left _ hy0)] at y2;cases y2) s (by simpa using h2)
  exact this.2 hs0
theorem RY {listed:Array Bool} {U:List Nat} (hd:D2 ops=true) (hlist:∀i,listed.getD i true=false↔i∈U) (hsz:listed.size=ops.size) (i:Nat):
  i∈Region.ready .any ops listed↔(i∈U∧Ar ops U i=true):=by
 simp only [Region.ready,mem_filter,mem_range,Bool.and_eq_true,Bool.not_eq_true']
 constructor
 ·rintro ⟨hlt,h1,h2⟩
  refine ⟨(hlist i).1 h1,?_⟩
  unfold Ar
  cases ho:ops[i]? with
  |none=>rw [ho] at h2;simp at h2
  |some o=>
   rw [ho] at h2
   simp only [Option.map_some,Option.getD_some,Array.all_eq_true'] at h2
   simp only [Array.all_eq_true']
   intro ed hm
   have:=h2 ed hm
   simp only [Bool.or_eq_true,Bool.not_eq_true'] at this ⊢
   refine this.imp id (fun hb=>?_)
   have:ed.on∉U:=fun hc=>by
    have hf:=(hlist ed.on).2 hc
    simp only [Array.getD_eq_getD_getElem?] at hf hb
    cases hx:listed[ed.on]? with
    |none=>rw [hx] at hb;simp at hb
    |some x=>rw [hx] at hb hf;simp at hb hf;rw [hb] at hf;cases hf
   simpa using this
 ·rintro ⟨hi,hr⟩
  have hlt:i<ops.size:=by
   unfold Ar at hr
   rcases Nat.lt_or_ge i ops.size with h|h
   ·exact h
   ·rw [Array.getElem?_eq_none h] at hr;cases hr
  refine ⟨hlt,(hlist i).2 hi,?_⟩
  obtain ⟨o,ho⟩:∃o,ops[i]?=some o:=⟨ops[i],Array.getElem?_eq_getElem hlt⟩
  simp only [Ar,ho,Array.all_eq_true'] at hr
  simp only [ho,Option.map_some,Option.getD_some,Array.all_eq_true']
  intro ed hm
  have:=hr ed hm
  simp only [Bool.or_eq_true,Bool.not_eq_true'] at this ⊢
  refine this.imp id (fun hb=>?_)
  have hb':ed.on∉U:=by simpa using hb
  have hlt2:=Rt hd ho hm
  have hf:listed.getD ed.on true=true:=by
   cases hx:listed.getD ed.on true with
   |true=>rfl
   |false=>exact absurd ((hlist ed.on).1 hx) hb'
  have hlt3:ed.on<listed.size:=by omega
  simp only [Array.getD,hlt3,dif_pos] at hf ⊢
  exact hf
def ACK (ops:Array Oper) (S T:List Nat):Bool:=S.all fun k=>(ops[k]?).any fun o=>o.after.all fun e=> !Region.binds .any e|| !T.contains e.on
theorem Zc {S0 S T:List Nat} (hb:ACK ops S0 T=true) {i:Nat} (hi:i∈S0) (hr:Ar ops S i=true):Ar ops (S++T) i=true:=by
 have h0:=all_eq_true.1 hb i hi
 unfold Ar at hr ⊢
 cases ho:ops[i]? with
 |none=>rw [ho] at hr;cases hr
 |some o=>
  rw [ho] at hr h0
  simp only [Option.any_some,Array.all_eq_true'] at hr h0 ⊢
  intro ed hm
  have h1:=hr ed hm
  have h2:=h0 ed hm
  cases hbi:Region.binds .any ed with
  |false=>rfl
  |true=>
   simp only [hbi,Bool.not_true,Bool.false_or,Bool.not_eq_true',contains_eq_mem,decide_eq_false_iff_not] at h1 h2 ⊢
   rw [mem_append];exact fun h=>h.elim h1 h2
theorem D.sound (hd:D2 ops=true) {W:World} {ds:List Deferred} {Q:Exit→Act→World→Prop} {S0 T:List Nat} (hblk:X5 ops S0 T=true) (hback:ACK ops S0 T=true)
  (hfin:∀e RW a w fuel listed,Fin e RW→T.length≤fuel→(∀i,listed.getD i true=false↔i∈T)→listed.size=ops.size→PH n ds e a→As W w→St (RO++RW) w→wpAny P .any ops Q fuel listed a w):
  ∀(fuel:Nat) (S:List Nat) (e:EF) (RW:List HP) (listed:Array Bool) (a:Act) (w:World),D P ops n RO H I Fin S e RW→(∀x∈S,x∈S0)→
  S.Nodup→(∀x∈S,x∉T)→S.length+T.length≤fuel→(∀i,listed.getD i true=false↔i∈S++T)→listed.size=ops.size→
  PH n ds e a→As W w→St (RO++RW) w→(∀y∈S0,y∉S→∀x∈S,GD ops y x=false)→wpAny P .any ops Q fuel listed a w:=by
 intro fuel
 induction fuel with
 |zero=>
  intro S e RW listed a w hD hS0 hn hdis hl hlist hsz he hk hs hcl
  have hS:S=[]:=length_eq_zero_iff.1 (by omega)
  subst hS
  rcases hD.some_ready with ⟨_,hf⟩|⟨i,hi,_⟩
  ·exact hfin _ _ _ _ _ _ hf (by omega) (by simpa using hlist) hsz he hk hs
  ·cases hi
 |succ fuel ih=>
  intro S e RW listed a w hD hS0 hn hdis hl hlist hsz he hk hs hcl
  rcases hD.some_ready with ⟨hS,hf⟩|⟨i0,hi0,hr0⟩
  ·subst hS
   exact hfin _ _ _ _ _ _ hf (by simpa using hl) (by simpa using hlist) hsz he hk hs
  have mem:=RY hd hlist hsz
  refine ⟨fun hnil=>?_,fun i hi=>?_⟩
  ·have:=(mem i0).2 ⟨by simp [hi0],Zc hback (hS0 _ hi0) hr0⟩
   rw [hnil] at this;cases this
  ·obtain ⟨hiU,hriU⟩:=(mem i).1 hi
   have hiS:i∈S:=by
    rcases mem_append.1 hiU with h|h
    ·exact h
    ·exact (AF7 hblk hcl (hS0 _ hi0) hi0 h hriU).elim
   have hri:Ar ops S i=true:=Ef (fun x hx=>by simp [hx]) hriU
   have hlt:i<listed.size:=by
    have:=(mem_filter.1 hi).1
    rw [hsz];exact mem_range.1 this
   have hiT:i∉T:=hdis i hiS
   have hlist':∀k,(listed.setIfInBounds i true).getD k true=false↔k∈S.erase i++T:=by
    intro k
    by_cases hki:k=i
    ·subst hki
     have:k∉S.erase k:=fun h=>(List.Nodup.mem_erase_iff hn).1 h|>.1 rfl
     simp [Array.getD_eq_getD_getElem?,hlt,this,hiT]
    ·rw [mem_append,mem_erase_of_ne hki,←mem_append,←hlist k]
     simp [Array.getD_eq_getD_getElem?,Array.getElem?_setIfInBounds,Ne.symm hki]
   have hlen:(S.erase i).length+T.length≤fuel:=by
    rw [length_erase_of_mem hiS]
    have:=length_pos_of_mem hiS
    omega
   have hnd:(S.erase i).Nodup:=hn.erase i
   have hsz':(listed.setIfInBounds i true).size=ops.size:=by simpa using hsz
   have hS0':∀x∈S.erase i,x∈S0:=fun x hx=>hS0 x (mem_of_mem_erase hx)
   have hdis':∀x∈S.erase i,x∉T:=fun x hx=>hdis x (mem_of_mem_erase hx)
   have hcl':∀y∈S0,y∉S.erase i→∀x∈S.erase i,GD ops y x=false:=by
    intro y hy hyS x hx
    by_cases hyi:y=i
    ·rw [hyi];exact GF hri (mem_of_mem_erase hx)
    ·exact hcl y hy (fun h=>hyS ((mem_erase_of_ne hyi).2 h)) x (mem_of_mem_erase hx)
   rcases hD.step hd hn i hiS hri with ⟨o,v,ho,hds,ha,hD'⟩|⟨o,pre,F,K,_,ho,hg,hds,hp,hspec,hD'⟩
   ·unfold wpOp
    simp only [ho]
    rcases ha with ⟨hg,hq⟩|⟨hg,rfl⟩
    ·rw [if_pos (Pf he hg)]
     refine .inl ?_
     refine (hq a.eval w [] he.agrees (by rw [append_nil];exact hs)).wp ?_
     rintro u w' ⟨_,⟨rfl,rfl⟩,hs2,hk2⟩
     rw [append_nil] at hs2
     exact ih _ _ _ _ _ _ hD' hS0' hnd hdis' hlen hlist' hsz' (he.put hds _) (hk.trans hk2) hs2 hcl'
    ·rw [if_neg (by rw [V2 he hg];simp)]
     exact ih _ _ _ _ _ _ hD' hS0' hnd hdis' hlen hlist' hsz' (he.put hds _) hk hs hcl'
   ·unfold wpOp
    simp only [ho]
    rw [if_pos (Pf he hg)]
    refine .inl ?_
    have hs':St (pre++(RO++F)) w:=hs.perm (by
     have h1:(RO++RW).Perm (RO++(pre++F)):=List.Perm.append_left _ hp.perm
     refine h1.trans ?_
     rw [←append_assoc,←append_assoc]
     exact List.Perm.append_right _ perm_append_comm)
    refine (hspec a.eval w F he.agrees hs').wp ?_
    rintro v w' ⟨L',hv,hs2,hk2⟩
    refine ih _ _ _ _ _ _ (hD' v L' hv).2 hS0' hnd hdis' hlen hlist' hsz' (he.put hds _) (hk.trans hk2) (hs2.perm ?_) hcl'
    rw [←append_assoc,←append_assoc]
    exact List.Perm.append_right _ perm_append_comm
def R7:List Nat→Bool
 |[]=>true
 |x::xs=> !xs.contains x&&R7 xs
theorem Vi {S:List Nat} (h:R7 S=true):S.Nodup:=by
 induction S with
 |nil=>exact nodup_nil
 |cons x xs ih=>
  simp only [R7,Bool.and_eq_true,Bool.not_eq_true'] at h
  exact nodup_cons.2 ⟨by simpa using h.1,ih h.2⟩
def US (n:Nat) (S:List Nat):Bool:=Nat.beq S.length n&&S.all (fun i=>Nat.blt i n)&&R7 S&&(List.range n).all fun i=>S.contains i
def CC (P:Program) (ops:Array Oper) (n:Nat) (H:List Nat) (W:World) (ds:List Deferred) (X:Act→World→Prop):List (List Nat)→EF→List HP→Prop
 |[],e,L=> ∀a w,PH n ds e a→As W w→St L w→X a w
 |S::Ss,e,L=> ∃(RO RW:List HP) (I:List HP→Prop),A4 RO L RW∧D P ops n RO H I (fun e' RW'=>CC P ops n H W ds X Ss e' (RO++RW')) S e RW
def Mf (ops:Array Oper):List (List Nat)→Bool
 |[]=>true
 |S::Ss=>X5 ops S Ss.flatten&&ACK ops S Ss.flatten&&Mf ops Ss
theorem CC.sound (hd:D2 ops=true) {W:World} {ds:List Deferred} {Q:Exit→Act→World→Prop}:∀(Ss:List (List Nat)),Mf ops Ss=true→Ss.flatten.Nodup→
  ∀(e:EF) (L:List HP) (fuel:Nat) (listed:Array Bool) (a:Act) (w:World),CC P ops n H W ds (Q .normal) Ss e L→Ss.flatten.length≤fuel→(∀i,listed.getD i true=false↔i∈Ss.flatten)→listed.size=ops.size→
  PH n ds e a→As W w→St L w→wpAny P .any ops Q fuel listed a w:=by
 intro Ss
 induction Ss with
 |nil=>
  intro _ _ e L fuel listed a w hP hl hlist hsz he hk hs
  have hq:=hP a w he hk hs
  have hnil:Region.ready .any ops listed=[]:=by
   rw [eq_nil_iff_forall_not_mem]
   intro i hi
   have:=((RY hd hlist hsz i).1 hi).1
   cases this
  cases fuel with
  |zero=>exact ⟨hnil,hq⟩
  |succ fuel=>exact ⟨fun _=>hq,fun i hi=>by rw [hnil] at hi;cases hi⟩
 |cons S Ss ih=>
  intro hc hn e L fuel listed a w hP hl hlist hsz he hk hs
  simp only [Mf,Bool.and_eq_true] at hc
  simp only [flatten_cons] at hn hl hlist
  obtain ⟨RO,RW,I,hL,hD⟩:=hP
  have hn':=nodup_append.1 hn
  refine D.sound hd (RO:=RO) (T:=Ss.flatten) hc.1.1 hc.1.2 (fun e' RW' a' w' fuel' listed' hf hl' hlist' hsz' he' hk' hs'=>?_) fuel S e RW listed a w hD (fun x hx=>hx) hn'.1 (fun x hx hx'=>hn'.2.2 x hx x hx' rfl) (by simpa using hl) hlist hsz he hk (hs.picks hL) (fun y hy hyS=>absurd hy hyS)
  exact ih hc.2 hn'.2.1 e' _ fuel' listed' a' w' hf hl' hlist' hsz' he' hk' hs'
theorem G.draw {W:World} {ds:List Deferred} {Q:Exit→Act→World→Prop} {E:Bi} {L:List HP} {id:Nat} {l:List Oper} (H:List Nat) (Ss:List (List Nat)) (hm:P.follows .mixedOrders=true)
  (hc:(D2 l.toArray&&US l.toArray.size Ss.flatten&&Mf l.toArray Ss)=true)
  (h:CC P l.toArray n H W ds (Q .normal) Ss (look E) L):G W n ds E L ((Code.region id l.toArray true).wp P Q):=by
 intro a w he hk hs
 simp only [Bool.and_eq_true] at hc
 have hp:=hc.1.2
 simp only [US,Bool.and_eq_true,Nat.beq_eq] at hp
 have hlen:Ss.flatten.length=l.toArray.size:=hp.1.1.1
 have hmem:∀i,i∈Ss.flatten↔i<l.toArray.size:=by
  intro i
  constructor
  ·intro hi;have:=all_eq_true.1 hp.1.1.2 i hi;simpa [Nat.blt_eq] using this
  ·intro hi;have:=all_eq_true.1 hp.2 i (mem_range.2 hi);simpa using this
 have hn:Ss.flatten.Nodup:=Vi hp.1.2
 refine wp_region_any hm (CC.sound (H:=H) hc.1.1 Ss hc.2 hn (look E) L _ _ _ _ h (by omega) ?_ (by simp) ⟨he.size,he.defers,he.slots⟩ (hk.trans (As.drew w)) hs.drew)
 intro i
 rw [hmem]
 simp only [Array.getD_eq_getD_getElem?,Array.getElem?_replicate,size_toArray]
 by_cases hlt:i<l.length<;>simp [hlt]
theorem CC.go {W:World} {ds:List Deferred} {X:Act→World→Prop} {e:EF} {L RW:List HP} {S:List Nat} {Ss:List (List Nat)} (RO:List HP) (hL:A4 RO L RW)
  (h:D P ops n RO H Ym (fun e' RW'=>CC P ops n H W ds X Ss e' (RO++RW')) S e RW):CC P ops n H W ds X (S::Ss) e L:=⟨RO,RW,Ym,hL,h⟩
theorem CC.goI {W:World} {ds:List Deferred} {X:Act→World→Prop} {e:EF} {L RW:List HP} {S:List Nat} {Ss:List (List Nat)} (I:List HP→Prop) (RO:List HP) (hL:A4 RO L RW)
  (h:D P ops n RO H I (fun e' RW'=>CC P ops n H W ds X Ss e' (RO++RW')) S e RW):CC P ops n H W ds X (S::Ss) e L:=⟨RO,RW,I,hL,h⟩
theorem D.ph {W:World} {ds:List Deferred} {X:Act→World→Prop} {e:EF} {RW:List HP} {Ss:List (List Nat)} (h:CC P ops n H W ds X Ss e (RO++RW)):
  D P ops n RO H I (fun e' RW'=>CC P ops n H W ds X Ss e' (RO++RW')) [] e RW:= .done h
theorem CC.fin {W:World} {ds:List Deferred} {X:Act→World→Prop} {E:Bi} {L:List HP} (h:G W n ds E L X):CC P ops n H W ds X [] (look E) L:=
 fun a w he hk hs=>h a w ⟨he.size,he.defers,he.slots⟩ hk hs
theorem D9.of {o:Oper} {E:Bi} {pre:List HP} {K:Value→List HP→Prop} (h:AO P ⟨none,o.op,o.type, "",#[],none⟩ E pre K):D9 P o (look E) pre K:=
 fun ρ w F ha hs=>h ρ w F (fun x u hx=>ha x u (by rwa [←ACi])) hs
theorem Ic.own {RO:List HP} {o:Oper} {E:Bi} {pre:List HP} {K:Value→List HP→Prop} (h:AO P ⟨none,o.op,o.type, "",#[],none⟩ E pre K):Ic P RO o (look E) pre K:=
 fun ρ w F ha hs=>h ρ w (RO++F) (fun x u hx=>ha x u (by rwa [←ACi])) hs
theorem GL.of {o:Oper} {E:Bi} {L:List HP} {v:Value} (h:AE P ⟨none,o.op,o.type, "",#[],none⟩ E L v):GL P o (look E) L v:=D9.of h.spec
theorem GL.ofSpec {o:Oper} {E:Bi} {L L0 R:List HP} {v:Value} (h:AO P ⟨none,o.op,o.type, "",#[],none⟩ E L0 fun u L'=>u=v∧L'=L0) (hL:A4 L0 L R):GL P o (look E) L v:=by
 intro ρ w F ha hs
 have hp:(L++F).Perm (L0++(R++F)):=by
  rw [←append_assoc];exact List.Perm.append_right F hL.perm
 refine ((D9.of h) ρ w (R++F) ha (hs.perm hp)).mono ?_
 rintro u w' ⟨_,⟨rfl,rfl⟩,hs',hk⟩
 exact ⟨_,⟨rfl,rfl⟩,hs'.perm hp.symm,hk⟩
section
variable {j:Nat} {S:List Nat} {E:Bi} {RW:List HP} {d:Nat} {op:Op} {ty:TypeId} {pos:String} {aft:Array Edge} {v:Value}
theorem D.q (hi:ops[j]?=some ⟨some d,op,ty,pos,aft,none⟩) (hc:(Ar ops (j::S) j&&Nat.blt d n)=true) (hq:AE P ⟨none,op,ty, "",#[],none⟩ E RO v)
  (h:D P ops n RO H I Fin S (look ((d,v)::E)) RW):D P ops n RO H I Fin (j::S) (look E) RW:=by
 simp only [Bool.and_eq_true] at hc
 exact .quiet hi hc.1 hc.2 (.inl ⟨.inl rfl,GL.of hq⟩) (by rw [Fd] at h;exact h)
theorem D.qw (A:List Nat) (hi:ops[j]?=some ⟨some d,op,ty,pos,aft,none⟩) (hc:(Ar ops (j::S) j&&Nat.blt d n&&Ee ops H j S A)=true) (hq:AE P ⟨none,op,ty, "",#[],none⟩ E (RO++RW) v)
  (h:D P ops n RO H I Fin S (look ((d,v)::E)) RW):D P ops n RO H I Fin (j::S) (look E) RW:=by
 simp only [Bool.and_eq_true] at hc
 exact .quietW A hi hc.1.1 hc.1.2 hc.2 (.inl ⟨.inl rfl,GL.of hq⟩) (by rw [Fd] at h;exact h)
theorem D.gq {k t:Nat} {b:Bool} (hi:ops[j]?=some ⟨some d,op,ty,pos,aft,some (k,b)⟩) (hk:CO ops k=some t) (hl:look E t=some (.bool b)) (hc:(Ar ops (j::S) j&&Nat.blt d n)=true) (hq:AE P ⟨none,op,ty, "",#[],none⟩ E RO v)
  (h:D P ops n RO H I Fin S (look ((d,v)::E)) RW):D P ops n RO H I Fin (j::S) (look E) RW:=by
 simp only [Bool.and_eq_true] at hc
 exact .quiet hi hc.1 hc.2 (.inl ⟨.inr ⟨k,b,t,rfl,hk,hl⟩,GL.of hq⟩) (by rw [Fd] at h;exact h)
theorem D.gqw (A:List Nat) {k t:Nat} {b:Bool} (hi:ops[j]?=some ⟨some d,op,ty,pos,aft,some (k,b)⟩) (hk:CO ops k=some t) (hl:look E t=some (.bool b)) (hc:(Ar ops (j::S) j&&Nat.blt d n&&Ee ops H j S A)=true) (hq:AE P ⟨none,op,ty, "",#[],none⟩ E (RO++RW) v)
  (h:D P ops n RO H I Fin S (look ((d,v)::E)) RW):D P ops n RO H I Fin (j::S) (look E) RW:=by
 simp only [Bool.and_eq_true] at hc
 exact .quietW A hi hc.1.1 hc.1.2 hc.2 (.inl ⟨.inr ⟨k,b,t,rfl,hk,hl⟩,GL.of hq⟩) (by rw [Fd] at h;exact h)
theorem D.m {dd:Option Nat} {L0 R:List HP} (hi:ops[j]?=some ⟨dd,op,ty,pos,aft,none⟩) (hc:(Ar ops (j::S) j&&CL dd n)=true) (hq:AO P ⟨none,op,ty, "",#[],none⟩ E L0 fun u L'=>u=v∧L'=L0) (hL:A4 L0 RO R)
  (h:D P ops n RO H I Fin S (look (FL dd v E)) RW):D P ops n RO H I Fin (j::S) (look E) RW:=by
 simp only [Bool.and_eq_true] at hc
 exact .quiet hi hc.1 hc.2 (.inl ⟨.inl rfl,GL.ofSpec hq hL⟩) (by rw [DW] at h;exact h)
theorem D.gm {dd:Option Nat} {L0 R:List HP} {k t:Nat} {b:Bool} (hi:ops[j]?=some ⟨dd,op,ty,pos,aft,some (k,b)⟩) (hk:CO ops k=some t) (hl:look E t=some (.bool b)) (hc:(Ar ops (j::S) j&&CL dd n)=true) (hq:AO P ⟨none,op,ty, "",#[],none⟩ E L0 fun u L'=>u=v∧L'=L0) (hL:A4 L0 RO R)
  (h:D P ops n RO H I Fin S (look (FL dd v E)) RW):D P ops n RO H I Fin (j::S) (look E) RW:=by
 simp only [Bool.and_eq_true] at hc
 exact .quiet hi hc.1 hc.2 (.inl ⟨.inr ⟨k,b,t,rfl,hk,hl⟩,GL.ofSpec hq hL⟩) (by rw [DW] at h;exact h)
theorem D.mw (A:List Nat) {dd:Option Nat} {L0 R:List HP} (hi:ops[j]?=some ⟨dd,op,ty,pos,aft,none⟩) (hc:(Ar ops (j::S) j&&CL dd n&&Ee ops H j S A)=true) (hq:AO P ⟨none,op,ty, "",#[],none⟩ E L0 fun u L'=>u=v∧L'=L0) (hL:A4 L0 (RO++RW) R)
  (h:D P ops n RO H I Fin S (look (FL dd v E)) RW):D P ops n RO H I Fin (j::S) (look E) RW:=by
 simp only [Bool.and_eq_true] at hc
 exact .quietW A hi hc.1.1 hc.1.2 hc.2 (.inl ⟨.inl rfl,GL.ofSpec hq hL⟩) (by rw [DW] at h;exact h)
theorem D.gs {dd:Option Nat} {k t:Nat} {b c:Bool} (hi:ops[j]?=some ⟨dd,op,ty,pos,aft,some (k,b)⟩) (hk:CO ops k=some t) (hl:look E t=some (.bool c)) (hbc:(c== !b)=true) (hc:(Ar ops (j::S) j&&CL dd n)=true)
  (h:D P ops n RO H I Fin S (look (FL dd undef E)) RW):D P ops n RO H I Fin (j::S) (look E) RW:=by
 simp only [Bool.and_eq_true] at hc
 have:c= !b:=by simpa using hbc
 subst this
 exact .quiet hi hc.1 hc.2 (.inr ⟨⟨k,b,t,_,rfl,hk,hl, .inl rfl⟩,rfl⟩) (by rw [DW] at h;exact h)
theorem D.gsU {dd:Option Nat} {k t:Nat} {b:Bool} (hi:ops[j]?=some ⟨dd,op,ty,pos,aft,some (k,b)⟩) (hk:CO ops k=some t) (hl:look E t=some undef) (hc:(Ar ops (j::S) j&&CL dd n)=true)
  (h:D P ops n RO H I Fin S (look (FL dd undef E)) RW):D P ops n RO H I Fin (j::S) (look E) RW:=by
 simp only [Bool.and_eq_true] at hc
 exact .quiet hi hc.1 hc.2 (.inr ⟨⟨k,b,t,_,rfl,hk,hl, .inr rfl⟩,rfl⟩) (by rw [DW] at h;exact h)
def NG (ops:Array Oper) (j:Nat) (S:List Nat):Bool:=Ar ops (j::S) j&&S.all fun i=>Nat.beq i j|| !Ar ops (j::S) i
theorem D.h {dd:Option Nat} {pre F:List HP} {K:Value→List HP→Prop} (hi:ops[j]?=some ⟨dd,op,ty,pos,aft,none⟩) (hc:(NG ops j S&&H.contains j&&CL dd n)=true) (hp:AO P ⟨none,op,ty, "",#[],none⟩ E pre K) (hL:A4 pre RW F)
  (h:∀v L',K v L'→D P ops n RO H Ym Fin S (look (FL dd v E)) (L'++F)):D P ops n RO H Ym Fin (j::S) (look E) RW:=by
 simp only [Bool.and_eq_true,NG] at hc
 have only :∀i,i∈j::S→Ar ops (j::S) i=true→i=j:=by
  intro i hi hr
  rcases mem_cons.1 hi with rfl|hi
  ·rfl
  ·have:=all_eq_true.1 hc.1.1.2 i hi
   rw [hr] at this
   simpa using this
 refine .heavy (fun _=>⟨dd,op,ty,pos,aft,none⟩) (fun _=>pre) (fun _=>F) (fun _=>K) ⟨j,by simp,hc.1.1.1⟩ ?_ (fun _ _ _ _ _ _=>trivial) ?_
 ·intro i hi' hr
  obtain rfl:=only i hi' hr
  exact ⟨hc.1.2,hi, .inl rfl,hc.2,hL,Ic.own hp⟩
 ·intro i hi' hr v L' hv
  obtain rfl:=only i hi' hr
  have:=h v L' hv
  rw [DW] at this
  simpa using this
def AEy (ops:Array Oper) (j k:Nat) (S:List Nat):Bool:=Ar ops (j::S) j&&Ar ops (j::S) k&&S.contains k&& !Nat.beq k j&&S.all fun i=>Nat.beq i j||Nat.beq i k|| !Ar ops (j::S) i
theorem D.h2 {k:Nat} {dd dk:Option Nat} {op':Op} {ty':TypeId} {pos':String} {aft':Array Edge} {pre F pre' F':List HP} {K K':Value→List HP→Prop} {S2:List Nat} (hi:ops[j]?=some ⟨dd,op,ty,pos,aft,none⟩) (hk:ops[k]?=some ⟨dk,op',ty',pos',aft',none⟩)
  (hc:(AEy ops j k S&&H.contains j&&H.contains k&&CL dd n&&CL dk n)=true) (hS2:(j::S).erase k=S2) (hp:AO P ⟨none,op,ty, "",#[],none⟩ E pre K) (hL:A4 pre RW F) (hp':AO P ⟨none,op',ty', "",#[],none⟩ E pre' K') (hL':A4 pre' RW F')
  (h:∀v L',K v L'→D P ops n RO H Ym Fin S (look (FL dd v E)) (L'++F)) (h':∀v L',K' v L'→D P ops n RO H Ym Fin S2 (look (FL dk v E)) (L'++F')):D P ops n RO H Ym Fin (j::S) (look E) RW:=by
 simp only [Bool.and_eq_true,AEy] at hc
 obtain ⟨⟨⟨⟨⟨⟨⟨⟨c1,c2⟩,c3⟩,c4⟩,c5⟩,c6⟩,c7⟩,c8⟩,c9⟩:=hc
 have hkj:k≠j:=by rintro rfl;simp at c4
 have only :∀i,i∈j::S→Ar ops (j::S) i=true→i=j∨i=k:=by
  intro i hi hr
  rcases mem_cons.1 hi with rfl|hi
  ·exact .inl rfl
  ·have:=all_eq_true.1 c5 i hi
   rw [hr] at this
   simpa using this
 refine .heavy (fun i=>if i=j then ⟨dd,op,ty,pos,aft,none⟩ else ⟨dk,op',ty',pos',aft',none⟩) (fun i=>if i=j then pre else pre') (fun i=>if i=j then F else F') (fun i=>if i=j then K else K') ⟨j,by simp,c1⟩ ?_ (fun _ _ _ _ _ _=>trivial) ?_
 ·intro i hi' hr
  rcases only i hi' hr with rfl|rfl
  ·simp only [if_true]
   exact ⟨c6,hi, .inl rfl,c8,hL,Ic.own hp⟩
  ·simp only [if_neg hkj]
   exact ⟨c7,hk, .inl rfl,c9,hL',Ic.own hp'⟩
 ·intro i hi' hr v L' hv
  rcases only i hi' hr with rfl|rfl
  ·simp only [if_true] at hv ⊢
   have:=h v L' hv
   rw [DW] at this
   simpa using this
  ·simp only [if_neg hkj] at hv ⊢
   have:=h' v L' hv
   rw [DW] at this
   rw [hS2]
   exact this
theorem D.gh {dd:Option Nat} {k t:Nat} {b:Bool} {pre F:List HP} {K:Value→List HP→Prop} (hi:ops[j]?=some ⟨dd,op,ty,pos,aft,some (k,b)⟩) (hk:CO ops k=some t) (hl:look E t=some (.bool b)) (hc:(NG ops j S&&H.contains j&&CL dd n)=true) (hp:AO P ⟨none,op,ty, "",#[],none⟩ E pre K) (hL:A4 pre RW F)
  (h:∀v L',K v L'→D P ops n RO H Ym Fin S (look (FL dd v E)) (L'++F)):D P ops n RO H Ym Fin (j::S) (look E) RW:=by
 simp only [Bool.and_eq_true,NG] at hc
 have only :∀i,i∈j::S→Ar ops (j::S) i=true→i=j:=by
  intro i hi hr
  rcases mem_cons.1 hi with rfl|hi
  ·rfl
  ·have:=all_eq_true.1 hc.1.1.2 i hi
   rw [hr] at this
   simpa using this
 refine .heavy (fun _=>⟨dd,op,ty,pos,aft,some (k,b)⟩) (fun _=>pre) (fun _=>F) (fun _=>K) ⟨j,by simp,hc.1.1.1⟩ ?_ (fun _ _ _ _ _ _=>trivial) ?_
 ·intro i hi' hr
  obtain rfl:=only i hi' hr
  exact ⟨hc.1.2,hi, .inr ⟨k,b,t,rfl,hk,hl⟩,hc.2,hL,Ic.own hp⟩
 ·intro i hi' hr v L' hv
  obtain rfl:=only i hi' hr
  have:=h v L' hv
  rw [DW] at this
  simpa using this
theorem D.hI {dd:Option Nat} {pre F:List HP} {K:Value→List HP→Prop} (hi:ops[j]?=some ⟨dd,op,ty,pos,aft,none⟩) (hc:(NG ops j S&&H.contains j&&CL dd n)=true) (hp:AO P ⟨none,op,ty, "",#[],none⟩ E pre K) (hL:A4 pre RW F)
  (hI:∀v L',K v L'→I (L'++F)) (h:∀v L',K v L'→D P ops n RO H I Fin S (look (FL dd v E)) (L'++F)):D P ops n RO H I Fin (j::S) (look E) RW:=by
 simp only [Bool.and_eq_true,NG] at hc
 have only :∀i,i∈j::S→Ar ops (j::S) i=true→i=j:=by
  intro i hi hr
  rcases mem_cons.1 hi with rfl|hi
  ·rfl
  ·have:=all_eq_true.1 hc.1.1.2 i hi
   rw [hr] at this
   simpa using this
 refine .heavy (fun _=>⟨dd,op,ty,pos,aft,none⟩) (fun _=>pre) (fun _=>F) (fun _=>K) ⟨j,by simp,hc.1.1.1⟩ ?_ ?_ ?_
 ·intro i hi' hr
  obtain rfl:=only i hi' hr
  exact ⟨hc.1.2,hi, .inl rfl,hc.2,hL,Ic.own hp⟩
 ·exact fun i hi' hr v L' hv=>hI v L' hv
 ·intro i hi' hr v L' hv
  obtain rfl:=only i hi' hr
  have:=h v L' hv
  rw [DW] at this
  simpa using this
theorem D.st (hi:ops[j]?=some ⟨some d,op,ty,pos,aft,none⟩) (hc:(Ar ops (j::S) j&&Nat.blt d n)=true) (hI:I RW) (hq:∀RW',I RW'→AE P ⟨none,op,ty, "",#[],none⟩ E (RO++RW') v)
  (h:D P ops n RO H I Fin S (look ((d,v)::E)) RW):D P ops n RO H I Fin (j::S) (look E) RW:=by
 simp only [Bool.and_eq_true] at hc
 exact .stable hi hc.1 hc.2 hI (fun RW' h=> .inl ⟨.inl rfl,GL.of (hq RW' h)⟩) (by rw [Fd] at h;exact h)
def ADS (b:Nat) (T:TypeId) (off:Nat) (v:Value):List HP→Prop:=fun RW=> ∃(l:List Value) (R:List HP),BJ (AW b l T) RW R∧l[off]?=some v
theorem BJ.behind {p:HP} {L R:List HP} (h:BJ p L R):∀A:List HP,BJ p (A++L) (A++R)
 |[]=>h
 |_::A=> .there (h.behind A)
theorem D.stL {b off:Nat} {T t:TypeId} {x:Operand} {l:List Value} {R:List HP} (hi:ops[j]?=some ⟨some d, .load t x,ty,pos,aft,none⟩) (hc:(Ar ops (j::S) j&&Nat.blt d n)=true) (hx:ev E x=some (.pointer (some ⟨b,off,none⟩))) (ht:A9 P t=some none) (hL:BJ (AW b l T) RW R) (hv:l[off]?=some v)
  (h:D P ops n RO H (ADS b T off v) Fin S (look ((d,v)::E)) RW):D P ops n RO H (ADS b T off v) Fin (j::S) (look E) RW:=
 .st hi hc ⟨l,R,hL,hv⟩ (fun RW' ⟨_,_,hp,hv'⟩=>AE.load hx ht (hp.behind RO) hv') h
theorem D.bool {t:Nat} {b:Bool} (hl:look E t=some (.bool b)) (hT:b=true→D P ops n RO H I Fin S (look ((t, .bool true)::E)) RW) (hF:b=false→D P ops n RO H I Fin S (look ((t, .bool false)::E)) RW):D P ops n RO H I Fin S (look E) RW:=by
 have key:look ((t,Value.bool b)::E)=look E:=by
  rw [Fd];funext s;simp only [DM]
  by_cases h:s=t
  ·subst h;rw [if_pos rfl,hl]
  ·rw [if_neg h]
 cases b
 ·rw [←key];exact hF rfl
 ·rw [←key];exact hT rfl
theorem D.kB {t:Nat} {b c:Bool} (hl:look E t=some (.bool b)) (hb:b=c) (h:D P ops n RO H I Fin S (look ((t, .bool c)::E)) RW):D P ops n RO H I Fin S (look E) RW:=by
 subst hb
 exact D.bool hl (fun e=>by subst e;exact h) (fun e=>by subst e;exact h)
theorem D.kDT {t:Nat} {φ:Prop} [Decidable φ] (hl:look E t=some (.bool (decide φ))) (hb:φ) (h:D P ops n RO H I Fin S (look ((t, .bool true)::E)) RW):D P ops n RO H I Fin S (look E) RW:=D.kB hl (decide_eq_true hb) h
theorem D.kDF {t:Nat} {φ:Prop} [Decidable φ] (hl:look E t=some (.bool (decide φ))) (hb:¬φ) (h:D P ops n RO H I Fin S (look ((t, .bool false)::E)) RW):D P ops n RO H I Fin S (look E) RW:=D.kB hl (decide_eq_false hb) h
theorem D.kNT {t:Nat} {φ:Prop} [Decidable φ] (hl:look E t=some (.bool (!decide φ))) (hb:¬φ) (h:D P ops n RO H I Fin S (look ((t, .bool true)::E)) RW):D P ops n RO H I Fin S (look E) RW:=D.kB hl (by simpa using hb) h
theorem D.kNF {t:Nat} {φ:Prop} [Decidable φ] (hl:look E t=some (.bool (!decide φ))) (hb:φ) (h:D P ops n RO H I Fin S (look ((t, .bool false)::E)) RW):D P ops n RO H I Fin S (look E) RW:=D.kB hl (by simpa using hb) h
theorem D.dec {t:Nat} {φ:Prop} [Decidable φ] (hl:look E t=some (.bool (decide φ))) (hT:φ→D P ops n RO H I Fin S (look ((t, .bool true)::E)) RW) (hF:¬φ→D P ops n RO H I Fin S (look ((t, .bool false)::E)) RW):D P ops n RO H I Fin S (look E) RW:=
 D.bool hl (fun e=>hT (of_decide_eq_true e)) (fun e=>hF (of_decide_eq_false e))
theorem D.ndec {t:Nat} {φ:Prop} [Decidable φ] (hl:look E t=some (.bool (!decide φ))) (hT:¬φ→D P ops n RO H I Fin S (look ((t, .bool true)::E)) RW) (hF:φ→D P ops n RO H I Fin S (look ((t, .bool false)::E)) RW):D P ops n RO H I Fin S (look E) RW:=
 D.bool hl (fun e=>hT (by simpa using e)) (fun e=>hF (by simpa using e))
end
end
section
variable {P:Program} {W:World} {n:Nat} {ds:List Deferred} {E:Bi} {L:List HP} {Q:Exit→Act→World→Prop} {next:Act→World→Prop}
theorem G.mv {ops:Array Oper} {d:Nat} {x:Operand} {ty:TypeId} {pos:String} {aft:Array Edge} {rest:List Oper} {v:Value} (hx:ev E x=some v) (hd:Nat.blt d n=true) (h:G W n ds ((d,v)::E) L (wpList P ops Q rest)):G W n ds E L (wpList P ops Q (⟨some d, .move x,ty,pos,aft,none⟩::rest)):=G.q (AE.move hx) hd h
theorem G.ag {ops:Array Oper} {d:Nat} {x:Operand} {ty:TypeId} {pos:String} {aft:Array Edge} {rest:List Oper} {v:Value} (hx:ev E x=some v) (hd:Nat.blt d n=true) (h:G W n ds ((d,v)::E) L (wpList P ops Q rest)):G W n ds E L (wpList P ops Q (⟨some d, .assign x,ty,pos,aft,none⟩::rest)):=G.q (AE.assign hx) hd h
theorem G.oq {ops:Array Oper} {d:Option Nat} {op:Op} {ty:TypeId} {pos:String} {aft:Array Edge} {rest:List Oper} {pre F:List HP} {K:Value→List HP→Prop}
  (hp:AO P ⟨none,op,ty, "",#[],none⟩ E pre K) (h:∀v L',K v L'→G W n ds (FL d v E) (L'++F) (wpList P ops Q rest)) (hL:A4 pre L F:=by repeat' constructor) (hd:CL d n=true:=by rfl):G W n ds E L (wpList P ops Q (⟨d,op,ty,pos,aft,none⟩::rest)):=G.op hp hL hd h
theorem AE.ld {R:List HP} {ty t:TypeId} {x:Operand} {b off:Nat} {l:List Value} {T:TypeId} {fr:Nat×Nat} {v:Value} (hx:ev E x=some (.pointer (some ⟨b,off,none⟩)))
  (hp:A9 P t=some none) (hL:BJ (pt b (.cells l.toArray T fr)) L R:=by repeat' constructor) (hc:l[off]?=some v:=by rfl):AE P ⟨none, .load t x,ty, "",#[],none⟩ E L v:=AE.load hx hp hL hc
theorem G.u {ops:Array Oper} {d:Nat} {op:Op} {ty:TypeId} {pos:String} {aft:Array Edge} {rest:List Oper} {v:Value} (hp:AE P ⟨none,op,ty, "",#[],none⟩ E L v) (h:G W n ds ((d,v)::E) L (wpList P ops Q rest)) (hd:Nat.blt d n=true:=by rfl):G W n ds E L (wpList P ops Q (⟨some d,op,ty,pos,aft,none⟩::rest)):=G.q hp hd h
theorem G.ui {ops:Array Oper} {d:Nat} {op:BinOp} {t t' ty:TypeId} {x y:Operand} {k:IntKind} {a b:Int} {v:Value} {pos:String} {aft:Array Edge} {rest:List Oper} (hx:ev E x=some (.int k a)) (hy:ev E y=some (.int k b)) (hv:PS op k a b=some v) (h:G W n ds ((d,v)::E) L (wpList P ops Q rest)) (hd:Nat.blt d n=true:=by rfl):G W n ds E L (wpList P ops Q (⟨some d, .binOp op t x y t',ty,pos,aft,none⟩::rest)):=G.q (AE.int hx hy hv) hd h
theorem G.m {ops:Array Oper} {d:Nat} {x:Operand} {ty:TypeId} {pos:String} {aft:Array Edge} {rest:List Oper} {v:Value} (hx:ev E x=some v) (h:G W n ds ((d,v)::E) L (wpList P ops Q rest)) (hd:Nat.blt d n=true:=by rfl):G W n ds E L (wpList P ops Q (⟨some d, .move x,ty,pos,aft,none⟩::rest)):=G.q (AE.move hx) hd h
theorem G.a {ops:Array Oper} {d:Nat} {x:Operand} {ty:TypeId} {pos:String} {aft:Array Edge} {rest:List Oper} {v:Value} (hx:ev E x=some v) (h:G W n ds ((d,v)::E) L (wpList P ops Q rest)) (hd:Nat.blt d n=true:=by rfl):G W n ds E L (wpList P ops Q (⟨some d, .assign x,ty,pos,aft,none⟩::rest)):=G.q (AE.assign hx) hd h
theorem G.nt {ops:Array Oper} (h:G W n ds E L next):G W n ds E L (wpList P ops (Exit.then next Q) []):=h
theorem G.sr {id:Nat} {l:List Oper} {y:Code} (h:G W n ds E L (wpList P l.toArray (Exit.then (y.wp P Q) Q) l)):G W n ds E L ((Code.seq (Code.region id l.toArray false) y).wp P Q):=G.seq (G.region h)
theorem G.an {ops:Array Oper} {d:Nat} {x:Operand} {ty:TypeId} {pos:String} {aft:Array Edge} {v:Value} (hx:ev E x=some v) (h:G W n ds ((d,v)::E) L next) (hd:Nat.blt d n=true:=by rfl):G W n ds E L (wpList P ops (Exit.then next Q) (⟨some d, .assign x,ty,pos,aft,none⟩::[])):=G.a hx (G.nt h) hd
theorem G.sm {id d:Nat} {x:Operand} {ty:TypeId} {pos:String} {aft:Array Edge} {rest:List Oper} {v:Value} {y:Code} (hx:ev E x=some v) (h:G W n ds ((d,v)::E) L (wpList P ((⟨some d, .move x,ty,pos,aft,none⟩::rest:List Oper).toArray) (Exit.then (y.wp P Q) Q) rest)) (hd:Nat.blt d n=true:=by rfl):
  G W n ds E L ((Code.seq (Code.region id (⟨some d, .move x,ty,pos,aft,none⟩::rest:List Oper).toArray false) y).wp P Q):=G.sr (G.m hx h hd)
theorem G.rt (h:G W n ds E L (Q .ret)):G W n ds E L (Code.ret.wp P (Exit.then next Q)):=G.ret (G.then_r h)
theorem G.sk (h:G W n ds E L next):G W n ds E L (Code.skip.wp P (Exit.then next Q)):=G.skip (G.then_n h)
theorem G.nf {ops:Array Oper} {d1 d2:Nat} {x:Operand} {ty1 ty2 s:TypeId} {pos1 pos2:String} {aft1 aft2:Array Edge} {rest:List Oper} {i b off k:Nat} (hx:ev E x=some (.pointer (some ⟨b,off,none⟩))) (hf:Ap P s i=some k)
  (h:G W n ds ((d2, .pointer (some ⟨b,off+k,none⟩))::(d1, .pointer (some ⟨b,off,none⟩))::E) L (wpList P ops Q rest)) (h1:Nat.blt d1 n=true:=by rfl) (h2:Nat.blt d2 n=true:=by rfl):G W n ds E L (wpList P ops Q (⟨some d1, .nilCheck x,ty1,pos1,aft1,none⟩::⟨some d2, .fieldAddr s (.tmp d1) i,ty2,pos2,aft2,none⟩::rest)):=
 G.q (AE.nilp hx) h1 (G.q (AE.fieldAddr (by simp [ev,look]) hf) h2 h)
theorem G.gk {ops:Array Oper} {d:Option Nat} {op:Op} {ty:TypeId} {pos:String} {aft:Array Edge} {rest:List Oper} {j t:Nat} {b c:Bool} (h:G W n ds (FL d undef E) L (wpList P ops Q rest)) (hj:CO ops j=some t:=by rfl) (hl:look E t=some (.bool c):=by rfl) (hbc:(c==b)=false:=by rfl) (hd:CL d n=true:=by rfl):
  G W n ds E L (wpList P ops Q (⟨d,op,ty,pos,aft,some (j,b)⟩::rest)):=G.gskip hj hl hbc hd h
theorem G.st {ops:Array Oper} {t ty:TypeId} {x y:Operand} {pos:String} {aft:Array Edge} {rest:List Oper} {b off:Nat} {l:List Value} {T:TypeId} {v:Value} {F:List HP} (hx:ev E x=some (.pointer (some ⟨b,off,none⟩))) (hy:ev E y=some v) (hv:AB v=true) (ht:Ab P t=some 1)
  (h:G W n ds E ([pt b (.cells (l.set off v).toArray T (0,0))]++F) (wpList P ops Q rest)) (hL:A4 [pt b (.cells l.toArray T (0,0))] L F:=by repeat' constructor) (hc:off<l.length:=by first|decide|(simp;omega)|simp):G W n ds E L (wpList P ops Q (⟨none, .store t x y,ty,pos,aft,none⟩::rest)):=
 G.op (AO.store hx hy hv ht hc (Bd _ _)) hL rfl fun _ _ e=>by subst e;exact h
theorem G.sw {ops:Array Oper} {t ty:TypeId} {x y:Operand} {pos:String} {aft:Array Edge} {rest:List Oper} {b off:Nat} {l:List Value} {T:TypeId} {v:Value} {F:List HP} (hx:ev E x=some (.pointer (some ⟨b,off,none⟩))) (hy:ev E y=some v) (hv:AB v=true) (ht:Ab P t=some 1)
  (h:G W n ds E ([pt b (.cells (l.set off v).toArray T (0,0))]++F) (wpList P ops Q rest)) (hL:A4 [pt b (.cells l.toArray T (0,0))] L F:=by repeat' constructor) (hc:off<l.length:=by exact Nat.le_of_ble_eq_true rfl):G W n ds E L (wpList P ops Q (⟨none, .store t x y,ty,pos,aft,none⟩::rest)):=
 G.op (AO.store hx hy hv ht hc (Bd _ _)) hL rfl fun _ _ e=>by subst e;exact h
theorem G.sa {ops:Array Oper} {t ty:TypeId} {x y:Operand} {pos:String} {aft:Array Edge} {rest:List Oper} {b off k:Nat} {l vs:List Value} {T:TypeId} {F:List HP} (hx:ev E x=some (.pointer (some ⟨b,off,none⟩))) (hy:ev E y=some (.agg vs.toArray)) (ht:Ab P t=some k) (hv:∀v∈vs,AB v=true)
  (h:G W n ds E ([pt b (.cells (CX l off vs).toArray T (0,0))]++F) (wpList P ops Q rest)) (hL:A4 [pt b (.cells l.toArray T (0,0))] L F:=by repeat' constructor) (hk:vs.length=k:=by rfl) (hc:off+vs.length≤l.length:=by exact Nat.le_of_ble_eq_true rfl):G W n ds E L (wpList P ops Q (⟨none, .store t x y,ty,pos,aft,none⟩::rest)):=
 G.op (AO.storeA hx hy hv ht hk hc (Bd _ _)) hL rfl fun _ _ e=>by subst e;exact h
theorem AO.c {f:FuncId} {fn:Func} {c:Code} {xs:Array Operand} {ts:Array TypeId} {ty:TypeId} (hf:P.funcs[f]?=some fn) (vs:List Value) {pre:List HP} {post:Value→List HP→Prop} (h:Fn P f vs.toArray pre post) (hx:xs.toList.map (ev E)=vs.map some:=by rfl) (hb:fn.body=some c:=by rfl) (hnm:(fn.name== "runtime.NumGoroutine")=false:=by rfl):
  AO P ⟨none, .call {callee:= .value (.func f),args:=xs,argTypes:=ts},ty, "",#[],none⟩ E pre post:=AO.call hf hb hnm hx h
theorem G.cv {ops:Array Oper} {d:Option Nat} {f:FuncId} {fn:Func} {c:Code} {xs:Array Operand} {ts:Array TypeId} {ty:TypeId} {pos:String} {aft:Array Edge} {rest:List Oper} {pre F L1:List HP} {u:Value} (hf:P.funcs[f]?=some fn) (vs:List Value) (h:Fn P f vs.toArray pre fun v L=>v=u∧L=L1)
  (hn:G W n ds (FL d u E) (L1++F) (wpList P ops Q rest)) (hL:A4 pre L F:=by repeat' constructor) (hx:xs.toList.map (ev E)=vs.map some:=by rfl) (hb:fn.body=some c:=by rfl) (hnm:(fn.name== "runtime.NumGoroutine")=false:=by rfl) (hd:CL d n=true:=by rfl):
  G W n ds E L (wpList P ops Q (⟨d, .call {callee:= .value (.func f),args:=xs,argTypes:=ts},ty,pos,aft,none⟩::rest)):=G.op (AO.call hf hb hnm hx h) hL hd fun _ _ e=>by obtain ⟨rfl,rfl⟩:=e;exact hn
theorem G.dn {P:Program} {fn:Func} {post:Value→List HP→Prop} {F:List HP} {W:World} {n:Nat} {E:Bi} {L L' R:List HP} {v:Value} {l:List ResultVar}
  (hl:fn.results=l.toArray) (hr:AEW l E=some v) (hp:post v L') (hL:A4 L' L R:=by repeat' constructor) (hF:IX F R:=by repeat' constructor):G W n [] E L (FnQ P fn post F W .ret):=G.done hl hr hp hL hF
theorem G.vv {P:Program} {fn:Func} {F:List HP} {W:World} {n:Nat} {E:Bi} {L L1 R:List HP} {u:Value} {l:List ResultVar} (hl:fn.results=l.toArray:=by rfl) (hr:AEW l E=some u:=by rfl) (hL:A4 L1 L R:=by repeat' constructor) (hF:IX F R:=by repeat' constructor):G W n [] E L (FnQ P fn (fun v L=>v=u∧L=L1) F W .ret):=G.done hl hr ⟨rfl,rfl⟩ hL hF
end
section
variable {P:Program} {ops:Array Oper} {n:Nat} {RO:List HP} {H:List Nat} {I:List HP→Prop} {Fin:EF→List HP→Prop}
variable {j:Nat} {S:List Nat} {E:Bi} {RW:List HP} {d:Nat} {op:Op} {ty:TypeId} {pos:String} {aft:Array Edge} {v:Value}
theorem D.k (hi:ops[j]?=some ⟨some d,op,ty,pos,aft,none⟩) (hq:AE P ⟨none,op,ty, "",#[],none⟩ E RO v)
  (h:D P ops n RO H I Fin S (look ((d,v)::E)) RW) (hc:(Ar ops (j::S) j&&Nat.blt d n)=true:=by kernel_rfl):D P ops n RO H I Fin (j::S) (look E) RW:=D.q hi hc hq h
theorem D.hh {dd:Option Nat} {pre F:List HP} {K:Value→List HP→Prop} (hi:ops[j]?=some ⟨dd,op,ty,pos,aft,none⟩) (hp:AO P ⟨none,op,ty, "",#[],none⟩ E pre K)
  (h:∀v L',K v L'→D P ops n RO H Ym Fin S (look (FL dd v E)) (L'++F)) (hL:A4 pre RW F:=by repeat' constructor) (hc:(NG ops j S&&H.contains j&&CL dd n)=true:=by kernel_rfl):D P ops n RO H Ym Fin (j::S) (look E) RW:=D.h hi hc hp hL h
theorem D.sa {t:TypeId} {x y:Operand} {b off k:Nat} {l vs:List Value} {T:TypeId} {F:List HP} (hi:ops[j]?=some ⟨none, .store t x y,ty,pos,aft,none⟩) (hx:ev E x=some (.pointer (some ⟨b,off,none⟩))) (hy:ev E y=some (.agg vs.toArray)) (ht:Ab P t=some k) (hv:∀v∈vs,AB v=true)
  (h:D P ops n RO H Ym Fin S (look E) ([pt b (.cells (CX l off vs).toArray T (0,0))]++F)) (hL:A4 [pt b (.cells l.toArray T (0,0))] RW F:=by repeat' constructor) (hk:vs.length=k:=by rfl) (hc:off+vs.length≤l.length:=by exact Nat.le_of_ble_eq_true rfl) (hr:(NG ops j S&&H.contains j&&CL none n)=true:=by kernel_rfl):D P ops n RO H Ym Fin (j::S) (look E) RW:=
 D.h hi hr (AO.storeA hx hy hv ht hk hc (Bd _ _)) hL fun _ _ e=>by subst e;exact h
def Zd (ops:Array Oper) (j:Nat):List Nat→List Nat→List Nat
 |[],A=>A
 |i::S,A=>Zd ops j S (if (ops[i]?).any fun o=>o.after.any fun e=>Region.binds .any e&&(e.on==j||A.contains e.on) then i::A else A)
theorem D.kv (hi:ops[j]?=some ⟨some d,op,ty,pos,aft,none⟩) (hq:AE P ⟨none,op,ty, "",#[],none⟩ E (RO++RW) v)
  (h:D P ops n RO H I Fin S (look ((d,v)::E)) RW) (hc:(Ar ops (j::S) j&&Nat.blt d n&&Ee ops H j S (Zd ops j S []))=true:=by kernel_rfl):D P ops n RO H I Fin (j::S) (look E) RW:=D.qw _ hi hc hq h
theorem D.gv {k t:Nat} {b:Bool} (hi:ops[j]?=some ⟨some d,op,ty,pos,aft,some (k,b)⟩) (hq:AE P ⟨none,op,ty, "",#[],none⟩ E (RO++RW) v)
  (h:D P ops n RO H I Fin S (look ((d,v)::E)) RW) (hk:CO ops k=some t:=by rfl) (hl:look E t=some (.bool b):=by rfl) (hc:(Ar ops (j::S) j&&Nat.blt d n&&Ee ops H j S (Zd ops j S []))=true:=by kernel_rfl):D P ops n RO H I Fin (j::S) (look E) RW:=D.gqw _ hi hk hl hc hq h
theorem D.gz {dd:Option Nat} {k t:Nat} {b c:Bool} (hi:ops[j]?=some ⟨dd,op,ty,pos,aft,some (k,b)⟩)
  (h:D P ops n RO H I Fin S (look (FL dd undef E)) RW) (hk:CO ops k=some t:=by rfl) (hl:look E t=some (.bool c):=by rfl) (hbc:(c== !b)=true:=by rfl) (hc:(Ar ops (j::S) j&&CL dd n)=true:=by kernel_rfl):D P ops n RO H I Fin (j::S) (look E) RW:=D.gs hi hk hl hbc hc h
theorem D.pf {W:World} {ds:List Deferred} {Q:Exit→Act→World→Prop} {next:Act→World→Prop} (h:G W n ds E (RO++RW) next):D P ops n RO H I (fun e' RW'=>CC P ops n H W ds (Exit.then next Q .normal) [] e' (RO++RW')) [] (look E) RW:=D.ph (CC.fin (G.then_n h))
theorem D.mv {x:Operand} (hi:ops[j]?=some ⟨some d, .move x,ty,pos,aft,none⟩) (hx:ev E x=some v)
  (h:D P ops n RO H I Fin S (look ((d,v)::E)) RW) (hc:(Ar ops (j::S) j&&Nat.blt d n&&Ee ops H j S (Zd ops j S []))=true:=by kernel_rfl):D P ops n RO H I Fin (j::S) (look E) RW:=D.kv hi (AE.move hx) h hc
theorem D.nf {j2 d2 i b off k:Nat} {x:Operand} {s ty2:TypeId} {pos2:String} {aft2:Array Edge} (hi:ops[j]?=some ⟨some d, .nilCheck x,ty,pos,aft,none⟩) (hx:ev E x=some (.pointer (some ⟨b,off,none⟩))) (hi2:ops[j2]?=some ⟨some d2, .fieldAddr s (.tmp d) i,ty2,pos2,aft2,none⟩) (hf:Ap P s i=some k)
  (h:D P ops n RO H I Fin S (look ((d2, .pointer (some ⟨b,off+k,none⟩))::(d, .pointer (some ⟨b,off,none⟩))::E)) RW) (hc:(Ar ops (j::j2::S) j&&Nat.blt d n&&Ee ops H j (j2::S) (Zd ops j (j2::S) []))=true:=by kernel_rfl)
  (hc2:(Ar ops (j2::S) j2&&Nat.blt d2 n&&Ee ops H j2 S (Zd ops j2 S []))=true:=by kernel_rfl):D P ops n RO H I Fin (j::j2::S) (look E) RW:=D.kv hi (AE.nilp hx) (D.kv hi2 (AE.fieldAddr (by simp [ev,look]) hf) h hc2) hc
theorem CC.g0 {W:World} {ds:List Deferred} {X:Act→World→Prop} {e:EF} {L:List HP} {S:List Nat} {Ss:List (List Nat)}
  (h:D P ops n [] H Ym (fun e' RW'=>CC P ops n H W ds X Ss e' ([]++RW')) S e L):CC P ops n H W ds X (S::Ss) e L:=CC.go [] (.nil) h
theorem D.kw (A:List Nat) (hi:ops[j]?=some ⟨some d,op,ty,pos,aft,none⟩) (hq:AE P ⟨none,op,ty, "",#[],none⟩ E (RO++RW) v)
  (h:D P ops n RO H I Fin S (look ((d,v)::E)) RW) (hc:(Ar ops (j::S) j&&Nat.blt d n&&Ee ops H j S A)=true:=by kernel_rfl):D P ops n RO H I Fin (j::S) (look E) RW:=D.qw A hi hc hq h
end
theorem Y.{u} {α:Sort u} {a:α}:a=a:=rfl
theorem O {α:Prop} (h:α:=by repeat' constructor):α:=h
theorem om {α:Prop} (h:α:=by omega):α:=h
theorem kQ {α:Prop} (h:α:=by kernel_rfl):α:=h
theorem dQ {α:Prop} (h:α:=by decide):α:=h
theorem cQ {α:Prop} (h:α:=by first|(simp [Value.cells];done)|(intro v hv;simp only [mem_cons,not_mem_nil,or_false] at hv;(repeat (first|(subst hv;rfl)|(rcases hv with hv|hv;(subst hv;rfl)))))):α:=h
section
variable {P:Program} {W:World} {n:Nat} {ds:List Deferred} {E:Bi} {L:List HP} {Q:Exit→Act→World→Prop} {next:Act→World→Prop}
variable {ops:Array Oper} {d:Nat} {ty:TypeId} {pos:String} {aft:Array Edge} {rest:List Oper}
theorem G.gr {d:Option Nat} {op:Op} {j t:Nat} {b c:Bool} (h:G W n ds E L (wpList P ops Q (⟨d,op,ty,pos,aft,none⟩::rest))) (hj:CO ops j=some t:=by rfl) (hl:look E t=some (.bool c):=by rfl) (hbc:(c==b)=true:=by rfl):G W n ds E L (wpList P ops Q (⟨d,op,ty,pos,aft,some (j,b)⟩::rest)):=G.grun hj hl hbc h
theorem G.gn {d:Option Nat} {op:Op} {j t:Nat} {b:Bool} (h:G W n ds (FL d undef E) L (wpList P ops Q rest)) (hj:CO ops j=some t:=by rfl) (hl:look E t=some undef:=by rfl) (hd:CL d n=true:=by rfl):G W n ds E L (wpList P ops Q (⟨d,op,ty,pos,aft,some (j,b)⟩::rest)):=G.gskipU hj hl hd h
theorem G.fa {s:TypeId} {x:Operand} {i k b off:Nat} (hx:ev E x=some (.pointer (some ⟨b,off,none⟩))) (hf:Ap P s i=some k) (h:G W n ds ((d, .pointer (some ⟨b,off+k,none⟩))::E) L (wpList P ops Q rest)) (hd:Nat.blt d n=true:=by rfl):G W n ds E L (wpList P ops Q (⟨some d, .fieldAddr s x i,ty,pos,aft,none⟩::rest)):=G.q (AE.fieldAddr hx hf) hd h
theorem G.pT {c x y:Operand} {v:Value} (hc:ev E c=some (.bool true)) (hx:ev E x=some v) (h:G W n ds ((d,v)::E) L (wpList P ops Q rest)) (hd:Nat.blt d n=true:=by rfl):G W n ds E L (wpList P ops Q (⟨some d, .pick c x y,ty,pos,aft,none⟩::rest)):=G.q (AE.pickT hc hx) hd h
theorem G.pF {c x y:Operand} {v:Value} (hc:ev E c=some (.bool false)) (hx:ev E y=some v) (h:G W n ds ((d,v)::E) L (wpList P ops Q rest)) (hd:Nat.blt d n=true:=by rfl):G W n ds E L (wpList P ops Q (⟨some d, .pick c x y,ty,pos,aft,none⟩::rest)):=G.q (AE.pickF hc hx) hd h
theorem G.ex {x:Operand} {vs:List Value} {i:Nat} {v:Value} (hx:ev E x=some (.tuple vs.toArray)) (hi:vs[i]?=some v) (h:G W n ds ((d,v)::E) L (wpList P ops Q rest)) (hd:Nat.blt d n=true:=by rfl):G W n ds E L (wpList P ops Q (⟨some d, .extract x i,ty,pos,aft,none⟩::rest)):=G.q (AE.extract hx hi) hd h
theorem G.xe {id:Nat} {Q1:Exit→Act→World→Prop} {n1 n2:Act→World→Prop} (h:G W n ds E L next):G W n ds E L ((Code.exit id).wp P (Exit.then n1 (Exit.then n2 (Exit.inBlock id (Exit.then next Q1))))):=G.exit (G.then_e (G.then_e (G.blk_e (G.then_n h))))
end
section assoc
variable {K β:Type} [DecidableEq K]
def AC:List (K×β)→K→Option β
 |[],_=>none
 |(a,b)::m,k=>if k=a then some b else AC m k
def CF:List (K×β)→K→β→List (K×β)
 |[],k,v=>[(k,v)]
 |(a,b)::m,k,v=>if k=a then (k,v)::m else (a,b)::CF m k v
def Bg:List (K×β)→K→List (K×β)
 |[],_=>[]
 |(a,b)::m,k=>if k=a then m else (a,b)::Bg m k
end assoc
def mapR (r:Nat) (ents:List (Value×Value)):HP:=fun h=> ∃(es:List MapEntry) (clock:Nat),h r=some (.map es.toArray clock)∧
 es.map (fun e=>(e.key,e.val))=ents∧(∀e∈es,e.born<clock)∧(es.map (·.born)).Nodup
theorem E8 {r:Nat} {h:Hp} (hh:pt r (.map #[] 0) h):mapR r [] h:=⟨[],0,hh,rfl,by simp,by simp⟩
def JC {K:Type} [DecidableEq K] (k:K):List K→Option Nat
 |[]=>none
 |a::l=>if k=a then some 0 else (JC k l).map (· +1)
structure Aa (P:Program) (kt:TypeId) {K:Type} [DecidableEq K] (kv:K→Value):Prop where
 find:∀(k:K) (es:List MapEntry) (ks:List K) (w:World),es.map (·.key)=ks.map kv→(Instr.findKey kt (kv k) es).run P w= .ok ((JC k ks).bind fun j=>(es[j]?).map fun e=>(j,e.val)) w
 check:∀a e w,(Instr.checkKey e 10000 kt (kv a)).run P w= .ok () w
 same:∀a,Instr.sameBits 10000 (kv a) (kv a)=true
theorem Vw {K:Type} [DecidableEq K] {kv:K→Value} {d:TypeDesc} (hs:∀a b,Instr.sameNow d (kv a) (kv b)=some (decide (a=b))) (k:K):∀(es:List MapEntry) (ks:List K) (i:Nat),es.map (·.key)=ks.map kv→
    Instr.findNow d (kv k) es i=some ((JC k ks).bind fun j=>(es[j]?).map fun e=>(i+j,e.val)):=by
  intro es
  induction es with
  |nil=>intro ks i h;cases ks with
    |nil=>rfl
    |cons a l=>simp at h
  |cons e es ih=>
    intro ks i h
    cases ks with
    |nil=>simp at h
    |cons a l=>
      simp only [map_cons,List.cons.injEq] at h
      by_cases hk:k=a
      · subst hk
        simp [Instr.findNow,h.1,hs,JC]
      · rw [Instr.findNow,h.1,hs,decide_eq_false hk]
        dsimp only
        rw [ih l (i+1) h.2,JC,if_neg hk]
        cases JC k l with
        |none=>rfl
        |some j=>simp only [Option.map_some,Option.bind_some,List.getElem?_cons_succ,show i+1+j=i+(j+1) by omega]
theorem Aa.ofNow {P:Program} {kt:TypeId} {K:Type} [DecidableEq K] {kv:K→Value} (hd:∃d,P.underlying kt=some d∧(∀a b,Instr.sameNow d (kv a) (kv b)=some (decide (a=b))))
  (hc:∀a e w,(Instr.checkKey e 10000 kt (kv a)).run P w= .ok () w) (hb:∀a,Instr.sameBits 10000 (kv a) (kv a)=true):Aa P kt kv where
 find:=fun k es ks w h=>by
  obtain ⟨d,hd,hs⟩:=hd
  unfold Instr.findKey
  rw [run_bind (AN hd),Vw hs k es ks 0 h]
  simp only [Nat.zero_add];rfl
 check:=hc
 same:=hb
section
variable {P:Program} {E:Bi} {L R:List HP} {ty:TypeId} {w:World}
theorem TF (a b:List UInt8):(bs a==bs b)=decide (a=b):=by
 show (a.toArray==b.toArray)=_
 by_cases h:a=b
 ·subst h;simp
 ·simp [h]
theorem Aa.int {kt:TypeId} (hd:P.underlying kt=some (.int .i64)):Aa P kt (fun n:Int=>AA n):=by
 refine Aa.ofNow ⟨_,hd,fun a b=>by simp [Instr.sameNow,Nj]⟩ (fun a e w=>?_) (fun a=>by rw [show (10000:Nat)=9999+1 from rfl];simp [Instr.sameBits])
 ·
  rw [show (10000:Nat)=9999+1 from rfl]
  generalize 9999=n
  unfold Instr.checkKey
  rw [run_bind (AN hd)];rfl
theorem Aa.str {kt:TypeId} (hd:P.underlying kt=some .string):Aa P kt (fun s:List UInt8=>AF s):=by
 refine Aa.ofNow ⟨_,hd,fun a b=>by simp only [Instr.sameNow,TF]⟩ (fun a e w=>?_) (fun a=>by rw [show (10000:Nat)=9999+1 from rfl];simp [Instr.sameBits,TF])
 ·
  rw [show (10000:Nat)=9999+1 from rfl]
  generalize 9999=n
  unfold Instr.checkKey
  rw [run_bind (AN hd)];rfl
section laws
variable {K β:Type} [DecidableEq K] {kv:K→Value} {enc:β→Value} {kt et:TypeId}
theorem Sy (k:K):∀(es:List MapEntry) (m:List (K×β)),
  es.map (fun e=>(e.key,e.val))=m.map (fun x=>(kv x.1,enc x.2))→
  (AC m k=none∧JC k (m.map (·.1))=none)∨
  (∃b j,AC m k=some b∧JC k (m.map (·.1))=some j∧j<es.length∧(∃e,es[j]?=some e∧e.key=kv k∧e.val=enc b)∧
   (∀v,(es.modify j fun e=>{e with key:=kv k,val:=enc v}).map (fun e=>(e.key,e.val))=(CF m k v).map (fun x=>(kv x.1,enc x.2)))∧
   ((es.eraseIdx j).map (fun e=>(e.key,e.val))=(Bg m k).map (fun x=>(kv x.1,enc x.2)))):=by
 intro es
 induction es with
 |nil=>
  intro m h
  cases m with
  |nil=>exact .inl ⟨rfl,rfl⟩
  |cons x m=>simp at h
 |cons e es ih=>
  intro m h
  cases m with
  |nil=>simp at h
  |cons x m=>
   obtain ⟨a,b⟩:=x
   simp only [map_cons,List.cons.injEq,Prod.mk.injEq] at h
   obtain ⟨⟨h1,h2⟩,h3⟩:=h
   by_cases hk:k=a
   ·subst hk
    refine .inr ⟨b,0,by simp [AC],by simp [JC],by simp,⟨e,rfl,h1,h2⟩,fun v=>?_,?_⟩
    ·simp [CF,h3]
    ·simp [Bg,h3]
   ·rcases ih m h3 with ⟨q1,q2⟩|⟨b',j,q1,q2,q3,⟨e',q4,q5,q5'⟩,q6,q7⟩
    ·exact .inl ⟨by simp [AC,hk,q1],by simp [JC,hk,q2]⟩
    ·refine .inr ⟨b',j+1,by simp [AC,hk,q1],by simp [JC,hk,q2],by simp [q3],⟨e',by simpa using q4,q5,q5'⟩,fun v=>?_,?_⟩
     ·simp [CF,hk,h1,h2,q6 v]
     ·simp [Bg,hk,h1,h2,q7]
theorem Jh {m:List (K×β)} {k:K} {v:β} (h:AC m k=none):CF m k v=m++[(k,v)]:=by
 induction m with
 |nil=>rfl
 |cons x m ih=>
  obtain ⟨a,b⟩:=x
  by_cases hk:k=a
  ·simp [AC,hk] at h
  ·simp [AC,hk] at h;simp [CF,hk,ih h]
theorem Eq {m:List (K×β)} {k:K} (h:AC m k=none):Bg m k=m:=by
 induction m with
 |nil=>rfl
 |cons x m ih=>
  obtain ⟨a,b⟩:=x
  by_cases hk:k=a
  ·simp [AC,hk] at h
  ·simp [AC,hk] at h;simp [Bg,hk,ih h]
omit [DecidableEq K] in
theorem Yz {es:List MapEntry} {m:List (K×β)} (h:es.map (fun e=>(e.key,e.val))=m.map (fun x=>(kv x.1,enc x.2))):es.map (·.key)=(m.map (·.1)).map kv:=by
 have:=congrArg (List.map Prod.fst) h
 rw [map_map,map_map] at this
 rw [map_map]
 exact this
theorem MR (hl:Aa P kt kv) {k:K} {es:List MapEntry} {m:List (K×β)} (h:es.map (fun e=>(e.key,e.val))=m.map (fun x=>(kv x.1,enc x.2))) (hp:JC k (m.map (·.1))=none):(Instr.findKey kt (kv k) es).run P w= .ok none w:=by
 rw [hl.find k es _ w (Yz h),hp];rfl
theorem Mn (hl:Aa P kt kv) {k:K} {es:List MapEntry} {m:List (K×β)} (h:es.map (fun e=>(e.key,e.val))=m.map (fun x=>(kv x.1,enc x.2))) {j:Nat} {b:β} (hp:JC k (m.map (·.1))=some j) (he:∃e,es[j]?=some e∧e.key=kv k∧e.val=enc b):(Instr.findKey kt (kv k) es).run P w= .ok (some (j,enc b)) w:=by
 obtain ⟨e,e1,-,e3⟩:=he
 rw [hl.find k es _ w (Yz h),hp,Option.bind_some,e1,Option.map_some,e3]
theorem Du {r:Nat} {es:Array MapEntry} {c:Nat} (h:w.heap[r]?=some (.map es c)):(getObj r).run P w= .ok (.map es c) w:=by
 simp [getObj,Sem.run,h]
theorem Gk {r:Nat} {es:Array MapEntry} {c:Nat} {o:Obj} (h:w.heap[r]?=some (.map es c)):(setObj r o).run P w= .ok () (upd w r o):=by
 simp [setObj,Sem.run,h,upd]
theorem OH (hl:Aa P kt kv) {t:TypeId} (ht:P.underlying t=some (.map kt et)) {z:Value} (hz:Ah P et=some z) {m:List (K×β)} {r:Nat} (hm:∃h1:Hp,(∀b o,h1 b=some o→w.heap[b]?=some o)∧mapR r (m.map fun x=>(kv x.1,enc x.2)) h1) (k:K) (ok:Bool):
  (Instr.lookup t (.map (some r)) (kv k) ok).run P w= .ok (if ok then .tuple #[match AC m k with|some b=>enc b|none=>z, .bool (AC m k).isSome] else match AC m k with|some b=>enc b|none=>z) w:=by
 obtain ⟨h1,a1,es,c,hb,hes,-,-⟩:=hm
 have hb':=a1 _ _ hb
 unfold Instr.lookup
 rw [run_bind (AN ht)]
 dsimp only
 rw [run_bind (Du hb')]
 dsimp only
 rw [run_bind run_pure,run_bind (hl.check k _ w)]
 rcases Sy (enc:=enc) (kv:=kv) k es m hes with ⟨q1,q2⟩|⟨b,j,q1,q2,q3,q4,q5,q6⟩
 ·rw [run_bind (MR hl hes q2),q1]
  dsimp only
  rw [run_bind (FD hz),run_bind run_pure]
  rfl
 ·rw [run_bind (Mn hl hes q2 q4),q1]
  rfl
theorem AE.lookup (hl:Aa P kt kv) {t:TypeId} {x y:Operand} {m:List (K×β)} {r:Nat} {k:K} {z:Value} {ents:List (Value×Value)} (hx:ev E x=some (.map (some r))) (hy:ev E y=some (kv k)) (ht:P.underlying t=some (.map kt et)) (hz:Ah P et=some z)
  (hL:BJ (mapR r ents) L R) (he:ents=m.map fun x=>(kv x.1,enc x.2)):AE P ⟨none, .lookup t x y false,ty, "",#[],none⟩ E L (match AC m k with|some b=>enc b|none=>z):=by
 intro ρ w ha hs
 subst he
 refine Bn ?_
 show (Instr.lookup t (ρ x) (ρ y) false).run P w=_
 rw [ha x _ hx,ha y _ hy]
 exact OH hl ht hz (Ae (hs.pick hL)) k false
theorem AE.lookupOk (hl:Aa P kt kv) {t:TypeId} {x y:Operand} {m:List (K×β)} {r:Nat} {k:K} {z:Value} {ents:List (Value×Value)} (hx:ev E x=some (.map (some r))) (hy:ev E y=some (kv k)) (ht:P.underlying t=some (.map kt et)) (hz:Ah P et=some z)
  (hL:BJ (mapR r ents) L R) (he:ents=m.map fun x=>(kv x.1,enc x.2)):AE P ⟨none, .lookup t x y true,ty, "",#[],none⟩ E L (.tuple #[match AC m k with|some b=>enc b|none=>z, .bool (AC m k).isSome]):=by
 intro ρ w ha hs
 subst he
 refine Bn ?_
 show (Instr.lookup t (ρ x) (ρ y) true).run P w=_
 rw [ha x _ hx,ha y _ hy]
 exact OH hl ht hz (Ae (hs.pick hL)) k true
theorem AE.maplen {t kt et:TypeId} {x:Operand} {r:Nat} {ents:List (Value×Value)} {ts:Array TypeId} (hx:ev E x=some (.map (some r))) (ht:P.underlying t=some (.map kt et)) (hts:ts= #[t]) (hL:BJ (mapR r ents) L R):
  AE P ⟨none, .call {callee:= .builtin .len,args:= #[x],argTypes:=ts},ty, "",#[],none⟩ E L (.int .i64 (ents.length:Int)):=by
 intro ρ w ha hs
 subst hts
 obtain ⟨h1,a1,es,c,hb,hes,-,-⟩:=Ae (hs.pick hL)
 have hb':=a1 _ _ hb
 rw [CR]
 refine Bn ?_
 simp only [map_toArray,map_cons,map_nil]
 rw [ha x _ hx]
 unfold Builtin.len_
 simp only [List.getElem?_toArray,List.getElem?_cons_zero]
 rw [run_bind (AN ht)]
 dsimp only
 rw [run_bind (Du hb')]
 have:ents.length=es.length:=by rw [←hes];simp
 simp [this,goInt,run_pure]
theorem ADP {r:Nat} {ents ents':List (Value×Value)} {es':List MapEntry} {c':Nat} {F:List HP} {h h':Hp} (hs:CP (mapR r ents::F) h) (hb:h' r=some (.map es'.toArray c')) (hne:∀b,b≠r→h' b=h b)
  (he:es'.map (fun e=>(e.key,e.val))=ents') (hbo:∀e∈es',e.born<c') (hnd:(es'.map (·.born)).Nodup):CP (mapR r ents'::F) h':=by
 obtain ⟨h1,h2,hd,a1,a2,⟨es,c,hr,_⟩,hL⟩:=hs
 have h2r:h2 r=none:=(hd r).resolve_left (by rw [hr];simp)
 refine ⟨fun b=>if b=r then some (.map es'.toArray c') else none,h2,fun b=>?_,fun b o e=>?_,fun b o e=>?_,⟨es',c',if_pos rfl,he,hbo,hnd⟩,hL⟩
 ·by_cases e:b=r
  ·exact .inr (e▸h2r)
  ·exact .inl (if_neg e)
 ·by_cases hb':b=r
  ·subst hb';simp at e;rw [←e];exact hb
  ·simp [hb'] at e
 ·have hb':b≠r:=by rintro rfl;rw [h2r] at e;cases e
  rw [hne _ hb'];exact a2 _ _ e
theorem St.mapR {r:Nat} {ents ents':List (Value×Value)} {es es':List MapEntry} {c c':Nat} {F:List HP} (hs:St (Go.Proofs.YtbhkloaagkkioaaGreatDoor.mapR r ents::F) w) (hr:w.heap[r]?=some (.map es.toArray c))
  (he:es'.map (fun e=>(e.key,e.val))=ents') (hbo:∀e∈es',e.born<c') (hnd:(es'.map (·.born)).Nodup):St (Go.Proofs.YtbhkloaagkkioaaGreatDoor.mapR r ents'::F) (Go.Proofs.YtbhkloaagkkioaaGreatDoor.upd w r (.map es'.toArray c')):=by
 refine ADP hs (es':=es') (c':=c') (SD hr) (fun b hb=>?_) he hbo hnd
 simp [Go.Proofs.YtbhkloaagkkioaaGreatDoor.upd,Ne.symm hb]
theorem AO.mapSet (hl:Aa P kt kv) {t:TypeId} {x y z:Operand} {m:List (K×β)} {r:Nat} {k:K} {v:β} {ents:List (Value×Value)} (hx:ev E x=some (.map (some r))) (hy:ev E y=some (kv k)) (hz:ev E z=some (enc v)) (ht:P.underlying t=some (.map kt et))
  (he:ents=m.map fun x=>(kv x.1,enc x.2)):AO P ⟨none, .mapUpdate t x y z,ty, "",#[],none⟩ E [mapR r ents] fun _ L'=>L'=[mapR r ((CF m k v).map fun x=>(kv x.1,enc x.2))]:=by
 intro ρ w F ha hs
 subst he
 obtain ⟨h1,a1,es,c,hb,hes,hbo,hnd⟩:=Ae hs
 have hb':=a1 _ _ hb
 have key:∃es' c',(Instr.mapUpdate t (.map (some r)) (kv k) (enc v)).run P w= .ok () (upd w r (.map (List.toArray es') c'))∧es'.map (fun e=>(e.key,e.val))=(CF m k v).map (fun x=>(kv x.1,enc x.2))∧(∀e∈es',e.born<c')∧(es'.map (·.born)).Nodup:=by
  unfold Instr.mapUpdate
  rw [run_bind (AN ht)]
  dsimp only
  rw [run_bind (Du hb')]
  dsimp only
  rw [run_bind (hl.check k _ w)]
  rcases Sy (enc:=enc) (kv:=kv) k es m hes with ⟨q1,q2⟩|⟨b,j,q1,q2,q3,⟨e,q4,q4',q4v⟩,q5,q6⟩
  ·rw [run_bind (MR hl hes q2)]
   refine ⟨es++[{key:=kv k,val:=enc v,born:=c}],c+1,?_,?_,?_,?_⟩
   ·show (setObj r (.map (es.toArray.push {key:=kv k,val:=enc v,born:=c}) (c+1))).run P w=_
    rw [Gk hb'];simp
   ·rw [Jh q1];simp [hes]
   ·intro e he
    simp only [mem_append,mem_singleton] at he
    rcases he with he|rfl
    ·have:=hbo e he;omega
    ·simp
   ·simp only [map_append,map_cons,map_nil]
    refine nodup_append.2 ⟨hnd,by simp,?_⟩
    intro a ha b hb
    simp only [mem_singleton] at hb
    subst hb
    obtain ⟨e,he,rfl⟩:=mem_map.1 ha
    have:=hbo e he;omega
  ·rw [run_bind (Mn hl hes q2 ⟨e,q4,q4',q4v⟩)]
   refine ⟨es.modify j fun e=>{e with key:=kv k,val:=enc v},c,?_,q5 v,?_,?_⟩
   ·show (do let key ←Instr.keyThatStays (((es.toArray[j]?).map (·.key)).getD (kv k)) (kv k);setObj r (.map (es.toArray.modify j fun e=>{e with key,val:=enc v}) c):Sem Unit).run P w=_
    have hk:((es.toArray[j]?).map (·.key)).getD (kv k)=kv k:=by simp [q4,q4']
    rw [hk,run_bind (a:=kv k) (w':=w) (by unfold Instr.keyThatStays;rw [if_pos (hl.same k)];rfl),Gk hb']
    simp
   ·intro e' he'
    obtain ⟨i,hi,rfl⟩:=mem_iff_getElem.1 he'
    simp only [length_modify] at hi
    rw [getElem_modify]
    split
    ·exact hbo es[i] (getElem_mem _)
    ·exact hbo _ (getElem_mem _)
   ·have:(es.modify j fun e=>{e with key:=kv k,val:=enc v}).map (·.born)=es.map (·.born):=by
     apply ext_getElem (by simp)
     intro i h1 h2
     simp only [getElem_map,getElem_modify]
     split<;>rfl
    rw [this];exact hnd
 obtain ⟨es',c',hr,k1,k2,k3⟩:=key
 have hrun:(execOp ρ ⟨none, .mapUpdate t x y z,ty, "",#[],none⟩).run P w= .ok .skip (upd w r (.map (List.toArray es') c')):=by
  refine ADu ?_
  show (Instr.mapUpdate t (ρ x) (ρ y) (ρ z)).run P w=_
  rw [ha x _ hx,ha y _ hy,ha z _ hz];exact hr
 unfold DC;rw [hrun]
 exact ⟨_,rfl,St.mapR (F:=F) hs hb' k1 k2 k3,As.upd _ _ _⟩
theorem AO.mapDel (hl:Aa P kt kv) {t:TypeId} {x y:Operand} {m:List (K×β)} {r:Nat} {k:K} {ents:List (Value×Value)} {ts:Array TypeId} (hts:ts[0]?=some t) (hx:ev E x=some (.map (some r))) (hy:ev E y=some (kv k)) (ht:P.underlying t=some (.map kt et))
  (he:ents=m.map fun x=>(kv x.1,enc x.2)):AO P ⟨none, .call {callee:= .builtin .delete,args:= #[x,y],argTypes:=ts},ty, "",#[],none⟩ E [mapR r ents] fun _ L'=>L'=[mapR r ((Bg m k).map fun x=>(kv x.1,enc x.2))]:=by
 intro ρ w F ha hs
 subst he
 obtain ⟨h1,a1,es,c,hb,hes,hbo,hnd⟩:=Ae hs
 have hb':=a1 _ _ hb
 have key:∃es' c',(Builtin.delete_ ts ty #[.map (some r),kv k]).run P w= .ok (.tuple #[]) (upd w r (.map (List.toArray es') c'))∧es'.map (fun e=>(e.key,e.val))=(Bg m k).map (fun x=>(kv x.1,enc x.2))∧(∀e∈es',e.born<c')∧(es'.map (·.born)).Nodup:=by
  unfold Builtin.delete_
  simp only [hts,List.getElem?_toArray,List.getElem?_cons_zero,List.getElem?_cons_succ]
  rw [run_bind (AN ht)]
  dsimp only
  rcases Sy (enc:=enc) (kv:=kv) k es m hes with ⟨q1,q2⟩|⟨b,j,q1,q2,q3,⟨e,q4,q4',q4v⟩,q5,q6⟩
  ·refine ⟨es,c,?_,by rw [Eq q1];exact hes,hbo,hnd⟩
   rw [run_bind (Du hb')]
   dsimp only
   rw [run_bind (hl.check k _ w),run_bind (MR hl hes q2)]
   dsimp only
   rw [run_bind (Gk hb')];rfl
  ·refine ⟨es.eraseIdx j,c,?_,q6,fun e he=>hbo e (mem_of_mem_eraseIdx he),?_⟩
   ·rw [run_bind (Du hb')]
    dsimp only
    rw [run_bind (hl.check k _ w),run_bind (Mn hl hes q2 ⟨e,q4,q4',q4v⟩)]
    dsimp only
    rw [run_bind (Gk hb')]
    simp [run_pure]
   ·exact List.Nodup.sublist (List.Sublist.map _ (eraseIdx_sublist _ _)) hnd
 obtain ⟨es',c',hr,k1,k2,k3⟩:=key
 have hrun:(execOp ρ ⟨none, .call {callee:= .builtin .delete,args:= #[x,y],argTypes:=ts},ty, "",#[],none⟩).run P w= .ok (.value (.tuple #[])) (upd w r (.map (List.toArray es') c')):=by
  rw [CR]
  refine Bn ?_
  simp only [map_toArray,map_cons,map_nil]
  rw [ha x _ hx,ha y _ hy];exact hr
 unfold DC;rw [hrun]
 exact ⟨_,rfl,St.mapR (F:=F) hs hb' k1 k2 k3,As.upd _ _ _⟩
theorem AO.mapClear {t kt et:TypeId} {x:Operand} {r:Nat} {ents:List (Value×Value)} {ts:Array TypeId} (hts:ts[0]?=some t) (hx:ev E x=some (.map (some r))) (ht:P.underlying t=some (.map kt et)):
  AO P ⟨none, .call {callee:= .builtin .clear,args:= #[x],argTypes:=ts},ty, "",#[],none⟩ E [mapR r ents] fun _ L'=>L'=[mapR r []]:=by
 intro ρ w F ha hs
 obtain ⟨h1,a1,es,c,hb,hes,hbo,hnd⟩:=Ae hs
 have hb':=a1 _ _ hb
 have hrun:(execOp ρ ⟨none, .call {callee:= .builtin .clear,args:= #[x],argTypes:=ts},ty, "",#[],none⟩).run P w= .ok (.value (.tuple #[])) (upd w r (.map (List.toArray []) c)):=by
  rw [CR]
  refine Bn ?_
  simp only [map_toArray,map_cons,map_nil]
  rw [ha x _ hx]
  unfold Builtin.clear_
  simp only [hts,List.getElem?_toArray,List.getElem?_cons_zero]
  rw [run_bind (AN ht)]
  try dsimp only
  rw [run_bind (Du hb')]
  try dsimp only
  rw [run_bind (Gk hb')];rfl
 unfold DC;rw [hrun]
 exact ⟨_,rfl,St.mapR (F:=F) (es':=[]) hs hb' rfl (by simp) (by simp),As.upd _ _ _⟩
end laws
end
def CA (sz:Nat) (h:Hp) (v:Value) (n:Nat) (ys:List Value):Prop:=
 (n=0∧ys=[]∧∃(a:Option Addr) (c:Nat),v= .slice a 0 c)∨
 ∃b off cap l T fr,v= .slice (some ⟨b,off,none⟩) n cap∧h b=some (.cells (List.toArray l) T fr)∧(l.drop off).take (n*sz)=ys∧off+n*sz≤l.length∧n≤cap
def At (T:TypeId) (sz:Nat) (v:Value) (n:Nat) (xs:List Value):HP:=fun h=>
 (v= .slice none 0 0∧n=0∧xs=[])∨
 ∃b cap rest fr,v= .slice (some ⟨b,0,none⟩) n cap∧h b=some (.cells (List.toArray (xs++rest)) T fr)∧xs.length=n*sz∧cap*sz≤xs.length+rest.length∧n≤cap∧V5 fr 0 (cap*sz)
theorem Ad {T:TypeId} {sz:Nat} {v:Value} {n:Nat} {xs:List Value} {h:Hp} (hs:At T sz v n xs h):CA sz h v n xs:=by
 rcases hs with ⟨rfl,rfl,rfl⟩|⟨b,cap,rest,fr,hv,hb,h1,h2,h3,h4⟩
 ·exact .inl ⟨rfl,rfl,none,0,rfl⟩
 ·refine .inr ⟨b,0,cap,xs++rest,T,fr,hv,hb,?_,by simp;omega,h3⟩
  rw [←h1];simp
theorem Bj {sz:Nat} {h h':Hp} {v:Value} {n:Nat} {ys:List Value} (hr:CA sz h v n ys) (hle:∀b o,h b=some o→h' b=some o):CA sz h' v n ys:=by
 rcases hr with hr|⟨b,off,cap,l,T,fr,h1,h2,h3⟩
 ·exact .inl hr
 ·exact .inr ⟨b,off,cap,l,T,fr,h1,hle _ _ h2,h3⟩
theorem HJ {sz:Nat} {h:Hp} {v:Value} {n:Nat} {ys:List Value} (hr:CA sz h v n ys):ys.length=n*sz:=by
 rcases hr with ⟨rfl,rfl,-⟩|⟨b,off,cap,l,T,fr,h1,h2,h3,h4,h5⟩
 ·simp
 ·rw [←h3];simp;omega
theorem S9 {l vs:List Value} (h:vs.length=l.length):CX l 0 vs=vs:=by
 simp [CX,h]
theorem Wp {sz b off n cap:Nat} {l ys:List Value} {T:TypeId} {fr:Nat×Nat} {h:Hp} (hp:pt b (.cells l.toArray T fr) h) (e:(l.drop off).take (n*sz)=ys) (hl:off+n*sz≤l.length) (hc:n≤cap):CA sz h (.slice (some ⟨b,off,none⟩) n cap) n ys:=
 .inr ⟨b,off,cap,l,T,fr,rfl,hp,e,hl,hc⟩
theorem AU (T:TypeId) (sz:Nat) (h:Hp):At T sz (.slice none 0 0) 0 [] h:= .inl ⟨rfl,rfl,rfl⟩
theorem TE {T:TypeId} {sz b n:Nat} {xs:List Value} {h:Hp} (hp:AW b xs T h) (hl:xs.length=n*sz):At T sz (.slice (some ⟨b,0,none⟩) n n) n xs h:=
 .inr ⟨b,n,[],(0,0),rfl,by rw [append_nil];exact hp,hl,by simp [hl],Nat.le_refl _,Bd _ _⟩
theorem MA {T:TypeId} {sz n:Nat} {v:Value} {xs:List Value} {h:Hp} (hs:At T sz v n xs h):∃a c,v= .slice a n c:=by
 rcases hs with ⟨rfl,rfl,-⟩|⟨b,cap,rest,fr,hv,-⟩
 ·exact ⟨_,_,rfl⟩
 ·exact ⟨_,_,hv⟩
theorem O2 {T:TypeId} {sz n:Nat} {v:Value} {xs:List Value} {h:Hp} (hs:At T sz v n xs h):xs.length=n*sz:=HJ (Ad hs)
section
variable {P:Program} {E:Bi} {L R:List HP} {ty:TypeId} {w:World}
theorem AE.notN {t:TypeId} {x:Operand} {φ:Prop} [Decidable φ] (hx:ev E x=some (.bool (!decide φ))):AE P ⟨none, .unOp .not t x,ty, "",#[],none⟩ E L (.bool (decide φ)):=by
 have:=AE.not (P:=P) (E:=E) (L:=L) (t:=t) (ty:=ty) hx
 rwa [Bool.not_not] at this
theorem AE.max2 {x y:Operand} {a b:Int} {ts:Array TypeId} (hx:ev E x=some (AA a)) (hy:ev E y=some (AA b)):
  AE P ⟨none, .call {callee:= .builtin .max,args:= #[x,y],argTypes:=ts},ty, "",#[],none⟩ E L (AA (max a b)):=by
 intro ρ w ha _
 rw [CR]
 refine Bn ?_
 simp only [map_toArray,map_cons,map_nil]
 rw [ha x _ hx,ha y _ hy]
 show Result.ok (Value.int .i64 (if b>a then b else a)) w=_
 congr 2
 by_cases h:b>a
 ·rw [if_pos h];omega
 ·rw [if_neg h];omega
theorem AE.min2 {x y:Operand} {a b:Int} {ts:Array TypeId} (hx:ev E x=some (AA a)) (hy:ev E y=some (AA b)):
  AE P ⟨none, .call {callee:= .builtin .min,args:= #[x,y],argTypes:=ts},ty, "",#[],none⟩ E L (AA (min a b)):=by
 intro ρ w ha _
 rw [CR]
 refine Bn ?_
 simp only [map_toArray,map_cons,map_nil]
 rw [ha x _ hx,ha y _ hy]
 show Result.ok (Value.int .i64 (if b<a then b else a)) w=_
 congr 2
 by_cases h:b<a
 ·rw [if_pos h];omega
 ·rw [if_neg h];omega
theorem AE.arrSlice {t:TypeId} {x:Operand} {lo hi:Option Operand} {b off n e sz:Nat} {i j:Int} (hx:ev E x=some (.pointer (some ⟨b,off,none⟩))) (ht:JJ P t=some (n,e,sz))
  (hlo:match lo with|none=>i=0|some y=>ev E y=some (.int .i64 i)) (hhi:match hi with|none=>j=n|some y=>ev E y=some (.int .i64 j))
  (hb:0≤i∧i≤j∧j≤n):AE P ⟨none, .slice t x lo hi none,ty, "",#[],none⟩ E L
   (.slice (some (if n=i.toNat then ⟨b,off,none⟩ else ⟨b,off+i.toNat*sz,none⟩)) (j.toNat-i.toNat) (n-i.toNat)):=by
 intro ρ w ha _
 unfold JJ at ht
 split at ht<;>(try cases ht)
 rename_i n' e' hu
 split at ht<;>(try cases ht)
 rename_i inf hin
 refine Bn ?_
 show (Instr.sliceAt t (ρ x) (lo.map ρ) (hi.map ρ) none).run P w=_
 rw [ha x _ hx]
 unfold Instr.sliceAt
 rw [run_bind (AN hu)]
 show (do let (l,h,m) ←Instr.sliceBounds false n n (lo.map ρ) (hi.map ρ) none;let size ←sizeOf e;pure (.slice (some (if m=l then ⟨b,off,none⟩ else (⟨b,off,none⟩:Addr).add (l*size))) (h-l) (m-l)):Sem Value).run P w=_
 rw [run_bind (DV (i:=i) (j:=j) (Mm ha hlo) (Mm ha hhi) hb)]
 show (do let size ←sizeOf e;pure (.slice (some (if n=i.toNat then ⟨b,off,none⟩ else (⟨b,off,none⟩:Addr).add (i.toNat*size))) (j.toNat-i.toNat) (n-i.toNat)):Sem Value).run P w=_
 rw [run_bind (Be (k:=inf.size) (by simp [Ab,hin]))]
 simp only [Addr.add_eq,run_pure]
theorem AE.toArr {t:TypeId} {x:Operand} {a:Addr} {n m c e sz:Nat} (hx:ev E x=some (.slice (some a) m c)) (ht:JJ P t=some (n,e,sz)) (h:n≤m):
  AE P ⟨none, .sliceToArrayPointer t x,ty, "",#[],none⟩ E L (.pointer (some a)):=by
 intro ρ w ha _
 unfold JJ at ht
 split at ht<;>(try cases ht)
 rename_i n' e' hu
 split at ht<;>(try cases ht)
 refine Bn ?_
 show (Instr.arrayAt t (ρ x)).run P w=_
 rw [ha x _ hx]
 unfold Instr.arrayAt
 rw [run_bind (AN hu)]
 show (if m<n then runtimePanic _ else pure (.pointer (some a)):Sem Value).run P w=_
 rw [if_neg om];rfl
theorem ABO (f:Value→ByteArray→Sem (ForInStep ByteArray)) (hf:∀c s,f (Co c) s=pure (ForInStep.yield (s.push c))) (cs:List UInt8):
  ∀(acc:ByteArray),(forIn (m:=Sem) ((cs.map Co).toArray) acc f).run P w= .ok (⟨acc.data++cs.toArray⟩:ByteArray) w:=by
 induction cs with
 |nil=>intro acc;rw [forIn_toArray];simp [run_pure]
 |cons c cs ih=>
  intro acc
  have ih':=ih (acc.push c)
  rw [forIn_toArray] at ih' ⊢
  simp only [map_cons,forIn_cons]
  rw [hf,run_bind run_pure]
  dsimp only
  rw [ih']
  congr 1
  apply ByteArray.ext
  simp [ByteArray.push]
theorem AE.bytesBy {s d e:TypeId} {x:Operand} {v:Value} {n:Nat} {cs:List UInt8} {p:HP} (hx:ev E x=some v) (hs:P.underlying s=some (.slice e)) (he:P.underlying e=some (.int .u8)) (hd:P.underlying d=some .string)
  (hr:∀h:Hp,p h→CA 1 h v n (cs.map Co)) (hL:BJ p L R):AE P ⟨none, .convert s d x,ty, "",#[],none⟩ E L (AF cs):=by
 intro ρ w ha hst
 obtain ⟨h1,a1,hp⟩:=Ae (hst.pick hL)
 have hr':=Bj (hr _ hp) a1
 refine Bn ?_
 show (convert s d (ρ x)).run P w=_
 rw [ha x _ hx]
 unfold convert
 rw [run_bind (AN hs),run_bind (AN hd)]
 rcases hr' with ⟨-,hcs,a,c,rfl⟩|⟨b,off,cap,l,T,fr,rfl,hb,hcs,hlen,-⟩
 ·have:cs=[]:=by simpa using hcs
  subst this
  dsimp only
  rw [run_bind (AN he)]
  cases a<;>rfl
 ·dsimp only
  rw [run_bind (AN he)]
  dsimp only
  unfold Conv.bytesToString
  dsimp only
  have hlen':off+n≤l.length:=by omega
  rw [Nat.mul_one] at hcs
  rw [run_bind (Fk hb hlen'),hcs,run_bind (ABO _ (fun c s=>by show pure (ForInStep.yield (s.push (UInt8.ofNat (c.toNat:Int).toNat)))=_;simp) cs _)]
  simp [run_pure]
theorem AE.bytesPt {s d e:TypeId} {x:Operand} {b off n c:Nat} {l:List Value} {T:TypeId} {fr:Nat×Nat} {cs:List UInt8} (hx:ev E x=some (.slice (some ⟨b,off,none⟩) n c)) (hs:P.underlying s=some (.slice e)) (he:P.underlying e=some (.int .u8)) (hd:P.underlying d=some .string)
  (hL:BJ (pt b (.cells l.toArray T fr)) L R) (hv:(l.drop off).take n=cs.map Co) (hl:off+n≤l.length) (hc:n≤c):AE P ⟨none, .convert s d x,ty, "",#[],none⟩ E L (AF cs):=
 AE.bytesBy (n:=n) hx hs he hd (fun _ hp=>Wp hp (by rw [Nat.mul_one];exact hv) (by rw [Nat.mul_one];exact hl) hc) hL
theorem AO.strBytes {s d e:TypeId} {x:Operand} {cs:List UInt8} (hx:ev E x=some (AF cs)) {u:TypeDesc} (hs:P.underlying s=some u) (hd:P.underlying d=some (.slice e)) (he:P.underlying e=some (.int .u8)):
  AO P ⟨none, .convert s d x,ty, "",#[],none⟩ E [] fun v L'=>L'=[At e 1 v cs.length (cs.map Co)]∧∃b c,v= .slice (some ⟨b,0,none⟩) cs.length c:=by
 intro ρ w F ha hst
 let q:Question:= .appendCap cs.length 0 e
 let cap:=q.cut (w.tape w.drawn q)
 let l:=cs.map Co++List.replicate (cap-cs.length) (Value.int .u8 0)
 have hcap:cs.length≤cap:=by show cs.length≤cs.length+_;omega
 have hll:l.length=cap:=by simp [l];omega
 let w1:World:={w with drawn:=w.drawn+1}
 have hrun:(execOp ρ ⟨none, .convert s d x,ty, "",#[],none⟩).run P w= .ok (.value (.slice (some ⟨w.heap.size,0,none⟩) cs.length cap)) {w1 with heap:=w.heap.push (.cells l.toArray e (cap,cap+1))}:=by
  refine Bn ?_
  show (convert s d (ρ x)).run P w=_
  rw [ha x _ hx]
  unfold convert
  rw [run_bind (AN hs),run_bind (AN hd)]
  have:∀u:TypeDesc,(match u,TypeDesc.slice e,AF cs with
   |_, .int k, .int _ n=>Conv.intToInt k n
   |_, .float k, .int _ n=>Conv.intToFloat k n
   |_, .int k, .float s b=>Conv.floatToInt s b k
   |_, .float k, .float s b=>Conv.floatToFloat s b k
   |_, .complex k, .complex s a b=>Conv.complexToComplex s a b k
   |_, .string, .int _ n=>Conv.intToString n
   |_, .string, .string _=>pure (AF cs)
   |_, .slice e, .string s=>(do match ←underlying e with| .int .u8=>Conv.stringToBytes e s| .int .i32=>Conv.stringToRunes e s|_=>stuck "Convert: string to a slice of what?")
   | .slice _, .slice e, .slice (some a) _ _=>(do match s==d,←underlying e with|true, .int .u8=>do markStringish a;pure (AF cs)|_,_=>unsupported (.noEntry "convert/other"))
   | .slice e, .string,x=>(do match ←underlying e with| .int .u8=>Conv.bytesToString x| .int .i32=>Conv.runesToString x|_=>stuck "Convert: a slice of what to string?")
   | .unsafePointer,_,x|_, .unsafePointer,x=>Conv.unsafePointer s d x
   | .int _,_, .pointer (some _)=>unsupported .addressObserved
   |_,_,_=>unsupported (.noEntry "convert/other"):Sem Value)=(do match ←underlying e with| .int .u8=>Conv.stringToBytes e (bs cs)| .int .i32=>Conv.stringToRunes e (bs cs)|_=>stuck "Convert: string to a slice of what?"):=by
   intro u;cases u<;>rfl
  refine (congrArg (fun z:Sem Value=>z.run P w) (this u)).trans ?_
  rw [run_bind (AN he)]
  dsimp only
  unfold Conv.stringToBytes
  have hch:(choose (.appendCap (bs cs).size 0 e)).run P w= .ok cap w1:=by
   rw [Bz];simp [choose,Sem.run,Question.forced,cap,q,w1]
  rw [run_bind hch]
  have helems:(Array.map (fun b:UInt8=>Value.int .u8 (b.toNat:Int)) (bs cs).data++Array.replicate (cap-(bs cs).size) (Value.int .u8 0))=l.toArray:=by
   rw [Bz];apply Array.ext';simp [l]
  dsimp only
  rw [helems,run_bind (C7 e l.toArray)]
  have hmark:(markStringish ⟨w.heap.size,0,none⟩).run P {w1 with heap:=w.heap.push (.cells l.toArray e)}= .ok () {w1 with heap:=w.heap.push (.cells l.toArray e (cap,cap+1))}:=by
   unfold markStringish
   have hsh:(shape w.heap.size).run P {w1 with heap:=w.heap.push (.cells l.toArray e)}= .ok (some (e,cap)) {w1 with heap:=w.heap.push (.cells l.toArray e)}:=by
    simp [shape,Sem.run,World.shape?,hll]
   rw [run_bind hsh]
   dsimp only
   simp only [freeze,Sem.run]
   congr 1
   simp only [World.freeze]
   have:w.heap.push (.cells l.toArray e)=(w.heap.push (.cells l.toArray e)):=rfl
   simp only [Nat.reduceEqDiff,if_false]
   congr 1
   apply Array.ext_getElem?
   intro i
   rw [Array.getElem?_modify]
   by_cases hi:w.heap.size=i
   ·subst hi;simp
   ·rw [if_neg hi,Array.getElem?_push,Array.getElem?_push,if_neg (Ne.symm hi),if_neg (Ne.symm hi)]
  rw [run_bind hmark,Bz];rfl
 unfold DC;rw [hrun]
 refine ⟨[At e 1 (.slice (some ⟨w.heap.size,0,none⟩) cs.length cap) cs.length (cs.map Co)],⟨rfl,_,_,rfl⟩,?_,?_⟩
 ·have h1:St (pt w.heap.size (.cells l.toArray e (cap,cap+1))::F) {w1 with heap:=w.heap.push (.cells l.toArray e (cap,cap+1))}:=St.of_heap (St.new (L:=F) hst _) rfl
  refine B0 (fun h hp=>?_) h1
  refine .inr ⟨w.heap.size,cap,List.replicate (cap-cs.length) (Value.int .u8 0),(cap,cap+1),rfl,hp,by simp,by simp;omega,hcap,fun i _ h2 h3=>by simp at h2 h3;omega⟩
 ·exact (As.drew w).trans (As.new w1 _)
theorem AD5 {z:Value} {l:List Value} {n:Nat} (hz:z.cells=l.toArray) {z0:Value} (hl:l≠[]∧∀v∈l,v=z0):(Array.range n).map (fun i=>z.cells[i%z.cells.size]!)=(List.replicate n z0).toArray:=by
 apply Array.ext
 ·simp
 ·intro i h1 h2
  have hpos:0<l.length:=length_pos_iff.2 hl.1
  have hlt:i%l.length<l.length:=Nat.mod_lt _ hpos
  simp only [Array.getElem_map,Array.getElem_range,hz,size_toArray,getElem_toArray,getElem_replicate]
  rw [List.getElem!_toArray,getElem!_pos l (i%l.length) hlt]
  exact hl.2 _ (getElem_mem _)
theorem AO.make {t e:TypeId} {x y:Operand} {i j:Int} {sz by':Nat} {z z0:Value} {l:List Value} (hx:ev E x=some (AA i)) (hy:ev E y=some (AA j)) (ht:Au P t=some (e,sz,by')) (hz:Ah P e=some z) (hzc:z.cells=l.toArray) (hl:(l≠[]∧∀v∈l,v=z0))
  (hb:0≤i∧i≤j∧(by':Int)*j≤281474976710656∧j≤9223372036854775807):AO P ⟨none, .makeSlice t x y,ty, "",#[],none⟩ E [] fun v L'=> ∃b,v= .slice (some ⟨b,0,none⟩) i.toNat j.toNat∧L'=[AW b (List.replicate (j.toNat*sz) z0) e]:=by
 intro ρ w F ha hs
 unfold Au at ht
 split at ht<;>(try cases ht)
 rename_i e' hu
 split at ht<;>(try cases ht)
 rename_i inf hin
 obtain ⟨h0,h1,h2,h3⟩:=hb
 have hwi:IntKind.i64.wrap i=i:=JA om
 have hwj:IntKind.i64.wrap j=j:=JA om
 have hrun:(execOp ρ ⟨none, .makeSlice t x y,ty, "",#[],none⟩).run P w= .ok (.value (.slice (some ⟨w.heap.size,0,none⟩) i.toNat j.toNat)) {w with heap:=w.heap.push (.cells (List.replicate (j.toNat*inf.size) z0).toArray e)}:=by
  refine Bn ?_
  show (Instr.makeSlice t (ρ x) (ρ y)).run P w=_
  rw [ha x _ hx,ha y _ hy]
  unfold Instr.makeSlice
  rw [run_bind (AN hu)]
  dsimp only
  have hti:(typeInfo e).run P w= .ok inf w:=by simp [typeInfo,program,Bind.bind,Sem.bind,Pure.pure,Sem.run,hin]
  rw [run_bind (a:=i) (w':=w) rfl,run_bind (a:=j) (w':=w) rfl,run_bind hti]
  simp only [hwi,hwj]
  have c1:((decide (j<0)||decide ((inf.bytes:Int)*j>2^48))||decide (i<0)||decide (i>j))=false:=by
   simp only [Bool.or_eq_false_iff,decide_eq_false_iff_not]
   refine ⟨⟨⟨by omega,?_⟩,by omega⟩,by omega⟩
   have:(2:Int)^48=281474976710656:=by decide
   omega
  rw [c1]
  simp only [Bool.false_eq_true,if_false]
  rw [run_bind (run_askRoom (P:=P) (w:=w) _),run_bind (Be (k:=inf.size) (by simp [Ab,hin]))]
  by_cases hn:j.toNat*inf.size=0
  ·rw [if_pos hn,run_bind run_pure]
   rw [hn]
   have he:(Array.range 0).map (fun x=>(#[]:Array Value)[x%(#[]:Array Value).size]!)=(List.replicate 0 z0).toArray:=by simp
   rw [he,run_bind (C7 e _)]
   rfl
  ·rw [if_neg hn]
   rw [run_bind (FD hz),run_bind run_pure,AD5 hzc hl,run_bind (C7 e _)]
   rfl
 unfold DC;rw [hrun]
 exact ⟨_,⟨_,rfl,rfl⟩,St.new (L:=F) hs _,As.new _ _⟩
theorem Pn {sz b off n c:Nat} {ys:List Value} {h:Hp} (hr:CA sz h (.slice (some ⟨b,off,none⟩) n c) n ys) (hn:n≠0):∃(T:TypeId) (fr:Nat×Nat) (l:List Value),h b=some (.cells l.toArray T fr)∧off+n*sz≤l.length∧(l.drop off).take (n*sz)=ys∧n≤c:=by
 rcases hr with ⟨h1,-⟩|⟨b',off',cap,l,T,fr,h1,h2,h3,h4,h5⟩
 ·exact absurd h1 hn
 ·simp only [Value.slice.injEq,Option.some.injEq,Addr.mk.injEq] at h1
  obtain ⟨⟨rfl,rfl,-⟩,-,rfl⟩:=h1
  exact ⟨T,fr,l,h2,h4,h3,h5⟩
theorem AE.loadAr {t:TypeId} {x:Operand} {b off k m c sz:Nat} {ys vs:List Value} {p:HP} (hx:ev E x=some (.pointer (some ⟨b,off,none⟩))) (hp:A9 P t=some (some k)) (hL:BJ p L R)
  (hr:∀h:Hp,p h→CA sz h (.slice (some ⟨b,off,none⟩) m c) m ys) (hk:k≤m*sz) (hv:ys.take k=vs) (hm:m≠0:=by omega):AE P ⟨none, .load t x,ty, "",#[],none⟩ E L (.agg vs.toArray):=by
 intro ρ w ha hs
 obtain ⟨h1,a1,hp1⟩:=Ae (hs.pick hL)
 obtain ⟨T,fr,l,hb,hl,hys,-⟩:=Pn (hr _ hp1) hm
 show (do pure (Next.value (←Instr.loadAt t (ρ x))):Sem Next).run P w=_
 rw [ha x _ hx]
 have:(Instr.loadAt t (.pointer (some ⟨b,off,none⟩))).run P w= .ok (.agg vs.toArray) w:=by
  unfold Instr.loadAt
  rw [←hv,←hys,take_take,Nat.min_eq_left hk]
  exact GP hp (a1 _ _ hb) om
 rw [run_bind this];rfl
theorem AE.loadEl {t:TypeId} {x:Operand} {b off n c i:Nat} {ys:List Value} {v:Value} {p:HP} (hx:ev E x=some (.pointer (some ⟨b,off+i,none⟩))) (hp:A9 P t=some none) (hL:BJ p L R)
  (hr:∀h:Hp,p h→CA 1 h (.slice (some ⟨b,off,none⟩) n c) n ys) (hv:ys[i]?=some v):AE P ⟨none, .load t x,ty, "",#[],none⟩ E L v:=by
 intro ρ w ha hs
 obtain ⟨h1,a1,hp1⟩:=Ae (hs.pick hL)
 obtain ⟨T,fr,l,hb,hl,hys,-⟩:=Pn (hr _ hp1) (fun h0=>by have:=HJ (hr _ hp1);rw [h0] at this;rw [eq_nil_of_length_eq_zero (by omega:ys.length=0)] at hv;cases hv)
 show (do pure (Next.value (←Instr.loadAt t (ρ x))):Sem Next).run P w=_
 rw [ha x _ hx]
 have hlv:l[off+i]?=some v:=by
  rw [←hys,List.getElem?_take] at hv
  split at hv
  ·simpa using hv
  ·cases hv
 have:(Instr.loadAt t (.pointer (some ⟨b,off+i,none⟩))).run P w= .ok v w:=by
  unfold Instr.loadAt
  exact H3 hp (a1 _ _ hb) hlv
 rw [run_bind this];rfl
theorem Pr {sz n:Nat} {v:Value} {ys:List Value} (hr:CA sz (fun b=>w.heap[b]?) v n ys):(Builtin.firstCells sz n v).run P w= .ok ys.toArray w:=by
 rcases hr with ⟨rfl,rfl,a,c,rfl⟩|⟨b,off,cap,l,T,fr,rfl,hb,h3,h4,-⟩
 ·cases a with
  |none=>rfl
  |some a=>show (loadCells a (0*sz)).run P w=_;rw [Nat.zero_mul];rfl
 ·show (loadCells ⟨b,off,none⟩ (n*sz)).run P w=_
  rw [Fk hb h4,h3]
def Nc (sz:Nat) (h:Hp) (u:Value) (m:Nat) (ys:List Value):Prop:=CA sz h u m ys∨∃s:List UInt8,u=AF s∧sz=1∧m=s.length∧ys=s.map Co
theorem Qm {sz:Nat} {h h':Hp} {v:Value} {n:Nat} {ys:List Value} (hr:Nc sz h v n ys) (hle:∀b o,h b=some o→h' b=some o):Nc sz h' v n ys:=hr.imp (fun h=>Bj h hle) id
theorem Gy {sz:Nat} {h:Hp} {v:Value} {n:Nat} {ys:List Value} (hr:Nc sz h v n ys):ys.length=n*sz:=by
 rcases hr with hr|⟨s,-,rfl,rfl,rfl⟩
 ·exact HJ hr
 ·simp
theorem ME {sz m:Nat} {u:Value} {ys:List Value} (hr:Nc sz (fun b=>w.heap[b]?) u m ys):(Builtin.lenOf u).run P w= .ok m w:=by
 rcases hr with (⟨rfl,-,a,c,rfl⟩|⟨b,off,cap,l,T,fr,rfl,-⟩)|⟨s,rfl,-,rfl,-⟩
 ·rfl
 ·rfl
 ·show (pure (bs s).size:Sem Nat).run P w=_
  rw [Bz];rfl
theorem Mc {sz m k:Nat} {u:Value} {ys:List Value} (hr:Nc sz (fun b=>w.heap[b]?) u m ys) (hk:k≤m):(Builtin.firstCells sz k u).run P w= .ok (ys.take (k*sz)).toArray w:=by
 rcases hr with (⟨rfl,rfl,a,c,rfl⟩|⟨b,off,cap,l,T,fr,rfl,hb,h3,h4,-⟩)|⟨s,rfl,rfl,rfl,rfl⟩
 ·obtain rfl:k=0:=by omega
  cases a with
  |none=>simp [Builtin.firstCells,run_pure]
  |some a=>show (loadCells a (0*sz)).run P w=_;rw [Nat.zero_mul];rfl
 ·show (loadCells ⟨b,off,none⟩ (k*sz)).run P w=_
  have hle:k*sz≤m*sz:=Nat.mul_le_mul_right _ hk
  rw [Fk hb om,←h3,take_take,Nat.min_eq_left hle]
 ·show (pure (((bs s).extract 0 k).data.map fun b=>Value.int .u8 b.toNat):Sem (Array Value)).run P w=_
  rw [PM]
  simp [run_pure,map_take]
theorem ZG {sz m:Nat} {u:Value} {ys:List Value} (hr:Nc sz (fun b=>w.heap[b]?) u m ys):(Builtin.firstCells sz m u).run P w= .ok ys.toArray w:=by
 rw [Mc hr (Nat.le_refl _),take_of_length_le (Nat.le_of_eq (Gy hr))]
theorem AO.appendG {t tx e:TypeId} {x y:Operand} {v u:Value} {n m sz by':Nat} {xs ys:List Value} {z:Value} {zl:List Value} {p:HP} {ts:Array TypeId} (hts:ts= #[t,tx]) (hx:ev E x=some v) (hy:ev E y=some u) (ht:Au P t=some (e,sz,by')) (htx:(∃e',P.underlying tx=some (.slice e'))∨P.underlying tx=some .string)
  (hz:Ah P e=some z) (hzc:z.cells=zl.toArray) (hzl:zl.length=sz) (hcell:∀y∈ys,AB y=true) (hrd:∀h:Hp,p h→Nc sz h u m ys) (hb:(n+m)*by'≤140737488355328) (hb0:0<by'):
  AO P ⟨none, .call {callee:= .builtin .append,args:= #[x,y],argTypes:=ts},ty, "",#[],none⟩ E [At e sz v n xs,p] fun v' L'=>(∃a c,v'= .slice a (n+m) c)∧L'=[At e sz v' (n+m) (xs++ys),p]:=by
 intro ρ w F ha hs
 subst hts
 have hs2:St (p::At e sz v n xs::F) w:=EJ hs
 obtain ⟨hp1,ap,hpp⟩:=Ae hs2
 have hru:Nc sz (fun b=>w.heap[b]?) u m ys:=Qm (hrd _ hpp) ap
 obtain ⟨hv1,av,hvv⟩:=Ae hs
 have hrv:CA sz (fun b=>w.heap[b]?) v n xs:=Bj (Ad hvv) av
 unfold Au at ht
 split at ht<;>(try cases ht)
 rename_i e' hu
 split at ht<;>(try cases ht)
 rename_i inf hin
 have hti:∀w:World,(typeInfo e).run P w= .ok inf w:=fun w=>by simp [typeInfo,program,Bind.bind,Sem.bind,Pure.pure,Sem.run,hin]
 have hsz:∀w:World,(sizeOf e).run P w= .ok inf.size w:=fun w=>Be (by simp [Ab,hin])
 have hlen:(Builtin.lenOf u).run P w= .ok m w:=ME hru
 obtain ⟨a,sCap,hva⟩:∃a sCap,v= .slice a n sCap:=MA hvv
 have main:∃v' w',(Builtin.append_ #[t,tx] ty #[v,u]).run P w= .ok v' w'∧St (At e inf.size v' (n+m) (xs++ys)::p::F) w'∧As w w':=by
  rcases htx with ⟨e',htx⟩|htx
  all_goals
   unfold Builtin.append_
   simp only [List.getElem?_toArray,List.getElem?_cons_zero,List.getElem?_cons_succ]
   subst hva
   rw [run_bind (AN hu)]
   dsimp only
   rw [run_bind (hsz w)]
   rw [run_bind (AN htx),run_bind run_pure]
   dsimp only
   simp only [Bool.false_eq_true,if_false,Bool.not_false,if_true]
   rw [run_bind hlen]
   by_cases hroom:n+m≤sCap
   ·rw [if_pos hroom,run_bind (ZG hru)]
    rcases hvv with ⟨hv0,rfl,rfl⟩|⟨b,cap,rest,fr,hv0,hb1,hl1,hl2,hl3,hl4⟩
    ·simp only [Value.slice.injEq] at hv0
     obtain ⟨rfl,-,rfl⟩:=hv0
     have hm0:m=0:=by omega
     subst hm0
     have hys:ys=[]:=by
      have:=Gy hru;simpa using this
     subst hys
     refine ⟨_,w,rfl,?_, .refl _⟩
     exact hs
    ·simp only [Value.slice.injEq] at hv0
     obtain ⟨rfl,-,rfl⟩:=hv0
     have hyl:=Gy hru
     have hbw:=av _ _ hb1
     have hmul:n*inf.size+m*inf.size≤sCap*inf.size:=by rw [←Nat.add_mul];exact Nat.mul_le_mul_right _ hroom
     have hst:=Do (P:=P) ys w (xs++rest) (n*inf.size) 0 hbw (by simp;omega) hcell (fun i h1 h2=>hl4 i om om)
     dsimp only
     rw [Addr.add_eq,Nat.zero_add,run_bind hst]
     refine ⟨_,_,rfl,?_,As.upd _ _ _⟩
     rw [Nat.add_zero]
     have hspl:CX (xs++rest) (n*inf.size) ys=(xs++ys)++rest.drop ys.length:=by
      unfold CX
      rw [←hl1,take_left,append_assoc,append_assoc]
      congr 2
      rw [drop_append,drop_eq_nil_of_le om]
      simp
     rw [hspl]
     -- the block is owned: its frame stays
     obtain ⟨g1,g2,gd,b1,b2,gp,gL⟩:=hs
     have gp':=gp
     rcases gp with ⟨gv,-,-⟩|⟨b',cap',rest',fr',gv,gb,gl1,gl2,gl3,gl4⟩
     ·simp at gv
     ·simp only [Value.slice.injEq,Option.some.injEq,Addr.mk.injEq] at gv
      obtain ⟨⟨rfl,-,-⟩,-,rfl⟩:=gv
      have h2b:g2 b=none:=(gd b).resolve_left (by rw [gb];simp)
      refine ⟨fun c=>if c=b then some (.cells ((xs++ys)++rest.drop ys.length).toArray e fr) else none,g2,fun c=>?_,fun c o ec=>?_,fun c o ec=>?_,?_,gL⟩
      ·by_cases ec:c=b
       ·exact .inr (ec▸h2b)
       ·exact .inl (if_neg ec)
      ·by_cases hc:c=b
       ·subst hc;simp only [if_true] at ec;injection ec with ec;rw [←ec];exact SD hbw
       ·simp [hc] at ec
      ·have hc:c≠b:=by rintro rfl;rw [h2b] at ec;cases ec
       have:=b2 _ _ ec
       simpa [upd,Ne.symm hc] using this
      ·refine .inr ⟨b,sCap,rest.drop ys.length,fr,rfl,by simp,?_,?_,hroom,hl4⟩
       ·simp [hl1,hyl,Nat.add_mul]
       ·simp;omega
   ·rw [if_neg hroom]
    have hn1:¬(((n+m:Nat):Int)>IntKind.i64.max∧(False∨inf.bytes=0)):=by
     rintro ⟨-,h⟩
     rcases h with h|h
     ·cases h
     ·omega
    rw [run_bind (hti w)]
    rw [if_neg hn1]
    rw [run_bind (hti w)]
    have hfit:=growslice_fits (need:=n+m) (old:=sCap) (bytes:=inf.bytes) om hb
    rw [if_neg om]
    let q:Question:= .appendCap (n+m) sCap e
    let cap:=q.cut (w.tape w.drawn q)
    have hcap:n+m≤cap:=by show n+m≤n+m+_;omega
    let w1:World:={w with drawn:=w.drawn+1}
    have hch:(choose (.appendCap (n+m) sCap e)).run P w= .ok cap w1:=by simp [choose,Sem.run,Question.forced,cap,q,w1]
    rw [run_bind hch,run_bind (hti w1),run_bind (run_askRoom (P:=P) (w:=w1) _)]
    have hrv1:CA inf.size (fun b=>w1.heap[b]?) (.slice a n sCap) n xs:=hrv
    have hru1:Nc inf.size (fun b=>w1.heap[b]?) u m ys:=hru
    rw [run_bind (Pr hrv1),run_bind (ZG hru1),run_bind (FD hz)]
    have hzs:(Builtin.zeroCells z.cells (cap-(n+m)))=((List.range ((cap-(n+m))*zl.length)).map fun i=>zl[i%zl.length]!).toArray:=by
     unfold Builtin.zeroCells
     rw [hzc]
     apply Array.ext'
     simp [List.getElem!_toArray]
    rw [hzs]
    let rest:=(List.range ((cap-(n+m))*zl.length)).map fun i=>zl[i%zl.length]!
    have hcells:xs.toArray++ys.toArray++rest.toArray=((xs++ys)++rest).toArray:=by simp
    rw [show xs.toArray++ys.toArray++((List.range ((cap-(n+m))*zl.length)).map fun i=>zl[i%zl.length]!).toArray=((xs++ys)++rest).toArray from hcells]
    rw [run_bind (C7 e _)]
    refine ⟨_,_,rfl,?_,(As.drew w).trans (As.new w1 _)⟩
    have hsF:St (p::F) w1:=(St.tail hs).drew
    have h1:=St.new hsF (.cells ((xs++ys)++rest).toArray e (0,0))
    refine B0 (fun h hp=>?_) h1
    refine .inr ⟨w1.heap.size,cap,rest,(0,0),rfl,hp,?_,?_,hcap,Bd _ _⟩
    ·simp [HJ hrv,Gy hru,Nat.add_mul]
    ·simp only [length_append,HJ hrv,Gy hru,rest,length_map,length_range,hzl]
     rw [←Nat.add_mul,←Nat.add_mul]
     exact Nat.le_of_eq (by congr 1;omega)
 obtain ⟨v',w',hr,h1,h2⟩:=main
 have hrun:(execOp ρ ⟨none, .call {callee:= .builtin .append,args:= #[x,y],argTypes:= #[t,tx]},ty, "",#[],none⟩).run P w= .ok (.value v') w':=by
  rw [CR]
  refine Bn ?_
  simp only [map_toArray,map_cons,map_nil]
  rw [ha x _ hx,ha y _ hy];exact hr
 obtain ⟨hq1,-,hqq⟩:=Ae h1
 unfold DC;rw [hrun]
 exact ⟨_,⟨MA hqq,rfl⟩,h1,h2⟩
theorem AO.append {t tx e:TypeId} {x y:Operand} {v u:Value} {n m sz by':Nat} {xs ys:List Value} {z:Value} {zl:List Value} {p:HP} {ts:Array TypeId} (hts:ts= #[t,tx]) (hx:ev E x=some v) (hy:ev E y=some u) (ht:Au P t=some (e,sz,by')) (htx:(∃e',P.underlying tx=some (.slice e'))∨P.underlying tx=some .string)
  (hz:Ah P e=some z) (hzc:z.cells=zl.toArray) (hzl:zl.length=sz) (hcell:∀y∈ys,AB y=true) (hrd:∀h:Hp,p h→CA sz h u m ys) (hb:(n+m)*by'≤140737488355328) (hb0:0<by'):
  AO P ⟨none, .call {callee:= .builtin .append,args:= #[x,y],argTypes:=ts},ty, "",#[],none⟩ E [At e sz v n xs,p] fun v' L'=>(∃a c,v'= .slice a (n+m) c)∧L'=[At e sz v' (n+m) (xs++ys),p]:=
 AO.appendG hts hx hy ht htx hz hzc hzl hcell (fun h hp=> .inl (hrd h hp)) hb hb0
theorem St.emp2 {p:HP} {F:List HP} (hs:St (p::F) w):St (p::(fun _=>True)::F) w:=
 Gz (L:=F) (L':=(fun _=>True)::F) (fun h hs=>⟨fun _=>none,h,fun _=> .inl rfl,fun _ _ e=>(by cases e),fun _ _ e=>e,trivial,hs⟩) hs
theorem AO.appendS {t tx e:TypeId} {x y:Operand} {v:Value} {s:List UInt8} {n by':Nat} {xs:List Value} {z:Value} {zl:List Value} {ts:Array TypeId} (hts:ts= #[t,tx]) (hx:ev E x=some v) (hy:ev E y=some (AF s)) (ht:Au P t=some (e,1,by')) (htx:P.underlying tx=some .string)
  (hz:Ah P e=some z) (hzc:z.cells=zl.toArray) (hzl:zl.length=1) (hb:(n+s.length)*by'≤140737488355328) (hb0:0<by'):
  AO P ⟨none, .call {callee:= .builtin .append,args:= #[x,y],argTypes:=ts},ty, "",#[],none⟩ E [At e 1 v n xs] fun v' L'=>(∃a c,v'= .slice a (n+s.length) c)∧L'=[At e 1 v' (n+s.length) (xs++s.map Co)]:=by
 intro ρ w F ha hs
 have q:=AO.appendG (P:=P) (E:=E) (ty:=ty) (p:=fun _=>True) (n:=n) (xs:=xs) hts hx hy ht (.inr htx) hz hzc hzl (ys:=s.map Co) (by simp [AB]) (fun h _=> .inr ⟨s,rfl,rfl,rfl,rfl⟩) hb hb0 ρ w F ha (St.emp2 hs)
 refine q.mono ?_
 rintro v' w' ⟨L',⟨h1,rfl⟩,h2,h3⟩
 exact ⟨_,⟨h1,rfl⟩,FH (EJ h2),h3⟩
theorem AO.post {op:Op} {pre:List HP} {K K':Value→List HP→Prop} (h:AO P ⟨none,op,ty, "",#[],none⟩ E pre K) (hk:∀v L',K v L'→∃L'',K' v L''∧∀F w,St (L'++F) w→St (L''++F) w):AO P ⟨none,op,ty, "",#[],none⟩ E pre K':=by
 intro ρ w F ha hs
 refine (h ρ w F ha hs).mono ?_
 rintro v w' ⟨L',hv,hs',hk'⟩
 obtain ⟨L'',h1,h2⟩:=hk v L' hv
 exact ⟨L'',h1,h2 F w' hs',hk'⟩
theorem AO.append1 {t e:TypeId} {x y:Operand} {v:Value} {b n m c sz by':Nat} {xs l:List Value} {T:TypeId} {z:Value} {zl:List Value} {ts:Array TypeId} (hts:ts= #[t,t]) (hx:ev E x=some v) (hy:ev E y=some (.slice (some ⟨b,0,none⟩) m c)) (ht:Au P t=some (e,sz,by'))
  (hz:Ah P e=some z) (hzc:z.cells=zl.toArray) (hzl:zl.length=sz) (hcell:∀y∈l,AB y=true) (hl:l.length=m*sz) (hmc:m≤c) (hb:(n+m)*by'≤140737488355328) (hb0:0<by'):
  AO P ⟨none, .call {callee:= .builtin .append,args:= #[x,y],argTypes:=ts},ty, "",#[],none⟩ E [At e sz v n xs,AW b l T] fun v' L'=>(∃a c,v'= .slice a (n+m) c)∧L'=[At e sz v' (n+m) (xs++l)]:=by
 have ht':∃e',P.underlying t=some (.slice e'):=by
  unfold Au at ht
  split at ht<;>(try cases ht)
  rename_i e' hu
  exact ⟨e',hu⟩
 refine AO.post (AO.append (p:=AW b l T) (ys:=l) (m:=m) hts hx hy ht (.inl ht') hz hzc hzl hcell (fun h hp=>Wp hp (by rw [drop_zero,←hl,take_length]) om hmc) hb hb0) ?_
 rintro v' L' ⟨h1,rfl⟩
 exact ⟨_,⟨h1,rfl⟩,fun F w hs=>FH (EJ hs)⟩
theorem AO.copyG {dT sT e:TypeId} {x y:Operand} {u:Value} {b off dLen dCap m sz by':Nat} {l ys:List Value} {T:TypeId} {fr:Nat×Nat} {p:HP} {ts:Array TypeId} (hts:ts= #[dT,sT]) (hx:ev E x=some (.slice (some ⟨b,off,none⟩) dLen dCap)) (hy:ev E y=some u) (ht:Au P dT=some (e,sz,by'))
  (hrd:∀h:Hp,p h→Nc sz h u m ys) (hcell:∀y∈ys,AB y=true) (hoff:off+dLen*sz≤l.length) (hf:V5 fr off (dLen*sz)):
  AO P ⟨none, .call {callee:= .builtin .copy,args:= #[x,y],argTypes:=ts},ty, "",#[],none⟩ E [pt b (.cells l.toArray T fr),p] fun v' L'=>v'=AA (min m dLen:Nat)∧L'=[pt b (.cells (CX l off (ys.take (min m dLen*sz))).toArray T fr),p]:=by
 intro ρ w F ha hs
 subst hts
 have hs2:St (p::pt b (.cells l.toArray T fr)::F) w:=EJ hs
 obtain ⟨hp1,ap,hpp⟩:=Ae hs2
 have hru:Nc sz (fun b=>w.heap[b]?) u m ys:=Qm (hrd _ hpp) ap
 have hbw:w.heap[b]?=some (.cells l.toArray T fr):=St.pt (L:=p::F) hs
 unfold Au at ht
 split at ht<;>(try cases ht)
 rename_i e' hu
 split at ht<;>(try cases ht)
 rename_i inf hin
 have hlen:(Builtin.lenOf u).run P w= .ok m w:=ME hru
 have hyl:=Gy hru
 have hfc:(Builtin.firstCells inf.size (min m dLen) u).run P w= .ok (ys.take (min m dLen*inf.size)).toArray w:=Mc hru (Nat.min_le_left _ _)
 have hle2:min m dLen*inf.size≤dLen*inf.size:=Nat.mul_le_mul_right _ (Nat.min_le_right _ _)
 have hcl:(ys.take (min m dLen*inf.size)).length≤dLen*inf.size:=by simp;omega
 have hrun:(execOp ρ ⟨none, .call {callee:= .builtin .copy,args:= #[x,y],argTypes:= #[dT,sT]},ty, "",#[],none⟩).run P w= .ok (.value (AA (min m dLen:Nat))) (upd w b (.cells (CX l off (ys.take (min m dLen*inf.size))).toArray T fr)):=by
  rw [CR]
  refine Bn ?_
  simp only [map_toArray,map_cons,map_nil]
  rw [ha x _ hx,ha y _ hy]
  unfold Builtin.copy_
  simp only [List.getElem?_toArray,List.getElem?_cons_zero,List.getElem?_cons_succ]
  rw [run_bind (AN hu)]
  dsimp only
  rw [run_bind hlen,run_bind (Be (k:=inf.size) (by simp [Ab,hin]))]
  rw [show Nat.min m dLen=min m dLen from rfl,run_bind hfc]
  have hst:=Do (P:=P) (ys.take (min m dLen*inf.size)) w l off 0 hbw om (fun y hy=>hcell y (mem_of_mem_take hy)) (fun i h1 h2=>hf i om om)
  dsimp only
  rw [run_bind hst];rfl
 unfold DC;rw [hrun]
 exact ⟨_,⟨rfl,rfl⟩,St.upd (L:=p::F) hs,As.upd _ _ _⟩
theorem AO.copy {dT sT e:TypeId} {x y:Operand} {u:Value} {b off dLen dCap m sz by':Nat} {l ys:List Value} {T:TypeId} {fr:Nat×Nat} {p:HP} {ts:Array TypeId} (hts:ts= #[dT,sT]) (hx:ev E x=some (.slice (some ⟨b,off,none⟩) dLen dCap)) (hy:ev E y=some u) (ht:Au P dT=some (e,sz,by'))
  (hrd:∀h:Hp,p h→CA sz h u m ys) (hcell:∀y∈ys,AB y=true) (hoff:off+dLen*sz≤l.length) (hf:V5 fr off (dLen*sz)):
  AO P ⟨none, .call {callee:= .builtin .copy,args:= #[x,y],argTypes:=ts},ty, "",#[],none⟩ E [pt b (.cells l.toArray T fr),p] fun v' L'=>v'=AA (min m dLen:Nat)∧L'=[pt b (.cells (CX l off (ys.take (min m dLen*sz))).toArray T fr),p]:=
 AO.copyG hts hx hy ht (fun h hp=> .inl (hrd h hp)) hcell hoff hf
theorem AO.copyS {dT sT e:TypeId} {x y:Operand} {s:List UInt8} {b off dLen dCap by':Nat} {l:List Value} {T:TypeId} {fr:Nat×Nat} {ts:Array TypeId} (hts:ts= #[dT,sT]) (hx:ev E x=some (.slice (some ⟨b,off,none⟩) dLen dCap)) (hy:ev E y=some (AF s)) (ht:Au P dT=some (e,1,by'))
  (hoff:off+dLen≤l.length) (hf:V5 fr off dLen):
  AO P ⟨none, .call {callee:= .builtin .copy,args:= #[x,y],argTypes:=ts},ty, "",#[],none⟩ E [pt b (.cells l.toArray T fr)] fun v' L'=>v'=AA (min s.length dLen:Nat)∧L'=[pt b (.cells (CX l off ((s.map Co).take (min s.length dLen))).toArray T fr)]:=by
 intro ρ w F ha hs
 have q:=AO.copyG (P:=P) (E:=E) (ty:=ty) (p:=fun _=>True) (m:=s.length) (ys:=s.map Co) hts hx hy ht (fun h _=> .inr ⟨s,rfl,rfl,rfl,rfl⟩) (by simp [AB]) (by simpa using hoff) (by simpa using hf) ρ w F ha (St.emp2 hs)
 refine q.mono ?_
 rintro v' w' ⟨L',⟨h1,rfl⟩,h2,h3⟩
 refine ⟨_,⟨h1,rfl⟩,?_,h3⟩
 have:=FH (EJ h2)
 rw [Nat.mul_one] at this
 exact this
theorem AE.loadSl {t:TypeId} {x:Operand} {b n c i:Nat} {ys:List Value} {v:Value} {T:TypeId} (hx:ev E x=some (.pointer (some ⟨b,0+i,none⟩))) (hp:A9 P t=some none) (hL:BJ (At T 1 (.slice (some ⟨b,0,none⟩) n c) n ys) L R)
  (hv:ys[i]?=some v):AE P ⟨none, .load t x,ty, "",#[],none⟩ E L v:=AE.loadEl hx hp hL (fun _ hp=>Ad hp) hv
theorem G.rdAny {W:World} {n:Nat} {ds:List Deferred} {X:Act→World→Prop} {p:HP} {sz m:Nat} {v:Value} {ys:List Value} (hr:∀h:Hp,p h→CA sz h v m ys) (hL:BJ p L R)
  (h:∀a c,v= .slice a m c→ys.length=m*sz→G W n ds E L X):G W n ds E L X:=by
 intro a w he hk hs
 obtain ⟨h1,-,hp⟩:=Ae (hs.pick hL)
 have hl:=HJ (hr _ hp)
 rcases hr _ hp with ⟨rfl,rfl,ad,c,rfl⟩|⟨b,off,cap,l,T,fr,hv,-⟩
 ·exact h _ _ rfl hl a w he hk hs
 ·exact h _ _ hv hl a w he hk hs
theorem G.rdShape {W:World} {n:Nat} {ds:List Deferred} {X:Act→World→Prop} {p:HP} {sz m c:Nat} {ad:Option Addr} {ys:List Value} (hr:∀h:Hp,p h→CA sz h (.slice ad m c) m ys) (hL:BJ p L R) (hm:0<m)
  (h:∀b off,ad=some ⟨b,off,none⟩→G W n ds E L X):G W n ds E L X:=by
 intro a w he hk hs
 obtain ⟨h1,-,hp⟩:=Ae (hs.pick hL)
 rcases hr _ hp with ⟨rfl,-⟩|⟨b,off,cap,l,T,fr,hv,-⟩
 ·omega
 ·simp only [Value.slice.injEq] at hv
  exact h b off hv.1 a w he hk hs
theorem G.slShape {W:World} {n:Nat} {ds:List Deferred} {X:Act→World→Prop} {T:TypeId} {sz m:Nat} {v:Value} {xs:List Value} (hL:BJ (At T sz v m xs) L R) (hm:0<m)
  (h:∀b c,v= .slice (some ⟨b,0,none⟩) m c→m≤c→xs.length=m*sz→G W n ds E L X):G W n ds E L X:=by
 intro a w he hk hs
 obtain ⟨h1,-,hp⟩:=Ae (hs.pick hL)
 rcases hp with ⟨-,h2,-⟩|⟨b,cap,rest,fr,hv,-,h3,-,h4,-⟩
 ·omega
 ·exact h b cap hv h4 h3 a w he hk hs
theorem G.slAny {W:World} {n:Nat} {ds:List Deferred} {X:Act→World→Prop} {T:TypeId} {sz m:Nat} {v:Value} {xs:List Value} (hL:BJ (At T sz v m xs) L R)
  (h:∀a c,v= .slice a m c→xs.length=m*sz→G W n ds E L X):G W n ds E L X:=by
 intro a w he hk hs
 obtain ⟨h1,-,hp⟩:=Ae (hs.pick hL)
 obtain ⟨x,c,hv⟩:=MA hp
 exact h x c hv (O2 hp) a w he hk hs
end
def DP (P:Program) (t:TypeId):Option Nat:=
 match P.underlying t with
 |some (.struct fs)=>if (List.range fs.size).all (fun i=>(fs[i]?).any fun f=>f.offset==i&&((P.info? f.type).map (·.size))==some 1) then some fs.size else none
 |_=>none
section
variable {P:Program} {E:Bi} {L R:List HP} {ty:TypeId} {w:World}
theorem UZ {fs:Array Field} (h:(List.range fs.size).all (fun i=>(fs[i]?).any fun f=>f.offset==i&&((P.info? f.type).map (·.size))==some 1)=true):
  (fs.mapM (m:=Sem) fun f=>do pure (f.offset,←sizeOf f.type)).run P w= .ok ((List.range fs.size).map fun i=>(i,1)).toArray w:=by
 have key:∀(l:List Field) (k:Nat),(∀i f,l[i]?=some f→f.offset=k+i∧(P.info? f.type).map (·.size)=some 1)→
   (l.mapM (m:=Sem) fun f=>do pure (f.offset,←sizeOf f.type)).run P w= .ok ((List.range' k l.length).map fun i=>(i,1)) w:=by
  intro l
  induction l with
  |nil=>intro k _;rfl
  |cons f l ih=>
   intro k hl
   rw [mapM_cons]
   obtain ⟨h1,h2⟩:=hl 0 f rfl
   rw [run_bind (a:=(k,1)) (w':=w) (by rw [run_bind (Be (k:=1) h2),h1];rfl)]
   rw [run_bind (ih (k+1) (fun i f' hf=>by have:=hl (i+1) f' (by simpa using hf);exact ⟨by omega,this.2⟩))]
   simp [run_pure,List.range'_succ]
 have hk:=key fs.toList 0 (fun i f hf=>by
  have hlt:i<fs.size:=by
   rcases Nat.lt_or_ge i fs.size with h'|h'
   ·exact h'
   ·rw [List.getElem?_eq_none (by simpa using h')] at hf;cases hf
  have:=all_eq_true.1 h i (mem_range.2 hlt)
  rw [show fs[i]?=some f from by rw [←Array.getElem?_toList];exact hf] at this
  simp only [Option.any_some,Bool.and_eq_true,beq_iff_eq] at this
  exact ⟨by omega,this.2⟩)
 have hm:(fs.mapM (m:=Sem) fun f=>do pure (f.offset,←sizeOf f.type))=(Functor.map List.toArray (fs.toList.mapM (m:=Sem) fun f=>do pure (f.offset,←sizeOf f.type))):=by
  rw [Array.mapM_eq_mapM_toList]
 rw [hm]
 show (Functor.map List.toArray _:Sem _).run P w=_
 rw [show (Functor.map List.toArray (fs.toList.mapM (m:=Sem) fun f=>do pure (f.offset,←sizeOf f.type)):Sem _)=((fs.toList.mapM (m:=Sem) fun f=>do pure (f.offset,←sizeOf f.type))>>=fun l=>pure l.toArray) from rfl]
 rw [run_bind hk]
 simp [run_pure,range_eq_range']
def AQ:List Value→List (Nat×Value)→List Value
 |l,[]=>l
 |l,(i,v)::us=>AQ (l.set i v) us
theorem Zt {n:Nat} (place:Nat→Option (Nat×Nat)) (hp:∀i,i<n→place i=some (i,1)):∀(us:List (Nat×Value)) (l:List Value),l.length=n→(∀u∈us,u.1<n∧AB u.2=true)→
  Instr.fill place l.toArray us=some (AQ l us).toArray:=by
 intro us
 induction us with
 |nil=>intro l _ _;rfl
 |cons u us ih=>
  intro l hl hu
  obtain ⟨i,v⟩:=u
  obtain ⟨h1,h2⟩:=hu (i,v) (by simp)
  unfold Instr.fill
  rw [hp i h1]
  dsimp only
  rw [ER h2,if_neg (by simp;omega)]
  have:(#[v].zipIdx.foldl (fun cs (c,j)=>cs.setIfInBounds (i+j) c) l.toArray:Array Value)=(l.set i v).toArray:=by simp
  rw [this]
  exact ih _ (by simpa using hl) (fun u hu'=>hu u (by simp [hu']))
theorem G4 {ρ:Operand→Value} (ha:KV E ρ):∀(ps:List (Nat×Operand)) (us:List (Nat×Value)),ps.map (fun p=>(p.1,ev E p.2))=us.map (fun p=>(p.1,some p.2))→ps.map (fun p=>(p.1,ρ p.2))=us:=by
  intro ps
  induction ps with
  |nil=>intro us h;cases us with
    |nil=>rfl
    |cons u us=>simp at h
  |cons p ps ih=>intro us h;cases us with
    |nil=>simp at h
    |cons u us=>
      simp only [map_cons,List.cons.injEq,Prod.mk.injEq] at h ⊢
      refine ⟨?_,ih us h.2⟩
      obtain ⟨i,v⟩:=u
      obtain ⟨⟨h1,h2⟩,-⟩:=h
      simp only at h1 h2
      rw [h1,ha _ _ h2]
theorem AE.build {t:TypeId} {parts:Array (Nat×Operand)} {n:Nat} {zl:List Value} {us:List (Nat×Value)} (hf:DP P t=some n) (hz:Ah P t=some (.agg zl.toArray)) (hzl:zl.length=n)
  (hu:parts.toList.map (fun p=>(p.1,ev E p.2))=us.map (fun p=>(p.1,some p.2))) (hc:∀u∈us,u.1<n∧AB u.2=true):
  AE P ⟨none, .build t parts,ty, "",#[],none⟩ E L (.agg (AQ zl us).toArray):=by
 intro ρ w ha _
 unfold DP at hf
 split at hf<;>(try cases hf)
 rename_i fs hus
 split at hf<;>(try cases hf)
 rename_i hall
 refine Bn ?_
 show (Instr.build t (parts.map fun p=>(p.1,ρ p.2))).run P w=_
 unfold Instr.build
 rw [run_bind (FD hz)]
 dsimp only
 rw [run_bind (AN hus)]
 dsimp only
 have hpl:=UZ (P:=P) (w:=w) hall
 rw [run_bind hpl]
 have hparts:(parts.map fun p=>(p.1,ρ p.2)).toList=us:=by
  rw [Array.toList_map];exact G4 ha _ _ hu
 rw [hparts]
 rw [show Value.cells (.agg zl.toArray)=zl.toArray from rfl,Zt (n:=fs.size) (fun i=>((List.range fs.size).map fun i=>(i,1)).toArray[i]?) (fun i hi=>by simp [hi]) us zl hzl hc]
 rfl
theorem ADc {sz:Nat}:∀(vs:List (List Value)) (k:Nat) (pre post:List Value),pre.length=k*sz→(∀v∈vs,v.length=sz)→post.length=vs.length*sz→
  ∀(us:List (Nat×Value)),us.map (fun u=>(u.1,u.2.cells))=(vs.zipIdx k).map (fun p=>(p.2,p.1.toArray))→Instr.fill (fun i=>some (i*sz,sz)) (pre++post).toArray us=some (pre++vs.flatten).toArray:=by
 intro vs
 induction vs with
 |nil=>
  intro k pre post _ _ hp us hu
  have:us=[]:=by simpa using hu
  subst this
  have:post=[]:=by simpa using hp
  subst this
  simp [Instr.fill]
 |cons v vs ih=>
  intro k pre post h1 h2 h3 us hu
  cases us with
  |nil=>simp at hu
  |cons u us=>
   obtain ⟨i,x⟩:=u
   simp only [zipIdx_cons,map_cons,List.cons.injEq,Prod.mk.injEq] at hu
   obtain ⟨⟨rfl,hx⟩,hu⟩:=hu
   have hv:=h2 v (by simp)
   unfold Instr.fill
   dsimp only
   rw [hx]
   simp only [length_cons,Nat.add_mul,Nat.one_mul] at h3
   rw [if_neg (by simp [hv];omega)]
   have hfold:∀(v:List Value) (j:Nat) (pre post:List Value),pre.length=i*sz+j→v.length≤post.length→((v.zipIdx j).foldl (fun cs x=>cs.setIfInBounds (i*sz+x.2) x.1) (pre++post).toArray:Array Value)=(pre++v++post.drop v.length).toArray:=by
    intro v
    induction v with
    |nil=>intro j pre post _ _;simp
    |cons c v ihv=>
     intro j pre post hpre hle
     cases post with
     |nil=>simp at hle
     |cons q post=>
      simp only [zipIdx_cons,foldl_cons,length_cons] at *
      have hset:((pre++q::post).toArray.setIfInBounds (i*sz+j) c)=((pre++[c])++post).toArray:=by
       rw [←hpre];simp
      have:=ihv (j+1) (pre++[c]) post (by simp;omega) om
      rw [hset,this]
      simp
   have hf:=hfold v 0 pre post (by simpa using h1) (by rw [hv];omega)
   have hz0:(Array.foldl (fun (cs:Array Value) (x:Value×Nat)=>cs.setIfInBounds (i*sz+x.2) x.1) (pre++post).toArray v.toArray.zipIdx)=(pre++v++post.drop v.length).toArray:=by
    rw [←Array.foldl_toList,Array.toList_zipIdx];exact hf
   rw [show (v.toArray.zipIdx.foldl (fun cs (c,j)=>cs.setIfInBounds (i*sz+j) c) (pre++post).toArray:Array Value)=(pre++v++post.drop v.length).toArray from hz0]
   have:=ih (i+1) (pre++v) (post.drop v.length) (by simp [h1,hv,Nat.add_mul]) (fun y hy=>h2 y (by simp [hy])) (by simp [hv];omega) us hu
   rw [this]
   simp
theorem AO.buildSlice {t e:TypeId} {len:Nat} {parts:Array (Nat×Operand)} {sz by':Nat} {z:Value} {zl:List Value} {vs:List Value} (ht:Au P t=some (e,sz,by')) (hz:Ah P e=some z) (hzc:z.cells=zl.toArray) (hzl:zl.length=sz)
    (hu:parts.toList.map (fun p=>(p.1,ev E p.2))=vs.zipIdx.map (fun p=>(p.2,some p.1))) (hlen:vs.length=len) (hc:∀v∈vs,v.cells.size=sz) (hsmall:len*sz≤16777216):
    AO P ⟨none, .buildSlice t len parts,ty, "",#[],none⟩ E [] fun v L'=> ∃b,v= .slice (some ⟨b,0,none⟩) len len∧L'=[AW b (vs.map fun v=>v.cells.toList).flatten e]:=by
  intro ρ w F ha hs
  unfold Au at ht
  split at ht<;>(try cases ht)
  rename_i e' hu'
  split at ht<;>(try cases ht)
  rename_i inf hin
  have hparts:(parts.map fun p=>(p.1,ρ p.2)).toList=(vs.zipIdx.map fun p=>(p.2,p.1)):=by
    rw [Array.toList_map]
    refine G4 ha _ _ ?_
    rw [hu];simp
  have hrun:(execOp ρ ⟨none, .buildSlice t len parts,ty, "",#[],none⟩).run P w= .ok (.value (.slice (some ⟨w.heap.size,0,none⟩) len len)) {w with heap:=w.heap.push (.cells (vs.map fun v=>v.cells.toList).flatten.toArray e)}:=by
    refine Bn ?_
    show (Instr.buildSlice t len (parts.map fun p=>(p.1,ρ p.2))).run P w=_
    unfold Instr.buildSlice
    rw [run_bind (AN hu')]
    dsimp only
    rw [run_bind (Be (k:=inf.size) (by simp [Ab,hin]))]
    rw [if_neg (by have:(2:Nat)^24=16777216:=by decide
                   omega)]
    have hfill:∀cells:List Value,cells.length=len*inf.size→Instr.fill (fun i=>some (i*inf.size,inf.size)) cells.toArray (parts.map fun p=>(p.1,ρ p.2)).toList=some (vs.map fun v=>v.cells.toList).flatten.toArray:=by
      intro cells hcl
      rw [hparts]
      have:=ADc (sz:=inf.size) (vs.map fun v=>v.cells.toList) 0 [] cells (by simp) (fun x hx=>by
        obtain ⟨v,hv,rfl⟩:=mem_map.1 hx
        simpa using hc v hv) (by simpa [hlen] using hcl) (vs.zipIdx.map fun p=>(p.2,p.1)) (by
        rw [zipIdx_map];simp)
      simpa using this
    by_cases h0:len*inf.size=0
    · rw [if_pos h0,run_bind run_pure,h0]
      have he:(Array.range 0).map (fun x=>(#[]:Array Value)[x%(#[]:Array Value).size]!)=([]:List Value).toArray:=by simp
      rw [he,hfill [] (by simp [h0])]
      dsimp only
      rw [run_bind (C7 e _)];rfl
    · rw [if_neg h0,run_bind (FD hz),run_bind run_pure]
      have he:(Array.range (len*inf.size)).map (fun x=>z.cells[x%z.cells.size]!)=((List.range (len*inf.size)).map fun x=>z.cells[x%z.cells.size]!).toArray:=by
        apply Array.ext';simp
      rw [he,hfill _ (by simp)]
      dsimp only
      rw [run_bind (C7 e _)];rfl
  unfold DC;rw [hrun]
  exact ⟨_,⟨_,rfl,rfl⟩,St.new (L:=F) hs _,As.new _ _⟩
theorem AJx:∀(vs:List Value),(∀v∈vs,AB v=true)→(vs.map fun v=>v.cells.toList).flatten=vs:=by
 intro vs
 induction vs with
 |nil=>intro _;rfl
 |cons v vs ih=>
  intro h
  rw [map_cons,flatten_cons,ER (h v (by simp)),ih (fun u hu=>h u (by simp [hu]))]
  rfl
theorem AO.buildSlice1 {t e:TypeId} {len:Nat} {parts:Array (Nat×Operand)} {by':Nat} {z:Value} {zl:List Value} {vs:List Value} (ht:Au P t=some (e,1,by')) (hz:Ah P e=some z) (hzc:z.cells=zl.toArray) (hzl:zl.length=1)
  (hu:parts.toList.map (fun p=>(p.1,ev E p.2))=vs.zipIdx.map (fun p=>(p.2,some p.1))) (hlen:vs.length=len) (hc:(vs.all AB)=true) (hsmall:len*1≤16777216):
  AO P ⟨none, .buildSlice t len parts,ty, "",#[],none⟩ E [] fun v L'=> ∃b,v= .slice (some ⟨b,0,none⟩) len len∧L'=[AW b vs e]:=by
 have hc':∀v∈vs,AB v=true:=fun v hv=>all_eq_true.1 hc v hv
 have:=AO.buildSlice (P:=P) (E:=E) (ty:=ty) ht hz hzc hzl hu hlen (fun v hv=>by rw [ER (hc' v hv)];rfl) hsmall
 rwa [AJx vs hc'] at this
end
inductive RI:List Nat→Bi→Bi→Prop
 |nil {E:Bi}:RI [] E []
 |cons {t:Nat} {ts:List Nat} {E E':Bi} {v:Value} (h:look E t=some v) (k:RI ts E E'):RI (t::ts) E ((t,v)::E')
inductive MZ:List HP→List HP→Prop
 |base {F R:List HP}:IX F R→MZ F R
 |cons {p:HP} {F R R':List HP}:BJ p R R'→MZ F R'→MZ (p::F) R
theorem MZ.st {F R:List HP} (h:MZ F R):∀{L:List HP} {hp:Hp},CP (L++R) hp→CP (L++F) hp:=by
 induction h with
 |base h=>exact fun hs=>h.st hs
 | @cons p F R R' hp _ ih=>
  intro L h hs
  have h1:(L++R).Perm (p::(L++R')):=(List.Perm.append_left L hp.perm).trans perm_middle
  have h2:=Gz (L':=L++F) (fun h hs=>ih hs) (DG h1 hs)
  exact DG perm_middle.symm h2
section
variable {P:Program} {W:World} {n:Nat} {ds:List Deferred} {E:Bi} {L:List HP} {Q:Exit→Act→World→Prop} {next:Act→World→Prop}
theorem G.loopK {ι:Type} (Ei:ι→Bi→Bi) (Li:ι→List HP) (φ:ι→Prop) (μ:ι→Nat) (i0:ι) {ts:List Nat} {K:Bi} {c:Code} {R:List HP} (_:RI ts E K) (h0:φ i0) (hE:Is (Ei i0 K) E) (hL:A4 (Li i0) L R)
  (round:∀i,φ i→G W n ds (Ei i K) (Li i++R) (c.wp P (Exit.then (Oa n ds W (fun i=>Ei i K) Li φ μ R i) Q))):
  G W n ds E L ((Code.loop c).wp P Q):=
 G.loop (fun i=>Ei i K) Li φ μ i0 h0 hE hL .here round
theorem G.roundK {ι:Type} {Ei:ι→Bi} {Li:ι→List HP} {φ:ι→Prop} {μ:ι→Nat} {i:ι} {F R:List HP} (j:ι) (hj:φ j) (hm:μ j<μ i) (hE:Is (Ei j) E) (hL:A4 (Li j) L R) (hF:MZ F R):
  G W n ds E L (Oa n ds W Ei Li φ μ F i):=
 fun a w he hk hs=>⟨j,hj,hm,he.sub hE,hk,hF.st (hs.picks hL)⟩
theorem G.joinK {ι:Sort _} (Ei:ι→Bi→Bi) (Li:ι→List HP) (φ:ι→Prop) {pre:List HP} {ts:List Nat} {K:Bi} {R:List HP} {x:Code} (_:RI ts E K) (_:A4 pre L R)
  (h1:G W n ds E L (x.wp P (Exit.then (Tc n ds W (fun i=>Ei i K) Li φ R) Q))) (h2:∀i,φ i→G W n ds (Ei i K) (Li i++R) next):G W n ds E L (x.wp P (Exit.then next Q)):=
 G.join (fun i=>Ei i K) Li φ h1 h2
theorem G.meetK {ι:Sort _} {Ei:ι→Bi} {Li:ι→List HP} {φ:ι→Prop} {F R:List HP} (i:ι) (hi:φ i) (hE:Is (Ei i) E) (hL:A4 (Li i) L R) (hF:MZ F R):
  G W n ds E L (Tc n ds W Ei Li φ F):=
 fun a w he hk hs=>⟨i,hi,he.sub hE,hk,hF.st (hs.picks hL)⟩
end
section
variable {P:Program} {W:World} {n:Nat} {ds:List Deferred} {E:Bi} {L R:List HP} {Q:Exit→Act→World→Prop} {next:Act→World→Prop}
theorem G.rk {ι:Type} {Ei:ι→Bi} {Li:ι→List HP} {φ:ι→Prop} {μ:ι→Nat} {i:ι} {F R:List HP} (j:ι) (hj:φ j) (hm:μ j<μ i) (hE:Is (Ei j) E) (hL:A4 (Li j) L R:=by repeat' constructor) (hF:MZ F R:=by ((repeat (apply MZ.cons;(repeat (first|exact BJ.here|apply BJ.there))));apply MZ.base;repeat' constructor)):
  G W n ds E L (Oa n ds W Ei Li φ μ F i):=G.roundK j hj hm hE hL hF
theorem G.mk {ι:Sort _} {Ei:ι→Bi} {Li:ι→List HP} {φ:ι→Prop} {F R:List HP} (i:ι) (hi:φ i) (hE:Is (Ei i) E) (hL:A4 (Li i) L R:=by repeat' constructor) (hF:MZ F R:=by ((repeat (apply MZ.cons;(repeat (first|exact BJ.here|apply BJ.there))));apply MZ.base;repeat' constructor)):
  G W n ds E L (Tc n ds W Ei Li φ F):=G.meetK i hi hE hL hF
end
section assoc
variable {K β:Type} [DecidableEq K]
theorem De {m:List (K×β)} {k:K} {b:β} (h:AC m k=some b):(k,b)∈m:=by
 induction m with
 |nil=>cases h
 |cons x m ih=>
  obtain ⟨a,c⟩:=x
  by_cases hk:k=a
  ·subst hk;simp [AC] at h;simp [h]
  ·simp [AC,hk] at h;exact mem_cons_of_mem _ (ih h)
theorem Fl {m:List (K×β)} {k:K}:AC m k=none↔k∉m.map (·.1):=by
 induction m with
 |nil=>simp [AC]
 |cons x m ih=>
  obtain ⟨a,c⟩:=x
  by_cases hk:k=a
  ·subst hk;simp [AC]
  ·simp only [AC,hk,if_false,ih,map_cons,mem_cons,false_or]
theorem Cw {m:List (K×β)} {k:K}:(AC m k).isSome=true↔k∈m.map (·.1):=by
 have:=Fl (m:=m) (k:=k)
 cases h:AC m k with
 |none=>rw [h] at this;simpa using this
 |some b=>rw [h] at this;simpa using this
theorem Bu {m:List (K×β)} (hn:(m.map (·.1)).Nodup) {k:K} {b:β} (h:(k,b)∈m):AC m k=some b:=by
 induction m with
 |nil=>simp at h
 |cons x m ih=>
  obtain ⟨a,c⟩:=x
  simp only [map_cons,nodup_cons] at hn
  rcases mem_cons.1 h with h1|h1
  ·cases h1;simp [AC]
  ·have hk:k≠a:=by rintro rfl;exact hn.1 (mem_map_of_mem (f:=Prod.fst) h1)
   simp [AC,hk,ih hn.2 h1]
theorem ZO {m m':List (K×β)} (hp:m.Perm m') (hn:(m.map (·.1)).Nodup) (k:K):AC m k=AC m' k:=by
 have hn':(m'.map (·.1)).Nodup:=(hp.map _).nodup_iff.1 hn
 cases h:AC m' k with
 |none=>rw [Fl] at h ⊢;exact fun hm=>h ((hp.map _).mem_iff.1 hm)
 |some b=>exact Bu hn (hp.mem_iff.2 (De h))
theorem Fr {m:List (K×β)} {k:K} {v:β} (x:K):AC (CF m k v) x=if x=k then some v else AC m x:=by
 induction m with
 |nil=>simp [CF,AC]
 |cons y m ih=>
  obtain ⟨a,c⟩:=y
  by_cases hk:k=a
  ·subst hk
   by_cases hx:x=k<;>simp [CF,AC,hx]
  ·by_cases hx:x=a
   ·subst hx;simp [CF,AC,hk,Ne.symm hk]
   ·simp [CF,AC,hk,hx,ih]
theorem AA5 {m:List (K×β)} {k:K} {b:β} (h:AC m k=some b):m.Perm ((k,b)::Bg m k):=by
 induction m with
 |nil=>cases h
 |cons y m ih=>
  obtain ⟨a,c⟩:=y
  by_cases hk:k=a
  ·subst hk;simp [AC] at h;subst h;simp [Bg]
  ·simp [AC,hk] at h
   simp only [Bg,hk,if_false]
   exact (List.Perm.cons _ (ih h)).trans (List.Perm.swap _ _ _)
theorem ABb {m:List (K×β)} {k:K} {v:β}:(CF m k v).Perm ((k,v)::Bg m k):=by
 induction m with
 |nil=>simp [CF,Bg]
 |cons y m ih=>
  obtain ⟨a,c⟩:=y
  by_cases hk:k=a
  ·subst hk;simp [CF,Bg]
  ·simp only [CF,Bg,hk,if_false]
   exact (List.Perm.cons _ ih).trans (List.Perm.swap _ _ _)
theorem Vd (m:List (K×β)) (k:K):(Bg m k).Sublist m:=by
 induction m with
 |nil=>simp [Bg]
 |cons y m ih=>
  obtain ⟨a,c⟩:=y
  by_cases hk:k=a
  ·subst hk;simp [Bg]
  ·simp only [Bg,hk,if_false];exact ih.cons_cons _
theorem Ea {m:List (K×β)} (hn:(m.map (·.1)).Nodup) (k:K):((Bg m k).map (·.1)).Nodup:=((Vd m k).map _).nodup hn
theorem J7 {m:List (K×β)} (hn:(m.map (·.1)).Nodup) {k:K} (x:K):AC (Bg m k) x=if x=k then none else AC m x:=by
 induction m with
 |nil=>simp [Bg,AC]
 |cons y m ih=>
  obtain ⟨a,c⟩:=y
  simp only [map_cons,nodup_cons] at hn
  by_cases hk:k=a
  ·subst hk
   simp only [Bg,if_true]
   by_cases hx:x=k
   ·subst hx;rw [if_pos rfl];exact Fl.2 hn.1
   ·simp [AC,hx]
  ·simp only [Bg,hk,if_false,AC,ih hn.2]
   by_cases hx:x=k
   ·subst hx;simp [hk]
   ·simp [hx]
theorem ABN {m:List (K×β)} {k:K} {b v:β} (h:AC m k=some b):(CF m k v).map (·.1)=m.map (·.1):=by
 induction m with
 |nil=>cases h
 |cons y m ih=>
  obtain ⟨a,c⟩:=y
  by_cases hk:k=a
  ·subst hk;simp [CF]
  ·simp [AC,hk] at h
   simp [CF,hk,ih h]
theorem C6 {m:List (K×β)} (hn:(m.map (·.1)).Nodup) (k:K) (v:β):((CF m k v).map (·.1)).Nodup:=by
 cases h:AC m k with
 |some b=>rw [ABN h];exact hn
 |none=>
  rw [Jh h,map_append]
  exact nodup_append.2 ⟨hn,by simp,fun a ha b hb=>by
   simp at hb;subst hb
   exact fun hab=>Fl.1 h (hab▸ha)⟩
theorem Cj {m:List (K×β)} {k:K} {v:β} (h:AC m k=some v):CF m k v=m:=by
 induction m with
 |nil=>cases h
 |cons y m ih=>
  obtain ⟨a,c⟩:=y
  by_cases hk:k=a
  ·subst hk;simp [AC] at h;subst h;simp [CF]
  ·simp [AC,hk] at h
   simp [CF,hk,ih h]
theorem UG {γ:Type} {f:K×β→γ} {m:List (K×β)} {k:K} {b v:β} (h:AC m k=some b) (hf:f (k,v)=f (k,b)):(CF m k v).map f=m.map f:=by
 induction m with
 |nil=>cases h
 |cons y m ih=>
  obtain ⟨a,c⟩:=y
  by_cases hk:k=a
  ·subst hk;simp [AC] at h;subst h;simp [CF,hf]
  ·simp [AC,hk] at h
   simp [CF,hk,ih h]
theorem M1 {m m':List (K×β)} (hn:(m.map (·.1)).Nodup) (hn':(m'.map (·.1)).Nodup) (h:∀k,AC m k=AC m' k):m.Perm m':=by
 have nd:∀{l:List (K×β)},(l.map (·.1)).Nodup→l.Nodup:=fun {l} h=>by
  induction l with
  |nil=>simp
  |cons a l ih=>
   simp only [map_cons,nodup_cons] at h ⊢
   exact ⟨fun hm=>h.1 (mem_map.2 ⟨_,hm,rfl⟩),ih h.2⟩
 refine (perm_ext_iff_of_nodup (nd hn) (nd hn')).2 fun x=>?_
 obtain ⟨k,b⟩:=x
 constructor
 ·intro hx;have:=Bu hn hx;rw [h k] at this;exact De this
 ·intro hx;have:=Bu hn' hx;rw [←h k] at this;exact De this
end assoc
def Am {α:Type} (f:α→HP) (m:List α):HP:=CP (m.map f)
theorem OB {α:Type} {f:α→HP} {m m':List α} (hp:m.Perm m') {h:Hp} (hs:Am f m h):Am f m' h:=DG (hp.map f) hs
theorem CH {α:Type} {f:α→HP} (h:Hp):Am f [] h:=trivial
theorem Vh {α:Type} {f:α→HP} {x:α} {m:List α} {h:Hp} (hs:Am f (x::m) h):CP [f x,Am f m] h:=by
 obtain ⟨h1,h2,hd,a1,a2,hp,hL⟩:=hs
 exact ⟨h1,h2,hd,a1,a2,hp,h2,fun _=>none,fun _=> .inr rfl,fun _ _ e=>e,fun _ _ e=>(by cases e),hL,trivial⟩
theorem JD {α:Type} {f:α→HP} {x:α} {m:List α} {h:Hp} (hs:CP [f x,Am f m] h):Am f (x::m) h:=by
 obtain ⟨h1,h2,hd,a1,a2,hp,g1,g2,gd,b1,b2,hq,-⟩:=hs
 exact ⟨h1,h2,hd,a1,a2,hp,Fu hq b1⟩
theorem U5 {K β:Type} [DecidableEq K] {f:K×β→HP} {m:List (K×β)} {k:K} {b:β} (h:AC m k=some b) {hp:Hp} (hs:Am f m hp):CP [f (k,b),Am f (Bg m k)] hp:=Vh (OB (AA5 h) hs)
theorem Ye {K β:Type} [DecidableEq K] {f:K×β→HP} {m:List (K×β)} {k:K} {b:β} {hp:Hp} (hs:CP [f (k,b),Am f (Bg m k)] hp):Am f (CF m k b) hp:=OB ABb.symm (JD hs)
section
variable {P:Program} {W:World} {n:Nat} {ds:List Deferred} {E:Bi} {L R:List HP} {ty:TypeId} {X:Act→World→Prop}
theorem G.bigTake {K β:Type} [DecidableEq K] {f:K×β→HP} {m:List (K×β)} {k:K} {b:β} (h:AC m k=some b) (hL:BJ (Am f m) L R) (hg:G W n ds E (f (k,b)::Am f (Bg m k)::R) X):G W n ds E L X:=
 G.focus hL (G.unfold (q:=[f (k,b),Am f (Bg m k)]) (fun _ hp=>U5 h hp) hg)
theorem G.bigPut {K β:Type} [DecidableEq K] {f:K×β→HP} {m:List (K×β)} (k:K) (b:β) {p:HP} (hp:p=f (k,b)) (hL:A4 [p,Am f (Bg m k)] L R) (hg:G W n ds E (Am f (CF m k b)::R) X):G W n ds E L X:=by
 subst hp
 exact G.fold hL (fun _ hp=>Ye hp) hg
section laws
variable {K β:Type} [DecidableEq K] {kv:K→Value} {enc:β→Value} {kt et:TypeId}
theorem AE.lookupY (hl:Aa P kt kv) {t:TypeId} {x y:Operand} {m:List (K×β)} {r:Nat} {k:K} {b:β} {z:Value} {ents:List (Value×Value)} (hb:AC m k=some b) (hx:ev E x=some (.map (some r))) (hy:ev E y=some (kv k)) (ht:P.underlying t=some (.map kt et)) (hz:Ah P et=some z)
  (hL:BJ (mapR r ents) L R) (he:ents=m.map fun x=>(kv x.1,enc x.2)):AE P ⟨none, .lookup t x y false,ty, "",#[],none⟩ E L (enc b):=by
 have q:=AE.lookup (enc:=enc) (ty:=ty) hl hx hy ht hz hL he
 rw [hb] at q;exact q
theorem AE.lookupN (hl:Aa P kt kv) {t:TypeId} {x y:Operand} {m:List (K×β)} {r:Nat} {k:K} {z:Value} {ents:List (Value×Value)} (hb:AC m k=none) (hx:ev E x=some (.map (some r))) (hy:ev E y=some (kv k)) (ht:P.underlying t=some (.map kt et)) (hz:Ah P et=some z)
  (hL:BJ (mapR r ents) L R) (he:ents=m.map fun x=>(kv x.1,enc x.2)):AE P ⟨none, .lookup t x y false,ty, "",#[],none⟩ E L z:=by
 have q:=AE.lookup (enc:=enc) (ty:=ty) hl hx hy ht hz hL he
 rw [hb] at q;exact q
theorem AE.lookupOkY (hl:Aa P kt kv) {t:TypeId} {x y:Operand} {m:List (K×β)} {r:Nat} {k:K} {b:β} {z:Value} {ents:List (Value×Value)} (hb:AC m k=some b) (hx:ev E x=some (.map (some r))) (hy:ev E y=some (kv k)) (ht:P.underlying t=some (.map kt et)) (hz:Ah P et=some z)
  (hL:BJ (mapR r ents) L R) (he:ents=m.map fun x=>(kv x.1,enc x.2)):AE P ⟨none, .lookup t x y true,ty, "",#[],none⟩ E L (.tuple #[enc b, .bool true]):=by
 have q:=AE.lookupOk (enc:=enc) (ty:=ty) hl hx hy ht hz hL he
 rw [hb] at q;exact q
theorem AE.lookupOkN (hl:Aa P kt kv) {t:TypeId} {x y:Operand} {m:List (K×β)} {r:Nat} {k:K} {z:Value} {ents:List (Value×Value)} (hb:AC m k=none) (hx:ev E x=some (.map (some r))) (hy:ev E y=some (kv k)) (ht:P.underlying t=some (.map kt et)) (hz:Ah P et=some z)
  (hL:BJ (mapR r ents) L R) (he:ents=m.map fun x=>(kv x.1,enc x.2)):AE P ⟨none, .lookup t x y true,ty, "",#[],none⟩ E L (.tuple #[z, .bool false]):=by
 have q:=AE.lookupOk (enc:=enc) (ty:=ty) hl hx hy ht hz hL he
 rw [hb] at q;exact q
end laws
theorem AE.as {o:Oper} {v v':Value} (h:v=v') (q:AE P o E L v):AE P o E L v':=h▸q
theorem AE.to {o:Oper} {v v':Value} (q:AE P o E L v) (h:v=v'):AE P o E L v':=h▸q
theorem AO.allocA {t:TypeId} {zl:List Value} (hz:Ah P t=some (.agg zl.toArray)):AO P ⟨none, .alloc t,ty, "",#[],none⟩ E [] fun u L'=> ∃b,u=AD b∧L'=[AW b zl t]:=by
 have h:=AO.alloc (P:=P) (E:=E) (ty:=ty) hz
 simpa [Value.cells] using h
theorem AE.loadRd {t:TypeId} {x:Operand} {b o off n c sz j:Nat} {ys:List Value} {v:Value} {p:HP} (hx:ev E x=some (.pointer (some ⟨b,o,none⟩))) (hp:A9 P t=some none) (hL:BJ p L R)
  (hr:∀h:Hp,p h→CA sz h (.slice (some ⟨b,off,none⟩) n c) n ys) (ho:o=off+j) (hv:ys[j]?=some v):AE P ⟨none, .load t x,ty, "",#[],none⟩ E L v:=by
 subst ho
 refine AE.loadEl (n:=n*sz) (c:=n*sz) (ys:=ys) (i:=j) hx hp hL (fun h hh=>?_) hv
 have hl:=HJ (hr h hh)
 obtain ⟨T,fr,l,hb,hl2,hys,-⟩:=Pn (hr h hh) (fun h0=>by rw [h0] at hl;rw [eq_nil_of_length_eq_zero (by omega:ys.length=0)] at hv;cases hv)
 exact .inr ⟨b,off,n*sz,l,T,fr,rfl,hb,by rw [Nat.mul_one];exact hys,by rw [Nat.mul_one];exact hl2,Nat.le_refl _⟩
theorem AE.loadRdA {t:TypeId} {x:Operand} {b o off n c sz j k:Nat} {ys vs:List Value} {p:HP} (hx:ev E x=some (.pointer (some ⟨b,o,none⟩))) (hp:A9 P t=some (some k)) (hL:BJ p L R)
  (hr:∀h:Hp,p h→CA sz h (.slice (some ⟨b,off,none⟩) n c) n ys) (ho:o=off+j) (hn:n≠0) (hk:j+k≤n*sz) (hv:(ys.drop j).take k=vs):AE P ⟨none, .load t x,ty, "",#[],none⟩ E L (.agg vs.toArray):=by
 subst ho
 intro ρ w ha hs
 obtain ⟨h1,a1,hp1⟩:=Ae (hs.pick hL)
 obtain ⟨T,fr,l,hb,hl,hys,-⟩:=Pn (hr _ hp1) hn
 show (do pure (Next.value (←Instr.loadAt t (ρ x))):Sem Next).run P w=_
 rw [ha x _ hx]
 have:(Instr.loadAt t (.pointer (some ⟨b,off+j,none⟩))).run P w= .ok (.agg vs.toArray) w:=by
  unfold Instr.loadAt
  rw [←hv,←hys,drop_take,take_take,Nat.min_eq_left om,drop_drop]
  exact GP hp (a1 _ _ hb) om
 rw [run_bind this];rfl
theorem No {T:TypeId} {sz b n c:Nat} {xs:List Value} {h:Hp} (hp:At T sz (.slice (some ⟨b,0,none⟩) n c) n xs h):∃y:List Value×(Nat×Nat),h b=some (.cells (List.toArray (xs++y.1)) T y.2)∧xs.length=n*sz∧c*sz≤xs.length+y.1.length∧n≤c∧V5 y.2 0 (c*sz):=by
 rcases hp with ⟨h1,-⟩|⟨b',cap,rest,fr,h1,h2,h3,h4,h5,h6⟩
 ·simp at h1
 ·simp only [Value.slice.injEq,Option.some.injEq,Addr.mk.injEq] at h1
  obtain ⟨⟨rfl,-,-⟩,-,rfl⟩:=h1
  exact ⟨(rest,fr),h2,h3,h4,h5,h6⟩
theorem AO.storeRd {t:TypeId} {x y:Operand} {b o n c sz j:Nat} {xs:List Value} {T:TypeId} {v:Value} (hx:ev E x=some (.pointer (some ⟨b,o,none⟩))) (hy:ev E y=some v) (hv:AB v=true) (ht:Ab P t=some 1) (ho:o=j) (hi:j<n*sz):
  AO P ⟨none, .store t x y,ty, "",#[],none⟩ E [At T sz (.slice (some ⟨b,0,none⟩) n c) n xs] fun _ L'=>L'=[At T sz (.slice (some ⟨b,0,none⟩) n c) n (xs.set j v)]:=by
 subst ho
 intro ρ w F ha hs
 obtain ⟨⟨rest,fr⟩,h1,h2,hd,a1,a2,⟨p1,p2,p3,p4,p5⟩,hF⟩:=MJ (B0 (q:=fun h=> ∃y:List Value×(Nat×Nat),h b=some (.cells (List.toArray (xs++y.1)) T y.2)∧xs.length=n*sz∧c*sz≤xs.length+y.1.length∧n≤c∧V5 y.2 0 (c*sz)) (fun h hp=>No hp) hs)
 have hpt:St ([pt b (.cells (xs++rest).toArray T fr)]++F) w:=⟨h1,h2,hd,a1,a2,p1,hF⟩
 have hnc:=Nat.mul_le_mul_right sz p4
 have:=AO.store (P:=P) (E:=E) (ty:=ty) hx hy hv ht (by simp;omega) (fun j q1 q2=>p5 j om (by simp at *;omega)) ρ w F ha hpt
 refine this.mono ?_
 rintro u w' ⟨L',rfl,hs2,hk⟩
 refine ⟨_,rfl,B0 (fun h hp=>?_) hs2,hk⟩
 refine .inr ⟨b,c,rest,fr,rfl,?_,by simpa using p2,by simpa using p3,p4,p5⟩
 have e:(xs++rest).set o v=xs.set o v++rest:=by rw [set_append_left _ _ om]
 rw [←e];exact hp
theorem AO.storeRdA {t:TypeId} {x y:Operand} {b o n c sz j k:Nat} {xs vs:List Value} {T:TypeId} (hx:ev E x=some (.pointer (some ⟨b,o,none⟩))) (hy:ev E y=some (.agg vs.toArray)) (hv:∀v∈vs,AB v=true) (ht:Ab P t=some k) (hk:vs.length=k) (ho:o=j) (hi:j+k≤n*sz):
  AO P ⟨none, .store t x y,ty, "",#[],none⟩ E [At T sz (.slice (some ⟨b,0,none⟩) n c) n xs] fun _ L'=>L'=[At T sz (.slice (some ⟨b,0,none⟩) n c) n (CX xs j vs)]:=by
 subst ho;subst hk
 intro ρ w F ha hs
 obtain ⟨⟨rest,fr⟩,h1,h2,hd,a1,a2,⟨p1,p2,p3,p4,p5⟩,hF⟩:=MJ (B0 (q:=fun h=> ∃y:List Value×(Nat×Nat),h b=some (.cells (List.toArray (xs++y.1)) T y.2)∧xs.length=n*sz∧c*sz≤xs.length+y.1.length∧n≤c∧V5 y.2 0 (c*sz)) (fun h hp=>No hp) hs)
 have hpt:St ([pt b (.cells (xs++rest).toArray T fr)]++F) w:=⟨h1,h2,hd,a1,a2,p1,hF⟩
 have hnc:=Nat.mul_le_mul_right sz p4
 have:=AO.storeA (P:=P) (E:=E) (ty:=ty) hx hy hv ht rfl (by simp;omega) (fun j q1 q2=>p5 j om (by dsimp only at *;omega)) ρ w F ha hpt
 refine this.mono ?_
 rintro u w' ⟨L',rfl,hs2,hk⟩
 refine ⟨_,rfl,B0 (fun h hp=>?_) hs2,hk⟩
 dsimp only at p2 p3
 have hl:(CX xs o vs).length=xs.length:=WS om
 refine .inr ⟨b,c,rest,fr,rfl,?_,by rw [hl];exact p2,by rw [hl];exact p3,p4,p5⟩
 have e:CX (xs++rest) o vs=CX xs o vs++rest:=by
  unfold CX
  rw [take_append_of_le_length om,drop_append_of_le_length om]
  simp
 rw [←e];exact hp
theorem ACd {T:TypeId} {b n c:Nat} {l:List Value} {h:Hp} (hn:n≤c) (hc:c≤l.length) (hp:AW b l T h):At T 1 (.slice (some ⟨b,0,none⟩) n c) n (l.take n) h:=
 .inr ⟨b,c,l.drop n,(0,0),rfl,by rw [take_append_drop];exact hp,by rw [length_take];omega,by rw [length_take,length_drop];omega,hn,Bd _ _⟩
theorem G.slMake {n':Nat} {T:TypeId} {b n c:Nat} {l xs:List Value} (hL:BJ (AW b l T) L R) (hn:n≤c) (hc:c≤l.length) (hx:l.take n=xs) (h:G W n' ds E (At T 1 (.slice (some ⟨b,0,none⟩) n c) n xs::R) X):G W n' ds E L X:=by
 subst hx
 exact fun a w he hk hs=>h a w he hk (B0 (fun _ hp=>ACd hn hc hp) (hs.pick hL))
theorem ACJ {T:TypeId} {sz b n c:Nat} {xs:List Value} {h:Hp} (hp:At T sz (.slice (some ⟨b,0,none⟩) n c) n xs h):At T sz (.slice (some ⟨b,0,none⟩) n n) n xs h:=by
 obtain ⟨⟨rest,fr⟩,h1,h2,h3,h4,h5⟩:=No hp
 have:=Nat.mul_le_mul_right sz h4
 exact .inr ⟨b,n,rest,fr,rfl,h1,h2,by omega,Nat.le_refl _,fun i q1 q2=>h5 i q1 (by dsimp only at *;omega)⟩
theorem G.slClip {T:TypeId} {sz b m c:Nat} {xs:List Value} (hL:BJ (At T sz (.slice (some ⟨b,0,none⟩) m c) m xs) L R) (h:G W n ds E (At T sz (.slice (some ⟨b,0,none⟩) m m) m xs::R) X):G W n ds E L X:=
 fun a w he hk hs=>h a w he hk (B0 (fun _ hp=>ACJ hp) (hs.pick hL))
theorem G.slCast {T:TypeId} {sz m m':Nat} {v:Value} {xs xs':List Value} (hL:BJ (At T sz v m xs) L R) (hm:m=m') (hx:xs=xs') (h:G W n ds E (At T sz v m' xs'::R) X):G W n ds E L X:=by
 subst hm;subst hx;exact G.focus hL h
theorem G.ptCast {b:Nat} {l l':List Value} {T:TypeId} (hL:BJ (AW b l T) L R) (hl:l=l') (h:G W n ds E (AW b l' T::R) X):G W n ds E L X:=by
 subst hl;exact G.focus hL h
theorem AE.clip {t:TypeId} {x y z:Operand} {a:Option Addr} {n c e sz by':Nat} (hx:ev E x=some (.slice a n c)) (ht:Au P t=some (e,sz,by')) (hy:ev E y=some (.int .i64 n)) (hz:ev E z=some (.int .i64 n)) (hb:n≤c)
  (ha':a=none∨∃b off,a=some ⟨b,off,none⟩):AE P ⟨none, .slice t x none (some y) (some z),ty, "",#[],none⟩ E L (.slice a n n):=by
 intro ρ w ha _
 unfold Au at ht
 split at ht<;>(try cases ht)
 rename_i e' hu
 split at ht<;>(try cases ht)
 rename_i inf hin
 refine Bn ?_
 show (Instr.sliceAt t (ρ x) none (some (ρ y)) (some (ρ z))).run P w=_
 rw [ha x _ hx,ha y _ hy,ha z _ hz]
 unfold Instr.sliceAt
 rw [run_bind (AN hu)]
 show (Instr.slice t (.slice a n c) none (some (.int .i64 n)) (some (.int .i64 n))).run P w=_
 unfold Instr.slice
 rw [run_bind (AN hu)]
 show (do let (l,h,m) ←Instr.sliceBounds true n c none (some (.int .i64 n)) (some (.int .i64 n));let size ←sizeOf e;pure (.slice (if m=l then a else a.map (·.add (l*size))) (h-l) (m-l)):Sem Value).run P w=_
 have hbd:(Instr.sliceBounds true n c none (some (.int .i64 n)) (some (.int .i64 n))).run P w= .ok (0,n,n) w:=by
  simp [Instr.sliceBounds,Instr.sliceBound,asIntOf,Bind.bind,Sem.bind,Pure.pure,Sem.run,hb]
 rw [run_bind hbd]
 show (do let size ←sizeOf e;pure (.slice (if n=0 then a else a.map (·.add (0*size))) (n-0) (n-0)):Sem Value).run P w=_
 rw [run_bind (Be (k:=inf.size) (by simp [Ab,hin]))]
 have:(if n=0 then a else a.map (·.add (0*inf.size)))=a:=by
  split
  ·rfl
  ·rcases ha' with rfl|⟨b,off,rfl⟩
   ·rfl
   ·simp [Addr.add_eq]
 rw [this];rfl
theorem Oc {sz b off n c k:Nat} {ys:List Value} {h:Hp} (hr:CA sz h (.slice (some ⟨b,off,none⟩) n c) n ys) (hk:k<n):CA sz h (.slice (some ⟨b,off+k*sz,none⟩) (n-k) (c-k)) (n-k) (ys.drop (k*sz)):=by
 obtain ⟨T,fr,l,hb,hl,hys,hc⟩:=Pn hr om
 have h1:k*sz+(n-k)*sz=n*sz:=by rw [←Nat.add_mul];congr 1;omega
 refine .inr ⟨b,off+k*sz,c-k,l,T,fr,rfl,hb,?_,by omega,by omega⟩
 rw [←hys,drop_take,drop_drop,←h1,Nat.add_sub_cancel_left]
theorem G.rdShapeC {p:HP} {sz m c:Nat} {ad:Option Addr} {ys:List Value} (hr:∀h:Hp,p h→CA sz h (.slice ad m c) m ys) (hL:BJ p L R) (hm:0<m)
  (h:∀b off,ad=some ⟨b,off,none⟩→m≤c→G W n ds E L X):G W n ds E L X:=by
 intro a w he hk hs
 obtain ⟨h1,-,hp⟩:=Ae (hs.pick hL)
 rcases hr _ hp with ⟨rfl,-⟩|⟨b,off,cap,l,T,fr,hv,-,-,-,hc⟩
 ·omega
 ·simp only [Value.slice.injEq] at hv
  exact h b off hv.1 om a w he hk hs
theorem AHo {T:TypeId} {n k c:Nat} {a:Option Addr} {xs:List Value} {h:Hp} (hk:k≤n) (hp:At T 1 (.slice a n c) n xs h):At T 1 (.slice a k c) k (xs.take k) h:=by
 rcases hp with ⟨h1,h2,h3⟩|⟨b',cap,rest,fr,h1,h2,h3,h4,h5,h6⟩
 ·subst h2
  obtain rfl:k=0:=by omega
  simp only [Value.slice.injEq] at h1
  obtain ⟨rfl,-,rfl⟩:=h1
  exact .inl ⟨rfl,rfl,by simp⟩
 ·simp only [Value.slice.injEq] at h1
  obtain ⟨rfl,-,rfl⟩:=h1
  refine .inr ⟨b',c,xs.drop k++rest,fr,rfl,?_,by simp;omega,by simp;omega,by omega,h6⟩
  rw [←append_assoc,take_append_drop];exact h2
theorem G.slTo {T:TypeId} {m k c:Nat} {a:Option Addr} {xs:List Value} (hk:k≤m) (hL:BJ (At T 1 (.slice a m c) m xs) L R) (h:G W n ds E (At T 1 (.slice a k c) k (xs.take k)::R) X):G W n ds E L X:=
 fun ac w he hk' hs=>h ac w he hk' (B0 (fun _ hp=>AHo hk hp) (hs.pick hL))
theorem G.slAddr {T:TypeId} {sz m c:Nat} {a:Option Addr} {xs:List Value} (hL:BJ (At T sz (.slice a m c) m xs) L R) (h:m≤c→(a=none∨∃b off,a=some ⟨b,off,none⟩)→G W n ds E L X):G W n ds E L X:=by
 intro ac w he hk hs
 obtain ⟨g1,-,hp⟩:=Ae (hs.pick hL)
 rcases hp with ⟨h1,h2,-⟩|⟨b',cap,rest,fr,h1,-,-,-,h5,-⟩
 ·simp only [Value.slice.injEq] at h1
  exact h om (.inl h1.1) ac w he hk hs
 ·simp only [Value.slice.injEq] at h1
  exact h om (.inr ⟨b',0,h1.1⟩) ac w he hk hs
theorem AE.slTo {t:TypeId} {x y:Operand} {a:Option Addr} {n c e sz by':Nat} {j:Int} (hx:ev E x=some (.slice a n c)) (ht:Au P t=some (e,sz,by')) (hy:ev E y=some (.int .i64 j)) (hb:0≤j∧j≤c)
  (ha':a=none∨∃b off,a=some ⟨b,off,none⟩):AE P ⟨none, .slice t x none (some y) none,ty, "",#[],none⟩ E L (.slice a j.toNat c):=by
 intro ρ w ha _
 unfold Au at ht
 split at ht<;>(try cases ht)
 rename_i e' hu
 split at ht<;>(try cases ht)
 rename_i inf hin
 refine Bn ?_
 show (Instr.sliceAt t (ρ x) none (some (ρ y)) none).run P w=_
 rw [ha x _ hx,ha y _ hy]
 unfold Instr.sliceAt
 rw [run_bind (AN hu)]
 show (Instr.slice t (.slice a n c) none (some (.int .i64 j)) none).run P w=_
 unfold Instr.slice
 rw [run_bind (AN hu)]
 show (do let (l,h,m) ←Instr.sliceBounds true n c none (some (.int .i64 j)) none;let size ←sizeOf e;pure (.slice (if m=l then a else a.map (·.add (l*size))) (h-l) (m-l)):Sem Value).run P w=_
 rw [run_bind (DV (i:=0) (j:=j) (.inr ⟨rfl,rfl⟩) (.inl rfl) ⟨by omega,hb.1,hb.2⟩)]
 show (do let size ←sizeOf e;pure (.slice (if c=0 then a else a.map (·.add (0*size))) (j.toNat-0) (c-0)):Sem Value).run P w=_
 rw [run_bind (Be (k:=inf.size) (by simp [Ab,hin]))]
 have:(if c=0 then a else a.map (·.add (0*inf.size)))=a:=by
  split
  ·rfl
  ·rcases ha' with rfl|⟨b,off,rfl⟩
   ·rfl
   ·simp [Addr.add_eq]
 rw [this];rfl
theorem BH {α:Type} {f:α→List Value} {sz:Nat}:∀{l:List α} {i:Nat} (hf:∀x∈l,(f x).length=sz) (hi:i<l.length),((l.flatMap f).drop (i*sz)).take sz=f l[i]:=by
 intro l
 induction l with
 |nil=>intro i _ hi;simp at hi
 |cons x l ih=>
  intro i hf hi
  have hx:=hf x (by simp)
  cases i with
  |zero=>simp [take_append,hx]
  |succ i=>
   have e:(i+1)*sz=(f x).length+i*sz:=by rw [hx,Nat.add_mul];omega
   rw [flatMap_cons,e,drop_append,drop_eq_nil_of_le om,nil_append,Nat.add_sub_cancel_left]
   exact ih (fun y hy=>hf y (mem_cons_of_mem _ hy)) (by simpa using hi)
theorem V0 {α:Type} {f:α→List Value} {sz:Nat}:∀{l:List α} (_:∀x∈l,(f x).length=sz),(l.flatMap f).length=l.length*sz:=by
 intro l
 induction l with
 |nil=>intro _;simp
 |cons x l ih=>intro hf;rw [flatMap_cons,length_append,hf x (by simp),ih (fun y hy=>hf y (mem_cons_of_mem _ hy)),length_cons,Nat.add_mul];omega
end
/-! ### Rows of numbers, strings, flags -/
abbrev Bs:=List UInt8
abbrev A1 (l:List (List UInt8)):List Value:=l.map AF
abbrev ET (v:Value) (l:List (List UInt8)):HP:=At 9 1 v l.length (A1 l)
abbrev BZ (l:List Int):List Value:=l.map AA
abbrev EO (v:Value) (l:List Int):HP:=At 3 1 v l.length (BZ l)
def KJ (c n:Int):Int:=(if c<0 then -(c+1) else c)%n
theorem JG (c:Int) {n:Int} (h:0<n):0≤KJ c n∧KJ c n<n:=⟨Int.emod_nonneg _ om,Int.emod_lt_of_pos _ h⟩
section
variable {P:Program} {W:World} {n:Nat} {ds:List Deferred} {E:Bi} {L R:List HP} {X:Act→World→Prop}
theorem G.pc (b:Nat) {l:List Value} (l':List Value) {T:TypeId} (h:G W n ds E (AW b l' T::R) X) (hL:BJ (AW b l T) L R:=by repeat' constructor) (hl:l=l':=by exact rfl):G W n ds E L X:=G.ptCast hL hl h
theorem AE.la {ty t:TypeId} {x:Operand} {b off k:Nat} {l:List Value} {T:TypeId} {fr:Nat×Nat} (vs:List Value) (hx:ev E x=some (.pointer (some ⟨b,off,none⟩))) (hp:A9 P t=some (some k)) (hL:BJ (pt b (.cells l.toArray T fr)) L R:=by repeat' constructor) (hc:off+k≤l.length:=by exact Nat.le_of_ble_eq_true rfl) (hv:(l.drop off).take k=vs:=by rfl):AE P ⟨none, .load t x,ty, "",#[],none⟩ E L (.agg vs.toArray):=AE.loadAs hx hp hL hc hv
end
theorem mixed:prog.follows .mixedOrders=true:=by kernel_rfl
theorem CT:A9 prog 3=some none:=by kernel_rfl
theorem IV:Ab prog 3=some 1:=by kernel_rfl
theorem FA:Ah prog 3=some (.int .i64 0):=by kernel_rfl
theorem Wr:A9 prog 4=some none:=by kernel_rfl
theorem AK0:Ab prog 4=some 1:=by kernel_rfl
theorem AHa:Ah prog 4=some (.bool false):=by kernel_rfl
theorem AKe:A9 prog 5=some none:=by kernel_rfl
theorem AKf:Ab prog 5=some 1:=by kernel_rfl
theorem K2:Ah prog 5=some (.int .u8 0):=by kernel_rfl
theorem HL:A9 prog 9=some none:=by kernel_rfl
theorem Xz:Ab prog 9=some 1:=by kernel_rfl
theorem Gf:Ah prog 9=some (.string (bs [])):=by kernel_rfl
theorem AHE:Au prog 22=some (79,13,168):=by kernel_rfl
theorem N5:A9 prog 23=some none:=by kernel_rfl
theorem AKG:Ab prog 23=some 1:=by kernel_rfl
theorem Bv:Au prog 23=some (3,1,8):=by kernel_rfl
theorem AKF:Ab prog 25=some 1:=by kernel_rfl
theorem Ft:Au prog 25=some (40,11,136):=by kernel_rfl
theorem AEn:A9 prog 27=some none:=by kernel_rfl
theorem EP:A9 prog 28=some none:=by kernel_rfl
theorem AHG:Ab prog 28=some 1:=by kernel_rfl
theorem AEK:Ah prog 28=some (.int .i64 0):=by kernel_rfl
theorem AJm:Ab prog 35=some 1:=by kernel_rfl
theorem GN:Au prog 35=some (133,2,24):=by kernel_rfl
theorem O6:A9 prog 36=some none:=by kernel_rfl
theorem QI:Ab prog 36=some 1:=by kernel_rfl
theorem FQ:Au prog 36=some (38,8,112):=by kernel_rfl
theorem A3:A9 prog 38=some (some 8):=by kernel_rfl
theorem BO:Ab prog 38=some 8:=by kernel_rfl
theorem FV:DP prog 38=some 8:=by kernel_rfl
theorem AFX:Ap prog 38 5=some 5:=by kernel_rfl
theorem Fs:Ap prog 38 7=some 7:=by kernel_rfl
theorem BM:Ah prog 38=some (.agg #[.int .i64 0, .string (bs []), .string (bs []), .slice none 0 0, .int .i64 0, .int .i64 0, .int .i64 0, .slice none 0 0]):=by kernel_rfl
theorem Cz:A9 prog 40=some (some 11):=by kernel_rfl
theorem GO:Ab prog 40=some 11:=by kernel_rfl
theorem Y0:Ap prog 40 0=some 0:=by kernel_rfl
theorem Cq:Ah prog 40=some (.agg #[.int .i64 0, .int .i64 0, .int .i64 0, .int .i64 0, .string (bs []), .string (bs []), .slice none 0 0, .int .i64 0, .int .i64 0, .int .i64 0, .slice none 0 0]):=by kernel_rfl
theorem Ih:A9 prog 44=some none:=by kernel_rfl
theorem AJb:Ab prog 44=some 1:=by kernel_rfl
theorem AJv:Ah prog 44=some (.pointer none):=by kernel_rfl
theorem GK:A9 prog 62=some (some 9):=by kernel_rfl
theorem FW:Ab prog 62=some 9:=by kernel_rfl
theorem ZW:DP prog 62=some 9:=by kernel_rfl
theorem SR:Ap prog 62 4=some 4:=by kernel_rfl
theorem AGP:Ap prog 62 6=some 6:=by kernel_rfl
theorem FU:Ah prog 62=some (.agg #[.int .i64 0, .int .i64 0, .int .i64 0, .int .i64 0, .int .i64 0, .int .i64 0, .int .i64 0, .int .i64 0, .int .i64 0]):=by kernel_rfl
theorem ACb:A9 prog 63=some none:=by kernel_rfl
theorem AJM:Ab prog 63=some 1:=by kernel_rfl
theorem Br:Au prog 63=some (9,1,16):=by kernel_rfl
theorem AJN:Ah prog 63=some (.slice none 0 0):=by kernel_rfl
theorem ZT:Ab prog 64=some 1:=by kernel_rfl
theorem Gc:Au prog 64=some (66,17,200):=by kernel_rfl
theorem Dg:A9 prog 66=some (some 17):=by kernel_rfl
theorem Gv:Ab prog 66=some 17:=by kernel_rfl
theorem AGu:Ap prog 66 2=some 2:=by kernel_rfl
theorem AGt:Ap prog 66 3=some 3:=by kernel_rfl
theorem Em:Ah prog 66=some (.agg #[.int .i64 0, .int .i64 0, .int .i64 0, .string (bs []), .string (bs []), .int .i64 0, .int .i64 0, .int .i64 0, .int .i64 0, .int .i64 0, .int .i64 0, .int .i64 0, .int .i64 0, .int .i64 0, .slice none 0 0, .slice none 0 0, .slice none 0 0]):=by kernel_rfl
theorem AEV:A9 prog 70=some none:=by kernel_rfl
theorem AJ8:Au prog 70=some (73,10,144):=by kernel_rfl
theorem Vo:A9 prog 73=some (some 10):=by kernel_rfl
theorem AJ2:Ab prog 73=some 10:=by kernel_rfl
theorem AJ9:DP prog 73=some 10:=by kernel_rfl
theorem AFh:Ap prog 73 6=some 6:=by kernel_rfl
theorem TC:Ap prog 73 8=some 8:=by kernel_rfl
theorem AHZ:Ah prog 73=some (.agg #[.int .i64 0, .int .i64 0, .string (bs []), .string (bs []), .slice none 0 0, .int .i64 0, .int .i64 0, .bool false, .slice none 0 0, .slice none 0 0]):=by kernel_rfl
theorem AJq:A9 prog 79=some (some 13):=by kernel_rfl
theorem JI:Au prog 80=some (208,3,32):=by kernel_rfl
theorem AJo:Ah prog 80=some (.slice none 0 0):=by kernel_rfl
theorem AB3:A9 prog 83=some none:=by kernel_rfl
theorem NH:Au prog 83=some (110,64,64):=by kernel_rfl
theorem AHW:A9 prog 84=some none:=by kernel_rfl
theorem AJn:DP prog 86=some 5:=by kernel_rfl
theorem TD:Ap prog 86 0=some 0:=by kernel_rfl
theorem ZB:Ap prog 86 1=some 1:=by kernel_rfl
theorem AFt:Ap prog 86 4=some 4:=by kernel_rfl
theorem AKK:Ah prog 86=some (.agg #[.slice none 0 0, .map none, .int .i64 0, .int .i64 0, .bool false]):=by kernel_rfl
theorem AKE:DP prog 94=some 2:=by kernel_rfl
theorem AJs:Ah prog 94=some (.agg #[.int .i64 0, .int .i64 0]):=by kernel_rfl
theorem AJ3:A9 prog 96=some (some 8):=by kernel_rfl
theorem AJO:Ab prog 96=some 8:=by kernel_rfl
theorem AGK:Ap prog 96 4=some 5:=by kernel_rfl
theorem IE:Ap prog 96 5=some 6:=by kernel_rfl
theorem ZS:Ap prog 96 6=some 7:=by kernel_rfl
theorem Tg:Ah prog 96=some (.agg #[.int .i64 0, .int .i64 0, .pointer none, .int .i64 0, .string (bs []), .slice none 0 0, .slice none 0 0, .bool false]):=by kernel_rfl
theorem XX:A9 prog 101=some none:=by kernel_rfl
theorem AH6:Ab prog 101=some 1:=by kernel_rfl
theorem AHm:Ah prog 101=some (.pointer none):=by kernel_rfl
theorem MT:A9 prog 110=some (some 64):=by kernel_rfl
theorem Ix:Ab prog 110=some 64:=by kernel_rfl
theorem Oq:JJ prog 110=some (64,5,1):=by kernel_rfl
theorem Kl:Ah prog 110=some (.agg #[.int .u8 0, .int .u8 0, .int .u8 0, .int .u8 0, .int .u8 0, .int .u8 0, .int .u8 0, .int .u8 0, .int .u8 0, .int .u8 0, .int .u8 0, .int .u8 0, .int .u8 0, .int .u8 0, .int .u8 0, .int .u8 0, .int .u8 0, .int .u8 0, .int .u8 0, .int .u8 0, .int .u8 0, .int .u8 0, .int .u8 0, .int .u8 0, .int .u8 0, .int .u8 0, .int .u8 0, .int .u8 0, .int .u8 0, .int .u8 0, .int .u8 0, .int .u8 0, .int .u8 0, .int .u8 0, .int .u8 0, .int .u8 0, .int .u8 0, .int .u8 0, .int .u8 0, .int .u8 0, .int .u8 0, .int .u8 0, .int .u8 0, .int .u8 0, .int .u8 0, .int .u8 0, .int .u8 0, .int .u8 0, .int .u8 0, .int .u8 0, .int .u8 0, .int .u8 0, .int .u8 0, .int .u8 0, .int .u8 0, .int .u8 0, .int .u8 0, .int .u8 0, .int .u8 0, .int .u8 0, .int .u8 0, .int .u8 0, .int .u8 0, .int .u8 0]):=by kernel_rfl
theorem AEz:A9 prog 111=some none:=by kernel_rfl
theorem Bw:Au prog 111=some (5,1,1):=by kernel_rfl
theorem X7:DP prog 123=some 3:=by kernel_rfl
theorem WA:Ah prog 123=some (.agg #[.map none, .map none, .int .i64 0]):=by kernel_rfl
theorem AD2:A9 prog 126=some (some 2):=by kernel_rfl
theorem O7:Ab prog 126=some 2:=by kernel_rfl
theorem ABt:DP prog 126=some 2:=by kernel_rfl
theorem Gl:Ah prog 126=some (.agg #[.int .i64 0, .string (bs [])]):=by kernel_rfl
theorem DF:Ah prog 128=some (.pointer none):=by kernel_rfl
theorem AD6:Ap prog 130 2=some 2:=by kernel_rfl
theorem Kk:Ah prog 130=some (.agg #[.string (bs []), .slice none 0 0, .int .i64 0, .int .i64 0, .int .i64 0, .int .i64 0, .int .i64 0, .int .i64 0, .int .i64 0, .int .i64 0, .int .i64 0]):=by kernel_rfl
theorem JP:A9 prog 133=some (some 2):=by kernel_rfl
theorem S1:Ab prog 133=some 2:=by kernel_rfl
theorem SK:DP prog 133=some 2:=by kernel_rfl
theorem EI:Ah prog 133=some (.agg #[.int .i64 0, .string (bs [])]):=by kernel_rfl
theorem AII:DP prog 138=some 2:=by kernel_rfl
theorem AID:Ah prog 138=some (.agg #[.pointer none, .pointer none]):=by kernel_rfl
theorem AIz:Ah prog 142=some (.agg #[.pointer none, .pointer none, .slice none 0 0, .int .i64 0, .map none, .map none]):=by kernel_rfl
theorem FI:A9 prog 153=some (some 6):=by kernel_rfl
theorem Dq:Ab prog 153=some 6:=by kernel_rfl
theorem Gm:DP prog 153=some 6:=by kernel_rfl
theorem N7:Ap prog 153 0=some 0:=by kernel_rfl
theorem Tt:Ap prog 153 1=some 1:=by kernel_rfl
theorem Ue:Ap prog 153 2=some 2:=by kernel_rfl
theorem ACN:Ap prog 153 3=some 3:=by kernel_rfl
theorem ABq:Ap prog 153 4=some 4:=by kernel_rfl
theorem ADl:Ap prog 153 5=some 5:=by kernel_rfl
theorem Db:Ah prog 153=some (.agg #[.int .i64 0, .int .i64 0, .int .i64 0, .int .i64 0, .int .i64 0, .int .i64 0]):=by kernel_rfl
theorem IC:Au prog 154=some (92,1,8):=by kernel_rfl
theorem ADN:DP prog 156=some 9:=by kernel_rfl
theorem ADO:Ah prog 156=some (.agg #[.pointer none, .slice none 0 0, .int .i64 0, .slice none 0 0, .int .i64 0, .int .i64 0, .int .i64 0, .int .i64 0, .bool false]):=by kernel_rfl
theorem AEU:Ab prog 162=some 1:=by kernel_rfl
theorem AC5:Ah prog 162=some (.pointer none):=by kernel_rfl
theorem AIP:DP prog 170=some 4:=by kernel_rfl
theorem T2:Ap prog 170 1=some 1:=by kernel_rfl
theorem V1:Ap prog 170 2=some 2:=by kernel_rfl
theorem JN:Ap prog 170 3=some 3:=by kernel_rfl
theorem AHc:Ah prog 170=some (.agg #[.int .i64 0, .nilFunc, .nilFunc, .bool false]):=by kernel_rfl
theorem ADF:A9 prog 194=some none:=by kernel_rfl
theorem AEZ:Ah prog 194=some (.pointer none):=by kernel_rfl
theorem ACr:JJ prog 195=some (7,194,1):=by kernel_rfl
theorem AIS:Ah prog 195=some (.agg #[.pointer none, .pointer none, .pointer none, .pointer none, .pointer none, .pointer none, .pointer none]):=by kernel_rfl
theorem Rm:Ah prog 201=some (.map none):=by kernel_rfl
theorem AIj:DP prog 203=some 2:=by kernel_rfl
theorem AIB:Ah prog 203=some (.agg #[.map none, .map none]):=by kernel_rfl
theorem XZ:Au prog 205=some (210,4,40):=by kernel_rfl
theorem YR:A9 prog 208=some (some 3):=by kernel_rfl
theorem AIm:Ab prog 208=some 3:=by kernel_rfl
theorem Kw:DP prog 208=some 3:=by kernel_rfl
theorem Dc:Ah prog 208=some (.agg #[.int .i64 0, .string (bs []), .int .i64 0]):=by kernel_rfl
theorem AI1:A9 prog 210=some (some 4):=by kernel_rfl
theorem AIb:Ab prog 210=some 4:=by kernel_rfl
theorem Sw:Ah prog 210=some (.agg #[.int .i64 0, .int .i64 0, .string (bs []), .int .i64 0]):=by kernel_rfl
theorem Gi:A9 prog 215=some (some 13):=by kernel_rfl
theorem AIp:Ab prog 215=some 13:=by kernel_rfl
theorem ABv:Ap prog 215 0=some 0:=by kernel_rfl
theorem Vu:Ap prog 215 1=some 1:=by kernel_rfl
theorem LJ:Ap prog 215 3=some 3:=by kernel_rfl
theorem Xy:Ah prog 215=some (.agg #[.pointer none, .int .i64 0, .slice none 0 0, .int .i64 0, .int .i64 0, .string (bs []), .string (bs []), .slice none 0 0, .int .i64 0, .int .i64 0, .bool false, .slice none 0 0, .slice none 0 0]):=by kernel_rfl
theorem AIv:DP prog 233=some 2:=by kernel_rfl
theorem VG:Ap prog 233 0=some 0:=by kernel_rfl
theorem Uo:Ap prog 233 1=some 1:=by kernel_rfl
theorem AIL:Ah prog 233=some (.agg #[.slice none 0 0, .int .i64 0]):=by kernel_rfl
theorem AIY:Ah prog 235=some (.agg #[.slice none 0 0, .int .i64 0]):=by kernel_rfl
theorem AE3:JJ prog 248=some (7,3,1):=by kernel_rfl
theorem AIM:Ah prog 248=some (.agg #[.int .i64 0, .int .i64 0, .int .i64 0, .int .i64 0, .int .i64 0, .int .i64 0, .int .i64 0]):=by kernel_rfl
theorem Jb:Ap prog 259 0=some 0:=by kernel_rfl
theorem T3:Ap prog 259 1=some 2:=by kernel_rfl
theorem AIn:Ah prog 259=some (.agg #[.slice none 0 0, .int .i64 0, .int .i64 0]):=by kernel_rfl
theorem IU:A9 prog 266=some (some 2):=by kernel_rfl
theorem Wo:Ab prog 266=some 2:=by kernel_rfl
theorem AIw:DP prog 266=some 2:=by kernel_rfl
theorem MF:Ah prog 266=some (.agg #[.int .i64 0, .string (bs [])]):=by kernel_rfl
theorem X3:Au prog 268=some (266,2,24):=by kernel_rfl
theorem KT:A9 prog 282=some (some 4):=by kernel_rfl
theorem OK:Ab prog 282=some 4:=by kernel_rfl
theorem Rv:DP prog 282=some 4:=by kernel_rfl
theorem AEx:Ap prog 282 0=some 0:=by kernel_rfl
theorem Vl:Ap prog 282 2=some 2:=by kernel_rfl
theorem ABo:Ap prog 282 3=some 3:=by kernel_rfl
theorem MK:Ah prog 282=some (.agg #[.nilFunc, .int .i64 0, .nilFunc, .nilFunc]):=by kernel_rfl
theorem XF:Au prog 306=some (194,1,8):=by kernel_rfl
theorem WN:A9 prog 322=some (some 5):=by kernel_rfl
theorem Wb:Ab prog 322=some 5:=by kernel_rfl
theorem Ku:Ah prog 322=some (.agg #[.int .i64 0, .nilFunc, .int .i64 0, .nilFunc, .nilFunc]):=by kernel_rfl
theorem ACR:Au prog 323=some (322,5,40):=by kernel_rfl
def fT:List (Nat×List Nat):=[(7,[0,1,2,3]),(8,[0,1,2,3]),(13,[0,1]),(14,[0,1]),(18,[0]),(19,[0]),(37,[0,1,2,3,4,5,6,7]),(38,[0,1,2,3,4,5,6,7]),(39,[0,1,2,3]),(40,[0,1,2,3]),(61,[0,1,2,3,4,5,6,7,8]),(62,[0,1,2,3,4,5,6,7,8]),(65,[0,1,2,3,4,5,14,15,16]),(66,[0,1,2,3,4,5,14,15,16]),(72,[0,1,2,3,4,5,6,7,8,9]),(73,[0,1,2,3,4,5,6,7,8,9]),(78,[0,1,2,3]),(79,[0,1,2,3]),(85,[0,1,2,3,4]),(86,[0,1,2,3,4]),(93,[0,1]),(94,[0,1]),(95,[0,2,3,4,5,6,7]),(96,[0,2,3,4,5,6,7]),(122,[0,1,2]),(123,[0,1,2]),(125,[0,1]),(126,[0,1]),(129,[0,1,2]),(130,[0,1,2]),(132,[0,1]),(133,[0,1]),(137,[0,1]),(138,[0,1]),(141,[0,2,3,4,5]),(142,[0,2,3,4,5]),(152,[0,1,2,3,4,5]),(153,[0,1,2,3,4,5]),(155,[0,1,2,3,4,5,6,7,8]),(156,[0,1,2,3,4,5,6,7,8]),(169,[0,1,2,3]),(170,[0,1,2,3]),(202,[0,1]),(203,[0,1]),(207,[0,1,2]),(208,[0,1,2]),(209,[0,1]),(210,[0,1]),(214,[0,1,2,3]),(215,[0,1,2,3]),(232,[0,1]),(233,[0,1]),(234,[0]),(235,[0]),(258,[0,2]),(259,[0,2]),(265,[0,1]),(266,[0,1]),(281,[0,1,2,3]),(282,[0,1,2,3]),(291,[0,1,2,3,4]),(292,[0,1,2,3,4]),(322,[0,1]),(328,[0,1]),(329,[0,1]),(389,[0,1]),(390,[0,1]),(394,[0,1,2,3]),(395,[0,1,2,3]),(404,[0,1,2,3,4,5,6,7,8,9,10]),(405,[0,1,2,3,4,5,6,7,8,9,10])]
def aM:Nat:=200124406185130633368564727553104954219922011547426126141290255744970546720140489210057520277509414477240147455783423155836
theorem AJI:(fT.all fun x=>(List.range x.2.length).all fun i=>decide (x.2[i]?=none∨Ap prog x.1 i=x.2[i]?))=true:=by kernel_rfl
theorem AHJ:((List.range 407).all fun t=> !Nat.testBit aM t||decide (A9 prog t=some none∧Ab prog t=some 1))=true:=by kernel_rfl
def stM:Nat:=3584
def XG:Option TypeDesc→Bool
 |some (.string)=>true
 |_=>false
theorem AH1 {u:Option TypeDesc} (h:XG u=true):u=some .string:=by
 unfold XG at h;split at h
 ·first|rfl|exact ⟨_,rfl⟩
 ·cases h
theorem AIJ:((List.range 407).all fun t=> !Nat.testBit stM t||XG (Program.underlying prog t))=true:=by kernel_rfl
def slM:Nat:=17088026657669766540554092345927611623392715484703798999796101018901715445703895978891900952248320
def Wa:Option TypeDesc→Bool
 |some (.slice _)=>true
 |_=>false
theorem AIE {u:Option TypeDesc} (h:Wa u=true):∃e,u=some (.slice e):=by
 unfold Wa at h;split at h
 ·first|rfl|exact ⟨_,rfl⟩
 ·cases h
theorem AIu:((List.range 407).all fun t=> !Nat.testBit slM t||Wa (Program.underlying prog t))=true:=by kernel_rfl
def ptM:Nat:=165264031599569520403749699610219995293125268829481947961568540150263573227743357508211318606066138506315303963199679987712
def V9:Option TypeDesc→Bool
 |some (.pointer _)=>true
 |_=>false
theorem AH2 {u:Option TypeDesc} (h:V9 u=true):∃e,u=some (.pointer e):=by
 unfold V9 at h;split at h
 ·first|rfl|exact ⟨_,rfl⟩
 ·cases h
theorem AH0:((List.range 407).all fun t=> !Nat.testBit ptM t||V9 (Program.underlying prog t))=true:=by kernel_rfl
def boM:Nat:=16
def YI:Option TypeDesc→Bool
 |some (.bool)=>true
 |_=>false
theorem AH7 {u:Option TypeDesc} (h:YI u=true):u=some .bool:=by
 unfold YI at h;split at h
 ·first|rfl|exact ⟨_,rfl⟩
 ·cases h
theorem AIk:((List.range 407).all fun t=> !Nat.testBit boM t||YI (Program.underlying prog t))=true:=by kernel_rfl
def mN:Nat:=407
end Go.Proofs.YtbhkloaagkkioaaGreatDoor
